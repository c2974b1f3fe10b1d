/- Plain: the fit that is chosen. No program in sight. -/
import Derived.Test.YtldghloflegpmaaChA
import Derived.Test.YtldghloflegpmaaPuB
import Derived.Test.YtldghloflegpmaaR17
namespace Go.Proofs.Ytldghloflegpmaa
open Pu

/-- Either nothing is chosen, or a fit that is right and serves. -/
def Chosen (n lo hi : Int) (s : Option (Fin 640) × Int) : Prop :=
  (s.2 = -1 ∧ s.1 = none) ∨ ∃ k, okB n k = true ∧ s = (some k, cHi n k - cLo n k) ∧ lo ≤ cLo n k ∧ cHi n k ≤ hi ∧ 0 ≤ cHi n k - cLo n k
theorem chosen_low {n lo hi : Int} {s : Option (Fin 640) × Int} (h : Chosen n lo hi s) : -1 ≤ s.2 := by
  rcases h with ⟨h, _⟩ | ⟨k, _, rfl, _, _, h⟩
  · omega
  · show -1 ≤ cHi n k - cLo n k
    omega
theorem chosen_step {n lo hi : Int} {s : Option (Fin 640) × Int} (h : Chosen n lo hi s) (k : Fin 640) (hk : okB n k = true) : Chosen n lo hi (stepC n lo hi s k) := by
  unfold stepC
  split
  · next h1 =>
    have := chosen_low h
    exact Or.inr ⟨k, hk, rfl, h1.1, h1.2.1, by omega⟩
  · exact h
theorem chosen_fold {n lo hi : Int} : ∀ (l : List (Fin 640)) (s : Option (Fin 640) × Int), (∀ k ∈ l, okB n k = true) → Chosen n lo hi s → Chosen n lo hi (l.foldl (stepC n lo hi) s)
  | [], _, _, h => h
  | x :: l, s, hl, h => chosen_fold l _ (fun k hk => hl k (by simp [hk])) (chosen_step h x (hl x (by simp)))
theorem chosen_all (n lo hi : Int) : Chosen n lo hi (chC n lo hi (allB.filter (okB n))) :=
  chosen_fold _ _ (fun _ hk => (List.mem_filter.1 hk).2) (Or.inl ⟨rfl, rfl⟩)
/-- The limits of a right class. -/
theorem m_ok {n : Int} {h : Bool} {l g : Int} (hl : lE n h l g = 0) : 1 ≤ mLow n h l g ∧ mLow n h l g ≤ mHigh n h l g ∧ mHigh n h l g ≤ 100000 := by
  have := m_low hl
  have hd := d_bd n h l g
  rw [this.1, this.2]
  unfold lE at hl
  by_cases hz : dE n l g = 0
  · rw [if_pos hz] at hl
    by_cases h1 : n + dLow n h l g < 1 ∨ 100000 < n + dHigh n h l g
    · rw [if_pos h1] at hl; omega
    · omega
  · rw [if_neg hz] at hl; exact absurd hl hz
theorem hole_at {n g : Int} (hl : lE n true 4 g = 0) : mLow n true 4 g = n := by
  rw [(m_low hl).1, (hole_h n g).1]; omega
/-- What is known of a chosen fit: by its numbers alone. -/
theorem chosen_is {n lo hi : Int} (h0 : ¬ (chC n lo hi (allB.filter (okB n))).2 < 0) : ∃ (h l g mH sL sH : Int), chV n lo hi = .tuple #[.agg (fitC n true 4 h false l g), .int .i64 0] ∧ fE n true 4 h false l g = 0 ∧
    mLow n true 4 h = n ∧ mHigh n true 4 h = mH ∧ mLow n false l g = sL ∧ mHigh n false l g = sH ∧ 1 ≤ n ∧ n ≤ mH ∧ mH ≤ 100000 ∧ 1 ≤ sL ∧ sL ≤ sH ∧ sH ≤ 100000 ∧ lo ≤ n - sH ∧ mH - sL ≤ hi ∧
    pLow n true 4 h false l g = n - sH ∧ pHigh n true 4 h false l g = mH - sL := by
  rcases chosen_all n lo hi with ⟨h, _⟩ | ⟨k, hk, hs, h1, h2, h3⟩
  · exact absurd h (by omega)
  · have hf : fE n true 4 (bH k) false (bL k) (bG k) = 0 := by unfold okB at hk; simpa using hk
    obtain ⟨_, _, _, _, _, l1, l2⟩ := fE_ok hf
    have a := m_ok l1
    have b := m_ok l2
    have c := hole_at l1
    have hv : chV n lo hi = .tuple #[.agg (fitC n true 4 (bH k) false (bL k) (bG k)), .int .i64 0] := by unfold chV; rw [if_neg h0, hs]; rfl
    refine ⟨bH k, bL k, bG k, _, _, _, hv, hf, c, rfl, rfl, rfl, ?_⟩
    unfold pLow pHigh
    rw [if_pos hf, if_pos hf]
    unfold cLo at h1
    unfold cHi at h2
    rw [c] at a h1 ⊢
    omega
theorem chosen_not {n lo hi : Int} (h0 : (chC n lo hi (allB.filter (okB n))).2 < 0) : chV n lo hi = .tuple #[.agg (fitC 0 false 0 0 false 0 0), .int .i64 6] := by unfold chV; rw [if_pos h0]
theorem lim17_ok {lo hi : Int} : lim17 lo hi = 0 ↔ (-100000 ≤ lo ∧ lo ≤ 100000) ∧ (-100000 ≤ hi ∧ hi ≤ 100000) ∧ lo ≤ hi := by
  unfold lim17
  split
  · split <;> omega
  · omega
end Go.Proofs.Ytldghloflegpmaa

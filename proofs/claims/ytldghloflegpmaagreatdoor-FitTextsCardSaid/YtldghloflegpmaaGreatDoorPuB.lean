/- Plain laws of fits of a basic hole: what the clearance is, and how it grows with the grades. No program in sight. -/
import Derived.Test.YtldghloflegpmaaGreatDoorFtB
namespace Go.Proofs.YtldghloflegpmaaGreatDoor
open Pu
theorem fac_up (i : Nat) (h : i < 7) : fac i + 3 ≤ fac (i + 1) := by
  have h7 : i = 0 ∨ i = 1 ∨ i = 2 ∨ i = 3 ∨ i = 4 ∨ i = 5 ∨ i = 6 := by omega
  rcases h7 with rfl | rfl | rfl | rfl | rfl | rfl | rfl <;> simp [fac]
theorem tol_up (n g : Int) (h5 : 5 ≤ g) (h12 : g < 12) : tol n g < tol n (g + 1) := by
  obtain ⟨i, rfl⟩ : ∃ i : Nat, g = 5 + (i : Int) := ⟨(g - 5).toNat, by omega⟩
  have e1 : ((5 + (i : Int)) - 5).toNat = i := by omega
  have e2 : ((5 + (i : Int)) + 1 - 5).toNat = i + 1 := by omega
  unfold tol
  rw [e1, e2]
  have hf := fac_up i (by omega)
  have hb := bs_bd n
  have hm : bs n * fac i + bs n * 3 ≤ bs n * fac (i + 1) := by rw [← Int.mul_add]; exact Int.mul_le_mul_of_nonneg_left hf (by omega)
  omega
theorem m_low {n : Int} {h : Bool} {l g : Int} (hl : lE n h l g = 0) : mLow n h l g = n + dLow n h l g ∧ mHigh n h l g = n + dHigh n h l g := by
  unfold mLow mHigh; rw [if_pos hl, if_pos hl]; exact ⟨rfl, rfl⟩
theorem sh_h (n : Int) : sh n 4 = 0 := by unfold sh; simp [shf]
/-- A hole H begins at the size. -/
theorem hole_h (n g : Int) : dLow n true 4 g = 0 ∧ dHigh n true 4 g = tol n g := by
  have := sh_h n
  constructor <;> simp [dLow, dHigh, sLow, sHigh, this]
theorem shaft_below (n l g : Int) (h : l < 5) : dLow n false l g = -sh n l - tol n g ∧ dHigh n false l g = -sh n l := by
  constructor
  · simp only [dLow, Bool.false_eq_true, if_false]; unfold sLow; rw [if_neg (by omega), if_pos h]
  · simp only [dHigh, Bool.false_eq_true, if_false]; unfold sHigh; rw [if_neg (by omega), if_pos h]
theorem play_h {n h l s : Int} (hf : fE n true 4 h false l s = 0) (hl : l ≤ 4) : pLow n true 4 h false l s = sh n l ∧ pHigh n true 4 h false l s = tol n h + sh n l + tol n s := by
  obtain ⟨_, _, _, _, _, h1, h2⟩ := fE_ok hf
  have a := hole_h n h
  have b := shaft_below n l s (by omega)
  unfold pLow pHigh
  rw [if_pos hf, if_pos hf, (m_low h1).1, (m_low h1).2, (m_low h2).1, (m_low h2).2, a.1, a.2, b.1, b.2]
  omega
theorem right_bd {n h l s : Int} (hf : fE n true 4 h false l s = 0) : (5 ≤ h ∧ h ≤ 12) ∧ (5 ≤ s ∧ s ≤ 12) ∧ 0 ≤ l ∧ l ≤ 9 := by
  obtain ⟨_, h1, h2, _⟩ := fE_ok hf
  have := cE_ok.1 h1; have := cE_ok.1 h2
  omega
end Go.Proofs.YtldghloflegpmaaGreatDoor

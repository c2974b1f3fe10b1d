/- Contract of slices.Index, slices.Contains at classes. -/
import Derived.Test.YtldghloflegpmaaGreatDoorFnA
import Derived.Test.YtldghloflegpmaaGreatDoorRfG
namespace Go.Proofs.YtldghloflegpmaaGreatDoor
open Go.RowKit Pu Go.Lib

theorem flat_at : ∀ (ks : List (Fin 160)) (i j : Nat) (hi : i < ks.length) (_ : j < 3), (ks.flatMap cellsK)[i * 3 + j]? = (cellsK ks[i])[j]?
  | [], i, _, hi, _ => by simp at hi
  | k :: ks, 0, j, _, hj => by
    rw [List.flatMap_cons, Nat.zero_mul, Nat.zero_add, List.getElem?_append_left (by simp [cellsK]; omega)]
    rfl
  | k :: ks, i + 1, j, hi, hj => by
    rw [List.flatMap_cons, List.getElem?_append_right (by simp [cellsK]; omega)]
    have e : (i + 1) * 3 + j - (cellsK k).length = i * 3 + j := by simp [cellsK]; omega
    rw [e, flat_at ks i j (by simpa using hi) hj]
    rfl
/-- The cells of an owned row of classes. -/
theorem own_cells {W : World} {B g cap : Nat} {ks : List (Fin 160)} {T : TypeId} (h : W.ownsRow B T 3 (.slice (some ⟨g, 0, none⟩) ks.length cap) ks.length (ks.flatMap cellsK)) (i : Nat) (hi : i < ks.length) (j : Nat) (hj : j < 3) :
    W.cell? ⟨g, i * 3 + j, none⟩ = (cellsK ks[i])[j]? := by
  rcases h.2 with ⟨e, _⟩ | ⟨g', cap', cur, e, _, hg, hn, _, hsz, ht⟩
  · cases e
  · cases e
    have h1 : (cur.toList.take (ks.length * 3))[i * 3 + j]? = (cellsK ks[i])[j]? := by rw [ht]; exact flat_at ks i j hi hj
    rw [List.getElem?_take_of_lt (by omega)] at h1
    simp [World.cell?, hg]
    simpa using h1

theorem k_inj {a b : Fin 160} (h1 : kH a = kH b) (h2 : kL a = kL b) (h3 : kG a = kG b) : a = b := by
  unfold kH at h1
  unfold kL at h2
  unfold kG at h3
  have h1' : 80 ≤ a.1 ↔ 80 ≤ b.1 := decide_eq_decide.1 h1
  apply Fin.ext
  omega
/-- A text of a class is read back. -/
def txtK (k : Fin 160) : List UInt8 := (if kH k then cpL (kL k).toNat else smL (kL k).toNat) :: (if (kG k).toNat < 10 then [UInt8.ofNat (48 + (kG k).toNat)] else [49, UInt8.ofNat (48 + ((kG k).toNat - 10))])
theorem txt_eq (k : Fin 160) : fmtL (kH k) (kL k) (kG k) = txtK k := by
  have hb := k_bd k
  unfold fmtL txtK
  congr 1
  by_cases h : (kG k).toNat < 10
  · rw [if_pos h, Lib.decDigits, dif_pos h]
  · rw [if_neg h]
    obtain ⟨r, hr⟩ : ∃ r, (kG k).toNat = 10 + r := ⟨(kG k).toNat - 10, by omega⟩
    rw [hr, dec_two r (by omega), show 10 + r - 10 = r by omega]
set_option maxRecDepth 100000 in
theorem back_all : ∀ k : Fin 160, prsE (txtK k) = 0 ∧ decide (((txtK k).headD 0).toNat < 97) = kH k ∧ pLet ((txtK k).headD 0) = kL k ∧ dNum ((txtK k).drop 1) = kG k := by decide +kernel
theorem back_k (k : Fin 160) : prsV (fmtL (kH k) (kL k) (kG k)) = clsV (kH k) (kL k) (kG k) 0 := by
  obtain ⟨h1, h2, h3, h4⟩ := back_all k
  unfold prsV
  rw [txt_eq, if_pos h1, h2, h3, h4]
theorem k_of {h : Bool} {l g : Int} (l0 : 0 ≤ l) (l9 : l ≤ 9) (g5 : 5 ≤ g) (g12 : g ≤ 12) : ∃ k : Fin 160, kH k = h ∧ kL k = l ∧ kG k = g := by
  cases h
  · refine ⟨⟨8 * l.toNat + (g - 5).toNat, by omega⟩, ?_, ?_, ?_⟩
    · unfold kH; simp; omega
    · unfold kL; simp; omega
    · unfold kG; simp; omega
  · refine ⟨⟨80 + 8 * l.toNat + (g - 5).toNat, by omega⟩, ?_, ?_, ?_⟩
    · unfold kH; simp; omega
    · unfold kL; simp; omega
    · unfold kG; simp; omega
theorem mem_fnd (n : Int) (k : Fin 160) : k ∈ fndK n (dLow n (kH k) (kL k) (kG k)) (dHigh n (kH k) (kL k) (kG k)) allK := by
  unfold fndK
  rw [List.mem_filter]
  exact ⟨List.mem_finRange k, by unfold hasD; simp⟩
theorem fnd_len (n lo hi : Int) : (fndK n lo hi allK).length ≤ 160 := by
  have := List.length_filter_le (hasD n lo hi) allK
  rw [allK_len] at this
  exact this
end Go.Proofs.YtldghloflegpmaaGreatDoor

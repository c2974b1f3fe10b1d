/- Plain: quotients of numbers, as texts; what stands before and behind a byte of a text. No program in sight. -/
import Derived.Test.YtldghloflegpmaaGreatDoorGl
namespace Go.Proofs.YtldghloflegpmaaGreatDoor
open Pu Go.Lib

theorem indexByte_at : ∀ (a : List UInt8) (c : UInt8) (b : List UInt8), (∀ x ∈ a, x ≠ c) → Lib.indexByte (a ++ c :: b) c = (a.length : Int)
  | [], c, b, _ => by simp [Lib.indexByte]
  | x :: a, c, b, h => by
    have hx : (x == c) = false := by simpa using h x (by simp)
    have ih := indexByte_at a c b fun y hy => h y (by simp [hy])
    have hi : Lib.indexByte (x :: a ++ c :: b) c = if x == c then 0 else (if Lib.indexByte (a ++ c :: b) c == -1 then -1 else Lib.indexByte (a ++ c :: b) c + 1) := rfl
    rw [hi, hx, ih]
    have : (((a.length : Int)) == -1) = false := by simp
    simp [this]
theorem indexByte_not : ∀ (a : List UInt8) (c : UInt8), (∀ x ∈ a, x ≠ c) → Lib.indexByte a c = -1
  | [], c, _ => rfl
  | x :: a, c, h => by
    have hx : (x == c) = false := by simpa using h x (by simp)
    have ih := indexByte_not a c fun y hy => h y (by simp [hy])
    have hi : Lib.indexByte (x :: a) c = if x == c then 0 else (if Lib.indexByte a c == -1 then -1 else Lib.indexByte a c + 1) := rfl
    rw [hi, hx, ih]
    rfl
theorem cut_at (a : List UInt8) (c : UInt8) (b : List UInt8) (h : ∀ x ∈ a, x ≠ c) : Lib.cut (a ++ c :: b) [c] = (a, b, true) := by
  unfold Lib.cut
  rw [index_one, indexByte_at a c b h, if_pos (by omega)]
  simp
theorem cut_not (a : List UInt8) (c : UInt8) (h : ∀ x ∈ a, x ≠ c) : Lib.cut a [c] = (a, [], false) := by
  unfold Lib.cut
  rw [index_one, indexByte_not a c h, if_neg (by omega)]
theorem dD_no {u : Nat} {c : UInt8} (hc : c.toNat < 48 ∨ 57 < c.toNat) : ∀ x ∈ Lib.decDigits u, x ≠ c := by
  intro x hx e
  have := dD_dig u x hx
  rw [e] at this
  omega
/-- The text of a quotient. -/
def rL (p q : Nat) : List UInt8 := if q = 1 then Lib.decDigits p else Lib.decDigits p ++ 47 :: Lib.decDigits q
def rT (p q : Nat) : ByteArray := ⟨(rL p q).toArray⟩
theorem rT_list (p q : Nat) : (rT p q).data.toList = rL p q := rfl
theorem rL_cut (p q : Nat) : Lib.cut (rL p q) [47] = (Lib.decDigits p, (if q = 1 then [] else Lib.decDigits q), decide (q ≠ 1)) := by
  unfold rL
  by_cases h : q = 1
  · rw [if_pos h, if_pos h, cut_not _ _ (dD_no (Or.inl (by decide)))]
    simp [h]
  · rw [if_neg h, if_neg h, cut_at _ _ _ (dD_no (Or.inl (by decide)))]
    simp [h]
theorem rT_size (p q : Nat) (hp : p < 1000000000) (hq : q < 1000000000) : (rT p q).size ≤ 19 := by
  have h1 := dD_len 8 p hp
  have h2 := dD_len 8 q hq
  show (rL p q).toArray.size ≤ 19
  unfold rL
  split <;> simp <;> omega
end Go.Proofs.YtldghloflegpmaaGreatDoor

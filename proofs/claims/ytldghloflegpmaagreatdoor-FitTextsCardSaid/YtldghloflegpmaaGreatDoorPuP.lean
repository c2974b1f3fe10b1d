/- Plain: what a text of a class reads as. No program in sight. -/
import Derived.Test.YtldghloflegpmaaGreatDoorPure
import Derived.Lib.Atoi
import Derived.Lib.SlTrimSet
import Derived.Lib.Bytealg
namespace Go.Proofs.YtldghloflegpmaaGreatDoor
open Pu Go.Lib

/-- The letter of a class, by the first byte. -/
def pLet (c : UInt8) : Int := if c.toNat < 97 then Lib.indexByte [68, 69, 70, 71, 72, 74, 75, 77, 78, 80] c else Lib.indexByte [100, 101, 102, 103, 104, 106, 107, 109, 110, 112] c
def digC : List UInt8 := [48, 49, 50, 51, 52, 53, 54, 55, 56, 57]
/-- The number that digits read as. -/
def dNum (l : List UInt8) : Int := (Lib.atoi l).getD 0
/-- The number of the error of the text of a class. -/
def prsE (l : List UInt8) : Int :=
  if l.length < 2 ∨ 4 < l.length then 4
  else if pLet (l.headD 0) < 0 then 4
  else if ¬ Lib.trimS (l.drop 1) digC = [] then 4
  else if ((l.drop 1).headD 0).toNat = 48 ∧ 1 < (l.drop 1).length then 4
  else gE (dNum (l.drop 1))
theorem dropWhile_nil {p : UInt8 → Bool} : ∀ {l : List UInt8}, l.dropWhile p = [] → ∀ b ∈ l, p b = true
  | [], _, _, hb => by cases hb
  | x :: l, h, b, hb => by
    rw [List.dropWhile_cons] at h
    by_cases hx : p x = true
    · rw [if_pos hx] at h
      rcases List.mem_cons.1 hb with rfl | hb
      · exact hx
      · exact dropWhile_nil h b hb
    · rw [if_neg hx] at h; cases h
theorem mem_dropWhile {p : UInt8 → Bool} : ∀ {l : List UInt8} {b : UInt8}, b ∈ l → p b = true ∨ b ∈ l.dropWhile p
  | [], _, hb => by cases hb
  | x :: l, b, hb => by
    rw [List.dropWhile_cons]
    by_cases hx : p x = true
    · rw [if_pos hx]
      rcases List.mem_cons.1 hb with rfl | hb
      · exact Or.inl hx
      · exact mem_dropWhile hb
    · rw [if_neg hx]; exact Or.inr hb
theorem trim_all {l cs : List UInt8} (h : Lib.trimS l cs = []) : ∀ b ∈ l, cs.contains b = true := by
  intro b hb
  unfold Lib.trimS Lib.trimLeftS at h
  have h1 := dropWhile_nil h
  unfold Lib.trimRightS at h1
  rcases mem_dropWhile (p := (cs.contains ·)) (l := l.reverse) (b := b) (by simpa using hb) with h2 | h2
  · exact h2
  · exact h1 b (by simpa using h2)
/-- A row of digits reads as a number. -/
theorem decFrom_all : ∀ (l : List UInt8) (a : Nat), (∀ b ∈ l, 48 ≤ b.toNat ∧ b.toNat ≤ 57) → ∃ m, Lib.decFrom a l = some m
  | [], a, _ => ⟨a, rfl⟩
  | x :: l, a, h => by
    have hx := h x (by simp)
    unfold Lib.decFrom Lib.digitVal
    rw [if_pos hx]
    exact decFrom_all l _ fun b hb => h b (by simp [hb])
theorem atoi_all {l : List UInt8} (hne : l ≠ []) (h : ∀ b ∈ l, 48 ≤ b.toNat ∧ b.toNat ≤ 57) : ∃ n : Nat, Lib.atoi l = some (n : Int) ∧ Lib.decFrom 0 l = some n := by
  cases l with
  | nil => exact absurd rfl hne
  | cons x r =>
    have hx := h x (by simp)
    have h1 : ¬ (x == 45) = true := by intro e; have : x = 45 := by simpa using e
                                       subst this; simp at hx
    have h2 : ¬ (x == 43) = true := by intro e; have : x = 43 := by simpa using e
                                       subst this; simp at hx
    obtain ⟨m, hm⟩ := decFrom_all (x :: r) 0 h
    refine ⟨m, ?_, hm⟩
    show (if (x == 45) = true then _ else if (x == 43) = true then _ else _) = _
    rw [if_neg h1, if_neg h2]
    unfold Lib.decNat
    simp [hm]
theorem dig_mem {b : UInt8} (h : digC.contains b = true) : 48 ≤ b.toNat ∧ b.toNat ≤ 57 := by
  simp only [digC, List.contains_cons, List.contains_nil, Bool.or_false, Bool.or_eq_true, beq_iff_eq] at h
  rcases h with rfl | rfl | rfl | rfl | rfl | rfl | rfl | rfl | rfl | rfl <;> decide
theorem dNum_of {l : List UInt8} (hne : l ≠ []) (h : Lib.trimS l digC = []) : Lib.atoi l = some (dNum l) := by
  obtain ⟨n, hn, _⟩ := atoi_all hne fun b hb => dig_mem (trim_all h b hb)
  unfold dNum; rw [hn]; rfl
end Go.Proofs.YtldghloflegpmaaGreatDoor

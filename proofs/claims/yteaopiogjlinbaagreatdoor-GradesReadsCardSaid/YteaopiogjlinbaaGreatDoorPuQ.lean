/- Plain: the digits of a class's text, one by one; its letter, looked for twice. No program in sight. -/
import Derived.Test.YteaopiogjlinbaaGreatDoorPuP
namespace Go.Proofs.YteaopiogjlinbaaGreatDoor
open Pu Go.Lib

/-- The first k bytes are digits that spell m. -/
def Pre (d : List UInt8) (k m : Nat) : Prop := Lib.decFrom 0 (d.take k) = some m ∧ ∀ b ∈ d.take k, 48 ≤ b.toNat ∧ b.toNat ≤ 57
theorem Pre.zero (d : List UInt8) : Pre d 0 0 := ⟨rfl, fun b hb => by simp at hb⟩
theorem Pre.step {d : List UInt8} {k m : Nat} {c : UInt8} (h : Pre d k m) (hc : d[k]? = some c) (h1 : 48 ≤ c.toNat) (h2 : c.toNat ≤ 57) : Pre d (k + 1) (m * 10 + (c.toNat - 48)) := by
  refine ⟨Lib.decFrom_take d k 0 m c _ h.1 hc (by unfold Lib.digitVal; rw [if_pos ⟨h1, h2⟩]), fun b hb => ?_⟩
  have hk : k < d.length := by
    rcases Nat.lt_or_ge k d.length with h' | h'
    · exact h'
    · rw [List.getElem?_eq_none h'] at hc; cases hc
  rw [List.take_succ_eq_append_getElem hk] at hb
  have hc' : d[k] = c := by rw [List.getElem?_eq_getElem hk] at hc; exact Option.some.inj hc
  rw [hc'] at hb
  rcases List.mem_append.1 hb with hb | hb
  · exact h.2 b hb
  · simp at hb; subst hb; exact ⟨h1, h2⟩
theorem Pre.lt {d : List UInt8} {k m : Nat} (h : Pre d k m) (hk : k ≤ 3) : m < 1000 := by
  have := Lib.decFrom_lt _ _ _ h.1
  have hl : (d.take k).length ≤ 3 := by rw [List.length_take]; omega
  have h10 : 10 ^ (d.take k).length ≤ 10 ^ 3 := Nat.pow_le_pow_right (by omega) hl
  omega
theorem trimLeft_all : ∀ {l cs : List UInt8}, (∀ b ∈ l, cs.contains b = true) → l.dropWhile (cs.contains ·) = []
  | [], _, _ => rfl
  | x :: l, cs, h => by
    rw [List.dropWhile_cons, if_pos (h x (by simp))]
    exact trimLeft_all fun b hb => h b (by simp [hb])
theorem dropWhile_sub {p : UInt8 → Bool} : ∀ {l : List UInt8} {b : UInt8}, b ∈ l.dropWhile p → b ∈ l
  | [], _, hb => by cases hb
  | x :: l, b, hb => by
    rw [List.dropWhile_cons] at hb
    by_cases hx : p x = true
    · rw [if_pos hx] at hb; exact List.mem_cons_of_mem _ (dropWhile_sub hb)
    · rw [if_neg hx] at hb; exact hb
theorem trim_of_all {l cs : List UInt8} (h : ∀ b ∈ l, cs.contains b = true) : Lib.trimS l cs = [] := by
  unfold Lib.trimS Lib.trimLeftS
  refine trimLeft_all fun b hb => h b ?_
  unfold Lib.trimRightS at hb
  have := dropWhile_sub (p := (cs.contains ·)) (l := l.reverse) (b := b) (by simpa using hb)
  simpa using this
theorem mem_dig {b : UInt8} (h1 : 48 ≤ b.toNat) (h2 : b.toNat ≤ 57) : digC.contains b = true := by
  have key : ∀ n, n < 58 → 48 ≤ n → digC.contains (UInt8.ofNat n) = true := by decide
  have := key b.toNat (by omega) h1
  rwa [UInt8.ofNat_toNat] at this
theorem Pre.all {d : List UInt8} {k m : Nat} (h : Pre d k m) (hk : d.length ≤ k) (hne : d ≠ []) : Lib.trimS d digC = [] ∧ dNum d = m := by
  have ht : d.take k = d := List.take_of_length_le hk
  have h1 := h.1; have h2 := h.2
  rw [ht] at h1 h2
  refine ⟨trim_of_all fun b hb => mem_dig (h2 b hb).1 (h2 b hb).2, ?_⟩
  obtain ⟨n, hn, hn'⟩ := atoi_all hne h2
  rw [hn'] at h1
  unfold dNum; rw [hn, Option.some.inj h1]; rfl
theorem trim_bad {d : List UInt8} {k : Nat} {c : UInt8} (hc : d[k]? = some c) (h : c.toNat < 48 ∨ 57 < c.toNat) : ¬ Lib.trimS d digC = [] := by
  intro e
  have hm : c ∈ d := List.mem_of_getElem? hc
  have := dig_mem (trim_all e c hm)
  omega

/-- The letter as the reference looks for it. -/
def sIdx (c : UInt8) : Int := Lib.indexByte [100, 101, 102, 103, 104, 106, 107, 109, 110, 112] c
def cIdx (c : UInt8) : Int := Lib.indexByte [68, 69, 70, 71, 72, 74, 75, 77, 78, 80] c
def rLet (c : UInt8) : Int := if sIdx c < 0 then cIdx c else sIdx c
def rHole (c : UInt8) : Bool := decide (sIdx c < 0)
set_option maxRecDepth 100000 in
theorem let_all : ∀ n, n < 256 → rLet (UInt8.ofNat n) = pLet (UInt8.ofNat n) ∧ (0 ≤ pLet (UInt8.ofNat n) → rHole (UInt8.ofNat n) = decide ((UInt8.ofNat n).toNat < 97)) ∧ pLet (UInt8.ofNat n) ≤ 9 := by decide +kernel
theorem rLet_eq (c : UInt8) : rLet c = pLet c := by
  have := (let_all c.toNat c.toNat_lt).1
  rwa [UInt8.ofNat_toNat] at this
theorem rHole_eq (c : UInt8) (h : 0 ≤ pLet c) : rHole c = decide (c.toNat < 97) := by
  have := (let_all c.toNat c.toNat_lt).2.1
  rw [UInt8.ofNat_toNat] at this
  exact this h
theorem pLet_le (c : UInt8) : pLet c ≤ 9 := by
  have := (let_all c.toNat c.toNat_lt).2.2
  rwa [UInt8.ofNat_toNat] at this
end Go.Proofs.YteaopiogjlinbaaGreatDoor

/- Contract of package lexer: a quotient with a denominator that divides 1000 is written as a decimal number. -/
import Derived.Test.YtldghloflegpmaaGreatDoorLxA
import Derived.Test.YtldghloflegpmaaGreatDoorSb
namespace Go.Proofs.YtldghloflegpmaaGreatDoor
open Go.RowKit Go.Shelf Pu Go.Lib

/-- The digits behind the point, at most so many. -/
def frL (q : Nat) : Nat → Nat → List UInt8
  | 0, _ => []
  | f + 1, r => if r = 0 then [] else Lib.decDigits (r * 10 / q) ++ frL q f (r * 10 % q)
/-- The decimal number of a quotient. -/
def decL (p q : Nat) : List UInt8 := Lib.decDigits (p / q) ++ (if p % q = 0 then [] else 46 :: frL q 3 (p % q))
theorem last_zero {q r : Nat} (hq : q ∣ 1000) : r * 10 % q * 10 % q * 10 % q = 0 := by
  have h1 : r * 10 % q * 10 % q * 10 % q = r * 1000 % q := by
    rw [Nat.mod_mul_mod, Nat.mul_assoc (r * 10 % q) 10 10, Nat.mod_mul_mod, Nat.mul_assoc]
  rw [h1]
  obtain ⟨k, hk⟩ := hq
  rw [hk, Nat.mul_left_comm]
  exact Nat.mul_mod_right q _
theorem slCutPrefix_c (u : Nat) (w : World) : Calls Tryz.prog 132 #[.string (nT u), .string ⟨#[45]⟩] w fun e w' => e = .returned (.tuple #[.string (nT u), .bool false]) ∧ w' = w := by
  have hP : ∀ w, Calls Tryz.prog 181 #[.string (nT u), .string ⟨#[45]⟩] w fun e w' => e = .returned (.bool (Lib.hasPrefix (Lib.decDigits u) [45])) ∧ w' = w := fun w => Any.stringslite_HasPrefix { Tryz.lays99 with } (nT u) ⟨#[45]⟩ w
  rw [dash_no] at hP
  have HP := Lib.hid hP
  clear hP
  go_enter Tryz.func132, Tryz.ntmps132
  go_wp2_with fail
  refine (HP.out _).mono ?_
  rintro e w2 ⟨rfl, rfl⟩
  go_wp2
  go_ret2
  exact ⟨rfl, rfl⟩
theorem cutPrefix_c (u : Nat) (w : World) : Calls Tryz.prog 91 #[.string (nT u), .string ⟨#[45]⟩] w fun e w' => e = .returned (.tuple #[.string (nT u), .bool false]) ∧ Below w.heap.size w w' := by
  go_enter Tryz.func91, Tryz.ntmps91
  go_wp2_with fail
  refine (slCutPrefix_c u _).mono ?_
  rintro e w2 ⟨rfl, rfl⟩
  go_wp2
  go_ret2
  exact ⟨rfl, Below.refl _ _⟩
theorem n10 : Num ⟨#[49, 48]⟩ 10 := by
  have := Num.of (u := 10) (by omega)
  rwa [nT_ten] at this
theorem wDot_c (B b : Nat) (l : List UInt8) (w : World) (h : Bld B b l w) (hl : l.length ≤ 1000000) (hB : B ≤ w.heap.size) :
    Calls Tryz.prog 92 #[.pointer (some ⟨b, 0, none⟩), .int .u8 46] w fun e w' => e = .returned .nilIface ∧ Bld B b (l ++ [46]) w' ∧ Below B w w' := wByte_c B b l 46 w h hl hB

set_option maxRecDepth 100000 in
set_option maxHeartbeats 4000000 in
theorem Decimal_c (p q : Nat) (w : World) (hp : p < 1000000) (hq : q ∣ 1000) (hg : Nat.gcd p q = 1) (hG : Gw w) :
    Calls Tryz.prog 62 #[.string (rT p q)] w fun e w' => e = .returned (.tuple #[.string ⟨(decL p q).toArray⟩, .int .i64 0]) ∧ Below w.heap.size w w' := by
  have hq0 : q ≠ 0 := by rintro rfl; simp at hq
  have hql : q ≤ 1000 := Nat.le_of_dvd (by omega) hq
  obtain ⟨d0, e0⟩ : ∃ x, p / q = x := ⟨_, rfl⟩
  obtain ⟨r0, f0⟩ : ∃ x, p % q = x := ⟨_, rfl⟩
  have hd0 : d0 ≤ p := by rw [← e0]; exact Nat.div_le_self _ _
  have hr0 : r0 < q := by rw [← f0]; exact Nat.mod_lt _ (by omega)
  obtain ⟨m1, g1⟩ : ∃ x, r0 * 10 = x := ⟨_, rfl⟩
  obtain ⟨d1, e1⟩ : ∃ x, m1 / q = x := ⟨_, rfl⟩
  obtain ⟨r1, f1⟩ : ∃ x, m1 % q = x := ⟨_, rfl⟩
  have hm1 : m1 < 10000 := by omega
  have hd1 : d1 ≤ m1 := by rw [← e1]; exact Nat.div_le_self _ _
  have hr1 : r1 < q := by rw [← f1]; exact Nat.mod_lt _ (by omega)
  obtain ⟨m2, g2⟩ : ∃ x, r1 * 10 = x := ⟨_, rfl⟩
  obtain ⟨d2, e2⟩ : ∃ x, m2 / q = x := ⟨_, rfl⟩
  obtain ⟨r2, f2⟩ : ∃ x, m2 % q = x := ⟨_, rfl⟩
  have hm2 : m2 < 10000 := by omega
  have hd2 : d2 ≤ m2 := by rw [← e2]; exact Nat.div_le_self _ _
  have hr2 : r2 < q := by rw [← f2]; exact Nat.mod_lt _ (by omega)
  obtain ⟨m3, g3⟩ : ∃ x, r2 * 10 = x := ⟨_, rfl⟩
  obtain ⟨d3, e3⟩ : ∃ x, m3 / q = x := ⟨_, rfl⟩
  obtain ⟨r3, f3⟩ : ∃ x, m3 % q = x := ⟨_, rfl⟩
  have hm3 : m3 < 10000 := by omega
  have hd3 : d3 ≤ m3 := by rw [← e3]; exact Nat.div_le_self _ _
  have hr3 : r3 < q := by rw [← f3]; exact Nat.mod_lt _ (by omega)
  have hz3 : r3 = 0 := by rw [← f3, ← g3, ← f2, ← g2, ← f1, ← g1]; exact last_zero hq
  have hL : decL p q = Lib.decDigits d0 ++ (if r0 = 0 then [] else 46 :: (Lib.decDigits d1 ++ (if r1 = 0 then [] else Lib.decDigits d2 ++ (if r2 = 0 then [] else Lib.decDigits d3)))) := by
    unfold decL
    rw [e0, f0]
    simp only [frL, g1, e1, f1, g2, e2, f2, g3, e3, List.append_nil]
    by_cases h0 : r0 = 0
    · rw [if_pos h0, if_pos h0]
    · rw [if_neg h0, if_neg h0, if_neg h0]
  subst hz3
  have HL := Lib.hid hL
  have HQ := Lib.hid hq
  have E0 := Lib.hid e0
  have F0 := Lib.hid f0
  have E1 := Lib.hid e1
  have F1 := Lib.hid f1
  have M1 := Lib.hid g1
  have E2 := Lib.hid e2
  have F2 := Lib.hid f2
  have M2 := Lib.hid g2
  have E3 := Lib.hid e3
  have F3 := Lib.hid f3
  have M3 := Lib.hid g3
  clear hL hq e0 f0 g1 e1 f1 g2 e2 f2 g3 e3 f3
  have nq := Num.of (u := q) (by omega)
  have HG := Lib.hid hg
  clear hg
  go_enter Tryz.func62, Tryz.ntmps62
  go_wp2_with fail
  refine (Parts_c p q _ (by omega) (by omega) hq0 HG.out hG).mono ?_
  rintro e w2 ⟨rfl, hb⟩
  go_wp2_with fail
  refine (finite_c q _ HQ.out (hG.next hb)).mono ?_
  rintro e w3 ⟨rfl, hbb⟩
  have hb := bt hb hbb
  clear hbb
  go_wp2_with fail
  have hbl := Bld.new w.heap.size w3 hb.size
  have hb := hb.alloc hb.size (.cells #[.pointer none, .slice none 0 0] 162)
  obtain ⟨b, hbd⟩ : ∃ b, w3.heap.size = b := ⟨_, rfl⟩
  rw [hbd] at hbl ⊢
  clear hbd
  generalize w3.alloc (.cells #[.pointer none, .slice none 0 0] 162) = w4 at *
  refine (cutPrefix_c p _).mono ?_
  rintro e w5 ⟨rfl, hbb⟩
  have hbl := hbl.next hbb
  have hb := hb.trans (hbb.mono hb.size)
  clear hbb
  go_wp2_with fail
  refine wp_loop_rounds 6 ?_
  rw [rounds_succ]
  go_wp2_with fail
  refine (Quo_c (nT p) (nT q) p q _ (Num.of (by omega)) nq hq0 (hG.next hb)).mono ?_
  rintro e w7 ⟨rfl, hbb⟩
  rw [E0.out]
  have hbl := hbl.next hbb
  have hb := hb.trans (hbb.mono hb.size)
  clear hbb
  go_wp2_with fail
  refine (wStr_c w.heap.size b [] (nT d0) _ hbl (by simp) (by have := nT_size_le (u := d0) (k := 8) (by omega); omega) hb.size).mono ?_
  rintro e w8 ⟨rfl, hbl, hbb⟩
  have hb := hb.trans hbb
  clear hbb
  have hbl : Bld w.heap.size b (Lib.decDigits d0) w8 := hbl
  go_wp2_with fail
  refine (Rem_c (nT p) (nT q) p q _ (Num.of (by omega)) nq hq0 (hG.next hb)).mono ?_
  rintro e w9 ⟨rfl, hbb⟩
  rw [F0.out]
  have hbl := hbl.next hbb
  have hb := hb.trans (hbb.mono hb.size)
  clear hbb
  by_cases z1 : r0 = 0
  case pos =>
    subst z1
    rw [nT_zero]
    go_wp2_with fail
    rw [rounds_succ]
    go_wp2_with fail
    refine (wEnd_c w.heap.size b (Lib.decDigits d0) _ hbl hb.size).mono ?_
    rintro e wz ⟨rfl, hbb⟩
    go_wp2
    go_ret2
    exact ⟨by rw [HL.out]; simp, hb.trans hbb⟩
  have nr0 := Num.of (u := r0) (by omega)
  have hne1 := mt nr0.zero.1 z1
  have hbe1 : ((nT r0).toList == [48]) = false := by simpa using hne1
  go_wp2_with fail
  rw [rounds_succ]
  go_wp2_with fail
  refine (wDot_c w.heap.size b (Lib.decDigits d0) _ hbl (by have := dD_len 6 d0 (by omega); omega) hb.size).mono ?_
  rintro e w10 ⟨rfl, hbl, hbb⟩
  have hb := hb.trans hbb
  clear hbb
  have hbl : Bld w.heap.size b (Lib.decDigits d0 ++ [46]) w10 := hbl
  go_wp2_with fail
  refine (Mul_c (nT r0) ⟨#[49, 48]⟩ r0 10 _ nr0 n10 (hG.next hb)).mono ?_
  rintro e w11 ⟨rfl, hbb⟩
  rw [M1.out]
  have hbl := hbl.next hbb
  have hb := hb.trans (hbb.mono hb.size)
  clear hbb
  go_wp2_with fail
  refine (Quo_c (nT m1) (nT q) m1 q _ (Num.of (by omega)) nq hq0 (hG.next hb)).mono ?_
  rintro e w12 ⟨rfl, hbb⟩
  rw [E1.out]
  have hbl := hbl.next hbb
  have hb := hb.trans (hbb.mono hb.size)
  clear hbb
  go_wp2_with fail
  refine (wStr_c w.heap.size b (Lib.decDigits d0 ++ [46]) (nT d1) _ hbl (by simp only [List.length_append, List.length_singleton]; have := dD_len 6 d0 (by omega); omega) (by have := nT_size_le (u := d1) (k := 8) (by omega); omega) hb.size).mono ?_
  rintro e w13 ⟨rfl, hbl, hbb⟩
  have hb := hb.trans hbb
  clear hbb
  have hbl : Bld w.heap.size b (Lib.decDigits d0 ++ [46] ++ Lib.decDigits d1) w13 := hbl
  go_wp2_with fail
  refine (Rem_c (nT m1) (nT q) m1 q _ (Num.of (by omega)) nq hq0 (hG.next hb)).mono ?_
  rintro e w14 ⟨rfl, hbb⟩
  rw [F1.out]
  have hbl := hbl.next hbb
  have hb := hb.trans (hbb.mono hb.size)
  clear hbb
  clear hne1 hbe1 nr0
  by_cases z2 : r1 = 0
  case pos =>
    subst z2
    rw [nT_zero]
    go_wp2_with fail
    rw [rounds_succ]
    go_wp2_with fail
    refine (wEnd_c w.heap.size b (Lib.decDigits d0 ++ [46] ++ Lib.decDigits d1) _ hbl hb.size).mono ?_
    rintro e wz ⟨rfl, hbb⟩
    go_wp2
    go_ret2
    exact ⟨by rw [HL.out]; simp [z1], hb.trans hbb⟩
  have nr1 := Num.of (u := r1) (by omega)
  have hne2 := mt nr1.zero.1 z2
  have hbe2 : ((nT r1).toList == [48]) = false := by simpa using hne2
  go_wp2_with fail
  rw [rounds_succ]
  go_wp2_with fail
  refine (Mul_c (nT r1) ⟨#[49, 48]⟩ r1 10 _ nr1 n10 (hG.next hb)).mono ?_
  rintro e w15 ⟨rfl, hbb⟩
  rw [M2.out]
  have hbl := hbl.next hbb
  have hb := hb.trans (hbb.mono hb.size)
  clear hbb
  go_wp2_with fail
  refine (Quo_c (nT m2) (nT q) m2 q _ (Num.of (by omega)) nq hq0 (hG.next hb)).mono ?_
  rintro e w16 ⟨rfl, hbb⟩
  rw [E2.out]
  have hbl := hbl.next hbb
  have hb := hb.trans (hbb.mono hb.size)
  clear hbb
  go_wp2_with fail
  refine (wStr_c w.heap.size b (Lib.decDigits d0 ++ [46] ++ Lib.decDigits d1) (nT d2) _ hbl (by simp only [List.length_append, List.length_singleton]; have := dD_len 6 d0 (by omega); have := dD_len 6 d1 (by omega); omega) (by have := nT_size_le (u := d2) (k := 8) (by omega); omega) hb.size).mono ?_
  rintro e w17 ⟨rfl, hbl, hbb⟩
  have hb := hb.trans hbb
  clear hbb
  have hbl : Bld w.heap.size b (Lib.decDigits d0 ++ [46] ++ Lib.decDigits d1 ++ Lib.decDigits d2) w17 := hbl
  go_wp2_with fail
  refine (Rem_c (nT m2) (nT q) m2 q _ (Num.of (by omega)) nq hq0 (hG.next hb)).mono ?_
  rintro e w18 ⟨rfl, hbb⟩
  rw [F2.out]
  have hbl := hbl.next hbb
  have hb := hb.trans (hbb.mono hb.size)
  clear hbb
  clear hne2 hbe2 nr1
  by_cases z3 : r2 = 0
  case pos =>
    subst z3
    rw [nT_zero]
    go_wp2_with fail
    rw [rounds_succ]
    go_wp2_with fail
    refine (wEnd_c w.heap.size b (Lib.decDigits d0 ++ [46] ++ Lib.decDigits d1 ++ Lib.decDigits d2) _ hbl hb.size).mono ?_
    rintro e wz ⟨rfl, hbb⟩
    go_wp2
    go_ret2
    exact ⟨by rw [HL.out]; simp [z1, z2], hb.trans hbb⟩
  have nr2 := Num.of (u := r2) (by omega)
  have hne3 := mt nr2.zero.1 z3
  have hbe3 : ((nT r2).toList == [48]) = false := by simpa using hne3
  go_wp2_with fail
  rw [rounds_succ]
  go_wp2_with fail
  refine (Mul_c (nT r2) ⟨#[49, 48]⟩ r2 10 _ nr2 n10 (hG.next hb)).mono ?_
  rintro e w19 ⟨rfl, hbb⟩
  rw [M3.out]
  have hbl := hbl.next hbb
  have hb := hb.trans (hbb.mono hb.size)
  clear hbb
  go_wp2_with fail
  refine (Quo_c (nT m3) (nT q) m3 q _ (Num.of (by omega)) nq hq0 (hG.next hb)).mono ?_
  rintro e w20 ⟨rfl, hbb⟩
  rw [E3.out]
  have hbl := hbl.next hbb
  have hb := hb.trans (hbb.mono hb.size)
  clear hbb
  go_wp2_with fail
  refine (wStr_c w.heap.size b (Lib.decDigits d0 ++ [46] ++ Lib.decDigits d1 ++ Lib.decDigits d2) (nT d3) _ hbl (by simp only [List.length_append, List.length_singleton]; have := dD_len 6 d0 (by omega); have := dD_len 6 d1 (by omega); have := dD_len 6 d2 (by omega); omega) (by have := nT_size_le (u := d3) (k := 8) (by omega); omega) hb.size).mono ?_
  rintro e w21 ⟨rfl, hbl, hbb⟩
  have hb := hb.trans hbb
  clear hbb
  have hbl : Bld w.heap.size b (Lib.decDigits d0 ++ [46] ++ Lib.decDigits d1 ++ Lib.decDigits d2 ++ Lib.decDigits d3) w21 := hbl
  go_wp2_with fail
  refine (Rem_c (nT m3) (nT q) m3 q _ (Num.of (by omega)) nq hq0 (hG.next hb)).mono ?_
  rintro e w22 ⟨rfl, hbb⟩
  rw [F3.out]
  have hbl := hbl.next hbb
  have hb := hb.trans (hbb.mono hb.size)
  clear hbb
  clear hne3 hbe3 nr2
  rw [nT_zero]
  go_wp2_with fail
  rw [rounds_succ]
  go_wp2_with fail
  refine (wEnd_c w.heap.size b (Lib.decDigits d0 ++ [46] ++ Lib.decDigits d1 ++ Lib.decDigits d2 ++ Lib.decDigits d3) _ hbl hb.size).mono ?_
  rintro e wz ⟨rfl, hbb⟩
  go_wp2
  go_ret2
  exact ⟨by rw [HL.out, if_neg z1, if_neg z2, if_neg z3]; simp, hb.trans hbb⟩
end Go.Proofs.YtldghloflegpmaaGreatDoor

/- Contracts of package ratio at short numbers: lowest terms. -/
import Derived.Test.YtldghloflegpmaaGreatDoorRqA
namespace Go.Proofs.YtldghloflegpmaaGreatDoor
open Go.RowKit Go.Shelf Pu Go.Lib

abbrev errC : Array Value := #[.int .i64 0]
set_option maxHeartbeats 2000000 in
theorem do_gcd (B u v : Nat) (w : World) (hu : u < 1000000000) (hv : v < 1000000000) (h0 : v ≠ 0) (hr : Row w B errC 196) (hG : Gw w) :
    Calls Tryz.prog 176 #[.pointer (some ⟨B, 0, none⟩), .func (.func 177) #[] #[], .string (nT u), .string (nT v)] w
      fun e w' => e = .returned (.string (nT (Nat.gcd u v))) ∧ Row w' B errC 196 ∧ Below B w w' := by
  have hc := hr.cell
  have hlt := hr.lt
  go_enter Tryz.func176, Tryz.ntmps176
  go_wp2_with fail
  refine (Gcd_c (nT u) (nT v) u v _ (Num.of hu) (Num.of hv) h0 hG).mono ?_
  rintro e w2 ⟨rfl, hbb⟩
  have hr := hr.next hbb
  clear hc
  have hc := hr.cell
  have hf := hr.frozen
  go_wp2
  go_ret
  exact ⟨rfl, hr.put 0 _, (hbb.mono (Nat.le_of_lt hlt)).setCell (Nat.le_refl _) _⟩
set_option maxHeartbeats 2000000 in
theorem do_quo (B u v : Nat) (w : World) (hu : u < 1000000000) (hv : v < 1000000000) (h0 : v ≠ 0) (hr : Row w B errC 196) (hG : Gw w) :
    Calls Tryz.prog 176 #[.pointer (some ⟨B, 0, none⟩), .func (.func 94) #[] #[], .string (nT u), .string (nT v)] w
      fun e w' => e = .returned (.string (nT (u / v))) ∧ Row w' B errC 196 ∧ Below B w w' := by
  have hc := hr.cell
  have hlt := hr.lt
  go_enter Tryz.func176, Tryz.ntmps176
  go_wp2_with fail
  refine (Quo_c (nT u) (nT v) u v _ (Num.of hu) (Num.of hv) h0 hG).mono ?_
  rintro e w2 ⟨rfl, hbb⟩
  have hr := hr.next hbb
  clear hc
  have hc := hr.cell
  have hf := hr.frozen
  go_wp2
  go_ret
  exact ⟨rfl, hr.put 0 _, (hbb.mono (Nat.le_of_lt hlt)).setCell (Nat.le_refl _) _⟩
/-- The variables lie below what a call allocated. -/
theorem Gw.keep {w w' w0 : World} {B : Nat} (h : Gw w0) (h0 : Below w0.heap.size w0 w) (hB : w0.heap.size ≤ B) (hb : Below B w w') : Gw w' :=
  h.next (h0.trans (hb.mono hB))

theorem dash_no (u : Nat) : Lib.hasPrefix (Lib.decDigits u) [45] = false := by
  unfold Lib.hasPrefix
  cases hd : Lib.decDigits u with
  | nil => rfl
  | cons x r =>
    have := dD_dig u x (by rw [hd]; simp)
    have hx : (45 == x) = false := by
      simp only [beq_eq_false_iff_ne, ne_eq]
      intro e; rw [← e] at this; simp at this
    simp [List.isPrefixOf, hx]
set_option maxRecDepth 100000 in
set_option maxHeartbeats 4000000 in
theorem lowest_c (B u v : Nat) (w0 w : World) (hu : u < 1000000000) (hv : v < 1000000000) (h0 : v ≠ 0) (hr : Row w B errC 196) (hG : Gw w0) (hw : Below w0.heap.size w0 w) (hB : w0.heap.size ≤ B) :
    Calls Tryz.prog 129 #[.pointer (some ⟨B, 0, none⟩), .string (nT u), .string (nT v)] w
      fun e w' => e = .returned (.string (rT (u / Nat.gcd u v) (v / Nat.gcd u v))) ∧ Row w' B errC 196 ∧ Below B w w' := by
  have hP := Tryz.strings_HasPrefix (nT v) ⟨#[45]⟩
  rw [show (⟨#[45]⟩ : ByteArray).data.toList = [45] from rfl, nT_list, dash_no] at hP
  have HP := Lib.hid hP
  have hg0 : Nat.gcd u v ≠ 0 := by
    intro e
    exact h0 (Nat.eq_zero_of_gcd_eq_zero_right e)
  have hgl : Nat.gcd u v < 1000000000 := Nat.lt_of_le_of_lt (Nat.le_of_dvd (by omega) (Nat.gcd_dvd_right u v)) hv
  have hq1 : u / Nat.gcd u v < 1000000000 := Nat.lt_of_le_of_lt (Nat.div_le_self _ _) hu
  have hq2 : v / Nat.gcd u v < 1000000000 := Nat.lt_of_le_of_lt (Nat.div_le_self _ _) hv
  clear hP
  obtain ⟨g, hg⟩ : ∃ g, Nat.gcd u v = g := ⟨_, rfl⟩
  rw [hg] at hg0 hgl hq1 hq2 ⊢
  have HG := Lib.hid hg
  clear hg
  go_enter Tryz.func129, Tryz.ntmps129
  go_wp2_with fail
  refine (do_gcd B u v _ hu hv h0 hr (hG.next hw)).mono ?_
  rintro e w2 ⟨rfl, hr, hb2⟩
  rw [HG.out]
  have hc := hr.cell
  go_wp2_with fail
  refine (HP.out _).mono ?_
  rintro e w3 ⟨rfl, rfl⟩
  go_wp2_with fail
  clear hc
  refine (do_quo B u g _ hu hgl hg0 hr (hG.keep hw hB hb2)).mono ?_
  rintro e w4 ⟨rfl, hr, hb4⟩
  have hb4 := hb2.trans hb4
  go_wp2_with fail
  refine (do_quo B v g _ hv hgl hg0 hr (hG.keep hw hB hb4)).mono ?_
  rintro e w5 ⟨rfl, hr, hb5⟩
  have hb5 := hb4.trans hb5
  go_wp2_with fail
  refine (joined_c (u / g) (v / g) _ hq1 hq2).mono ?_
  rintro e w6 ⟨rfl, hb6⟩
  have hlt := hr.lt
  go_wp2
  go_ret
  exact ⟨rfl, hr.next hb6, hb5.trans (hb6.mono (Nat.le_of_lt hlt))⟩

set_option maxRecDepth 100000 in
set_option maxHeartbeats 4000000 in
theorem Make_c (u v : Nat) (w : World) (hu : u < 1000000000) (hv : v < 1000000000) (h0 : v ≠ 0) (hG : Gw w) :
    Calls Tryz.prog 87 #[.string (nT u), .string (nT v)] w fun e w' => e = .returned (.tuple #[.string (rT (u / Nat.gcd u v) (v / Nat.gcd u v)), .int .i64 0]) ∧ Below w.heap.size w w' := by
  have nu := Num.of hu
  have nv := Num.of hv
  have hne := mt nv.zero.1 h0
  have hbe : ((nT v).toList == [48]) = false := by simpa using hne
  go_enter Tryz.func87, Tryz.ntmps87
  go_wp2_with fail
  have hr := Row.new w #[.string (nT u), .string (nT v)] 153
  have hb1 := (Below.refl _ w).alloc (Nat.le_refl _) (.cells #[.string (nT u), .string (nT v)] 153)
  generalize w.alloc (.cells #[.string (nT u), .string (nT v)] 153) = w1 at *
  have hc := hr.cell
  refine wp_loop_rounds 3 ?_
  rw [rounds_succ]
  go_wp2_with fail
  refine (wCheck_c (nT u) u _ nu).mono ?_
  rintro e w2 ⟨rfl, hbb⟩
  have hr := hr.next hbb
  have hb2 := hb1.trans (hbb.mono hb1.size)
  clear hbb hc
  have hc := hr.cell
  go_wp2_with fail
  rw [rounds_succ]
  go_wp2_with fail
  refine (wCheck_c (nT v) v _ nv).mono ?_
  rintro e w3 ⟨rfl, hbb⟩
  have hb3 := hb2.trans (hbb.mono hb2.size)
  clear hbb hc hr
  go_wp2_with fail
  rw [rounds_succ]
  go_wp2_with fail
  have hr := Row.new w3 errC 196
  have hb4 := hb3.alloc hb3.size (.cells errC 196)
  have hs4 := hb3.size
  refine (lowest_c w3.heap.size u v w _ hu hv h0 hr hG hb4 hs4).mono ?_
  rintro e w5 ⟨rfl, hr, hbb⟩
  have hb5 := hb4.trans (hbb.mono hs4)
  have hc := hr.cell
  go_wp2
  go_ret2
  exact ⟨rfl, hb5⟩

set_option maxHeartbeats 2000000 in
theorem rOf_c (u v : Nat) (w : World) (hu : u < 1000000000) (hv : v < 1000000000) (h0 : v ≠ 0) (hG : Gw w) :
    Calls Tryz.prog 61 #[.int .i64 (u : Int), .int .i64 (v : Int)] w fun e w' => e = .returned (.tuple #[.string (rT (u / Nat.gcd u v) (v / Nat.gcd u v)), .int .i64 0]) ∧ Below w.heap.size w w' := by
  go_enter Tryz.func61, Tryz.ntmps61
  go_wp2_with fail
  refine (Of_c u _ (by omega) hG).mono ?_
  rintro e w2 ⟨rfl, hb2⟩
  go_wp2_with fail
  refine (Of_c v _ (by omega) (hG.next hb2)).mono ?_
  rintro e w3 ⟨rfl, hbb⟩
  have hb3 := bt hb2 hbb
  go_wp2_with fail
  refine (Make_c u v _ hu hv h0 (hG.next hb3)).mono ?_
  rintro e w4 ⟨rfl, hb4⟩
  go_wp2
  go_ret2
  exact ⟨rfl, bt hb3 hb4⟩
end Go.Proofs.YtldghloflegpmaaGreatDoor

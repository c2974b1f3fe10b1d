/- The walk of metrolablaw15.GradesFinds. -/
import Derived.Test.YtldghloflegpmaaGreatDoorFdD
import Derived.Test.YtldghloflegpmaaGreatDoorAwk
import Derived.Test.YtldghloflegpmaaGreatDoorRfE
namespace Go.Proofs.YtldghloflegpmaaGreatDoor
open Go.RowKit Pu Go.Lib

theorem own_next {W W' : World} {n₀ : Nat} {e : TypeId} {size : Nat} {v : Value} {k : Nat} {xs : List Value} (h : W.ownsRow n₀ e size v k xs) (hb : Below W.heap.size W W') : W'.ownsRow n₀ e size v k xs := h.kept (grown_below hb) (by cases v.ownBlock <;> simp)

set_option maxHeartbeats 4000000 in
theorem gradesFinds_c (n lo hi wd : Int) (w : World) (_ : (Lit.int .i64 n).wf = true) (_ : (Lit.int .i64 lo).wf = true) (_ : (Lit.int .i64 hi).wf = true) (_ : (Lit.int .i64 wd).wf = true) : Calls Tryz.prog 3 #[.int .i64 n, .agg #[.int .i64 lo, .int .i64 hi], .int .i64 wd] w fun e w' => e = .returned (.bool true) ∧ Below w.heap.size w w' := by
  have A1 := fun W => Find_c n lo hi W
  have A2 := fun W => rFind_c n lo hi W
  have A3 := fun W => Coarsest_c n wd W
  have A4 := fun W => rCoarsest_c n wd W
  have hln := fAll_len n lo hi
  generalize fAll n lo hi = ks at *
  generalize coE n wd = y at *
  obtain ⟨a, ha⟩ : ∃ a, (if zE n = 0 then cGo n wd 8 else 0) = a := ⟨_, rfl⟩
  simp only [ha] at A3 A4
  clear ha
  generalize zE n = x at *
  unfold twoV at A3 A4
  have A5 := fun B v W ho => own_all B v ks W hln ho
  have A6 := fun A B u v W h1 h2 => Same_c A B u v ks W hln h1 h2
  have B1 := Lib.hid A1; have B2 := Lib.hid A2; have B3 := Lib.hid A3; have B4 := Lib.hid A4; have B5 := Lib.hid A5; have B6 := Lib.hid A6
  clear A1 A2 A3 A4 A5 A6 hln
  go_enter Tryz.func3, Tryz.ntmps3
  go_wp2_with fail
  refine (B1.out _).mono ?_
  rintro e w1 ⟨v1, rfl, ho1, hbb⟩
  have hr0 := (Row.new w #[.int .i64 lo, .int .i64 hi] 23).next hbb
  have hb1 := ((Below.refl _ w).alloc (Nat.le_refl _) (.cells #[.int .i64 lo, .int .i64 hi] 23)).trans (hbb.mono (by simp))
  clear hbb
  have hc0 := hr0.cell
  go_wp2_with fail
  refine (B2.out _).mono ?_
  rintro e w2 ⟨v2, rfl, ho2, hbb⟩
  have ho1 := own_next ho1 hbb
  have hb2 := hb1.trans (hbb.mono hb1.size)
  clear hbb hc0
  go_wp2_with fail
  refine (B3.out _).mono ?_
  rintro e w3 ⟨rfl, hbb⟩
  have ho1 := own_next ho1 hbb
  have ho2 := own_next ho2 hbb
  have hb3 := hb2.trans (hbb.mono hb2.size)
  clear hbb
  go_wp2_with fail
  refine (B4.out _).mono ?_
  rintro e w4 ⟨rfl, hbb⟩
  have ho1 := own_next ho1 hbb
  have ho2 := own_next ho2 hbb
  have hb4 := hb3.trans (hbb.mono hb3.size)
  clear hbb
  go_wp2_with fail
  refine (awake_c _).mono ?_
  rintro e w5 ⟨rfl, hbb⟩
  have ho1 := own_next ho1 hbb
  have ho2 := own_next ho2 hbb
  have hb5 := hb4.trans (hbb.mono hb4.size)
  clear hbb
  go_wp2_with fail
  refine (B5.out _ _ _ ho1).mono ?_
  rintro e w6 ⟨u, rfl, ho3, hbb⟩
  have ho2 := own_next ho2 hbb
  have hb6 := hb5.trans (hbb.mono hb5.size)
  clear hbb
  go_wp2_with fail
  refine (B6.out _ _ _ _ _ ho3 ho2).mono ?_
  rintro e w7 ⟨rfl, hbb⟩
  have hb7 := hb6.trans (hbb.mono hb6.size)
  go_wp2
  go_ret
  exact ⟨rfl, hb7⟩
end Go.Proofs.YtldghloflegpmaaGreatDoor

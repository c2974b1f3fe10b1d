/- The walk of metrolablaw15.GradesDeviates. -/
import Derived.Test.YteaopiogjlinbaaGreatDoorAwk
import Derived.Test.YteaopiogjlinbaaGreatDoorRfC
namespace Go.Proofs.YteaopiogjlinbaaGreatDoor
open Go.RowKit Pu Go.Lib

set_option maxHeartbeats 2000000 in
theorem gradesDeviates_c (n : Int) (h : Bool) (l g : Int) (w : World) (_ : (Lit.int .i64 n).wf = true) (_ : (Lit.int .i64 l).wf = true) (_ : (Lit.int .i64 g).wf = true) : Calls Tryz.prog 4 #[.int .i64 n, .agg #[.bool h, .int .i64 l, .int .i64 g]] w fun e w' => e = .returned (.bool true) ∧ Below w.heap.size w w' := by
  have A1 := fun W => Deviations_c n l g h W
  have A2 := fun W => rDeviations_c n l g h W
  have A3 := fun W => Limits_c n l g h W
  have A4 := fun W => rLimits_c n l g h W
  obtain ⟨a, ha⟩ : ∃ a, vLow n h l g = a := ⟨_, rfl⟩
  obtain ⟨b, hb⟩ : ∃ a, vHigh n h l g = a := ⟨_, rfl⟩
  obtain ⟨x, hx⟩ : ∃ a, dE n l g = a := ⟨_, rfl⟩
  obtain ⟨c, hc⟩ : ∃ a, mLow n h l g = a := ⟨_, rfl⟩
  obtain ⟨d, hd⟩ : ∃ a, mHigh n h l g = a := ⟨_, rfl⟩
  obtain ⟨y, hy⟩ : ∃ a, lE n h l g = a := ⟨_, rfl⟩
  simp only [ha, hb, hx, hc, hd, hy, pairV] at A1 A2 A3 A4
  clear ha hb hx hc hd hy
  have B1 := Lib.hid A1; have B2 := Lib.hid A2; have B3 := Lib.hid A3; have B4 := Lib.hid A4
  clear A1 A2 A3 A4
  go_enter Tryz.func4, Tryz.ntmps4
  go_wp2_with fail
  refine (B1.out _).mono ?_
  rintro e w1 ⟨rfl, hbb⟩
  have hr0 := (Row.new w #[.bool h, .int .i64 l, .int .i64 g] 23).next hbb
  have hb1 := ((Below.refl _ w).alloc (Nat.le_refl _) (.cells #[.bool h, .int .i64 l, .int .i64 g] 23)).trans (hbb.mono (by simp))
  clear hbb
  have hc0 := (hr0.alloc (.cells #[.int .i64 a, .int .i64 b] 39)).cell
  go_wp2_with fail
  refine (B2.out _).mono ?_
  rintro e w2 ⟨rfl, hbb⟩
  clear hc0
  have hr0 := (hr0.alloc _).next hbb
  have hr1 := (Row.new w1 #[.int .i64 a, .int .i64 b] 39).next hbb
  have hb2 := (hb1.alloc hb1.size (.cells #[.int .i64 a, .int .i64 b] 39)).trans (hbb.mono (by simp; have := hb1.size; omega))
  clear hbb
  have hc0 := (hr0.alloc (.cells #[.int .i64 a, .int .i64 b] 39)).cell
  have hc1 := (hr1.alloc (.cells #[.int .i64 a, .int .i64 b] 39)).cell
  go_wp2_with fail
  refine (B3.out _).mono ?_
  rintro e w3 ⟨rfl, hbb⟩
  clear hc0 hc1
  have hr0 := (hr0.alloc _).next hbb
  have hr1 := (hr1.alloc _).next hbb
  have hr2 := (Row.new w2 #[.int .i64 a, .int .i64 b] 39).next hbb
  have hb3 := (hb2.alloc hb2.size (.cells #[.int .i64 a, .int .i64 b] 39)).trans (hbb.mono (by simp; have := hb2.size; omega))
  clear hbb
  have hc0 := (hr0.alloc (.cells #[.int .i64 c, .int .i64 d] 39)).cell
  have hc1 := (hr1.alloc (.cells #[.int .i64 c, .int .i64 d] 39)).cell
  have hc2 := (hr2.alloc (.cells #[.int .i64 c, .int .i64 d] 39)).cell
  go_wp2_with fail
  refine (B4.out _).mono ?_
  rintro e w4 ⟨rfl, hbb⟩
  clear hc0 hc1 hc2
  have hr0 := (hr0.alloc _).next hbb
  have hr1 := (hr1.alloc _).next hbb
  have hr2 := (hr2.alloc _).next hbb
  have hr3 := (Row.new w3 #[.int .i64 c, .int .i64 d] 39).next hbb
  have hb4 := (hb3.alloc hb3.size (.cells #[.int .i64 c, .int .i64 d] 39)).trans (hbb.mono (by simp; have := hb3.size; omega))
  clear hbb
  have hc0 := (hr0.alloc (.cells #[.int .i64 c, .int .i64 d] 39)).cell
  have hc1 := (hr1.alloc (.cells #[.int .i64 c, .int .i64 d] 39)).cell
  have hc2 := (hr2.alloc (.cells #[.int .i64 c, .int .i64 d] 39)).cell
  have hc3 := (hr3.alloc (.cells #[.int .i64 c, .int .i64 d] 39)).cell
  go_wp2_with fail
  refine (awake_c _).mono ?_
  rintro e w5 ⟨rfl, hbb⟩
  clear hc0 hc1 hc2 hc3
  have hr0 := (hr0.alloc _).next hbb
  have hr1 := (hr1.alloc _).next hbb
  have hr2 := (hr2.alloc _).next hbb
  have hr3 := (hr3.alloc _).next hbb
  have hr4 := (Row.new w4 #[.int .i64 c, .int .i64 d] 39).next hbb
  have hb5 := (hb4.alloc hb4.size (.cells #[.int .i64 c, .int .i64 d] 39)).trans (hbb.mono (by simp; have := hb4.size; omega))
  clear hbb
  have hc1 := hr1.cell; have hc2 := hr2.cell; have hc3 := hr3.cell; have hc4 := hr4.cell
  go_wp2_with fail
  go_ret
  exact ⟨rfl, hb5⟩
end Go.Proofs.YteaopiogjlinbaaGreatDoor

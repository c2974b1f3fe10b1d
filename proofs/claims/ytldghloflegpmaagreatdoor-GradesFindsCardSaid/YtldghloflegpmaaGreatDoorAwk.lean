/- Contract of package metrolablaw15: awake. -/
import Derived.Test.YtldghloflegpmaaGreatDoorPaB
import Derived.Test.YtldghloflegpmaaGreatDoorGrH
namespace Go.Proofs.YtldghloflegpmaaGreatDoor
open Go.RowKit Pu Go.Lib

theorem h7_text : prsV (ByteArray.mk #[72, 55]).data.toList = (.tuple #[.agg #[.bool true, .int .i64 4, .int .i64 7], .int .i64 0]) := by kernel_rfl
theorem g6_text : fmtV false 3 6 = .tuple #[.string ⟨#[103, 54]⟩, .int .i64 0] := by
  unfold fmtV
  rw [if_pos (by decide)]
  have : (fmtL false 3 6).toArray = #[103, 54] := by
    unfold fmtL
    rw [show ((6 : Int).toNat) = 6 from rfl, Lib.decDigits, dif_pos (by omega)]
    rfl
  rw [this]
theorem Parse_H7 (w : World) : Calls Tryz.prog 47 #[.string ⟨#[72, 55]⟩] w fun e w' => e = .returned ((.tuple #[.agg #[.bool true, .int .i64 4, .int .i64 7], .int .i64 0])) ∧ Below w.heap.size w w' := by
  have := Parse_c ⟨#[72, 55]⟩ w (by decide)
  rw [h7_text] at this
  exact this
theorem Format_g6 (w : World) : Calls Tryz.prog 50 #[.agg #[.bool false, .int .i64 3, .int .i64 6]] w fun e w' => e = .returned (.tuple #[.string ⟨#[103, 54]⟩, .int .i64 0]) ∧ Below w.heap.size w w' := by
  have := Format_c false 3 6 w
  rw [g6_text] at this
  exact this
theorem Limits_H7 (w : World) : Calls Tryz.prog 48 #[.int .i64 25000, .agg #[.bool true, .int .i64 4, .int .i64 7]] w fun e w' => e = .returned ((.tuple #[.agg #[.int .i64 25000, .int .i64 25021], .int .i64 0])) ∧ Below w.heap.size w w' := by
  have := Limits_c 25000 4 7 true w
  rw [show pairV (mLow 25000 true 4 7) (mHigh 25000 true 4 7) (lE 25000 true 4 7) = (.tuple #[.agg #[.int .i64 25000, .int .i64 25021], .int .i64 0]) by kernel_rfl] at this
  exact this
theorem Dev_a (w : World) : Calls Tryz.prog 49 #[.int .i64 25000, .agg #[.bool false, .int .i64 3, .int .i64 6]] w fun e w' => e = .returned ((.tuple #[.agg #[.int .i64 (-20), .int .i64 (-7)], .int .i64 0])) ∧ Below w.heap.size w w' := by
  have := Deviations_c 25000 3 6 false w
  rw [show pairV (vLow 25000 false 3 6) (vHigh 25000 false 3 6) (dE 25000 3 6) = (.tuple #[.agg #[.int .i64 (-20), .int .i64 (-7)], .int .i64 0]) by kernel_rfl] at this
  exact this
theorem Dev_b (w : World) : Calls Tryz.prog 49 #[.int .i64 2000, .agg #[.bool false, .int .i64 5, .int .i64 5]] w fun e w' => e = .returned ((.tuple #[.agg #[.int .i64 (-2), .int .i64 2], .int .i64 0])) ∧ Below w.heap.size w w' := by
  have := Deviations_c 2000 5 5 false w
  rw [show pairV (vLow 2000 false 5 5) (vHigh 2000 false 5 5) (dE 2000 5 5) = (.tuple #[.agg #[.int .i64 (-2), .int .i64 2], .int .i64 0]) by kernel_rfl] at this
  exact this
theorem Dev_c (w : World) : Calls Tryz.prog 49 #[.int .i64 90000, .agg #[.bool false, .int .i64 9, .int .i64 12]] w fun e w' => e = .returned ((.tuple #[.agg #[.int .i64 48, .int .i64 400], .int .i64 0])) ∧ Below w.heap.size w w' := by
  have := Deviations_c 90000 9 12 false w
  rw [show pairV (vLow 90000 false 9 12) (vHigh 90000 false 9 12) (dE 90000 9 12) = (.tuple #[.agg #[.int .i64 48, .int .i64 400], .int .i64 0]) by kernel_rfl] at this
  exact this
theorem Coa_a (w : World) : Calls Tryz.prog 14 #[.int .i64 25000, .int .i64 21] w fun e w' => e = .returned (.tuple #[.int .i64 7, .int .i64 0]) ∧ Below w.heap.size w w' := by
  have := Coarsest_c 25000 21 w
  rw [show twoV (if zE 25000 = 0 then cGo 25000 21 8 else 0) (coE 25000 21) = .tuple #[.int .i64 7, .int .i64 0] by kernel_rfl] at this
  exact this
theorem Coa_b (w : World) : Calls Tryz.prog 14 #[.int .i64 25000, .int .i64 8] w fun e w' => e = .returned (.tuple #[.int .i64 0, .int .i64 6]) ∧ Below w.heap.size w w' := by
  have := Coarsest_c 25000 8 w
  rw [show twoV (if zE 25000 = 0 then cGo 25000 8 8 else 0) (coE 25000 8) = .tuple #[.int .i64 0, .int .i64 6] by kernel_rfl] at this
  exact this

set_option maxRecDepth 100000 in
set_option maxHeartbeats 4000000 in
theorem awake_c (w : World) : Calls Tryz.prog 16 #[] w fun e w' => e = .returned (.bool true) ∧ Below w.heap.size w w' := by
  go_enter Tryz.func16, Tryz.ntmps16
  go_wp2_with fail
  refine (Parse_H7 _).mono ?_
  rintro e w2 ⟨rfl, hb1⟩
  go_wp2_with fail
  refine (Limits_H7 _).mono ?_
  rintro e w3 ⟨rfl, hbb⟩
  have hr1 := (Row.new w2 #[.bool true, .int .i64 4, .int .i64 7] 40).next hbb
  have hb3 := (hb1.alloc hb1.size (.cells #[.bool true, .int .i64 4, .int .i64 7] 40)).trans (hbb.mono (by simp; have := hb1.size; omega))
  clear hbb
  go_wp2_with fail
  refine (Dev_a _).mono ?_
  rintro e w4 ⟨rfl, hbb⟩
  have hr1 := (hr1.alloc _).next hbb
  have hr2 := (Row.new w3 #[.int .i64 25000, .int .i64 25021] 23).next hbb
  have hb4 := (hb3.alloc hb3.size (.cells #[.int .i64 25000, .int .i64 25021] 23)).trans (hbb.mono (by simp; have := hb3.size; omega))
  clear hbb
  go_wp2_with fail
  refine (Dev_b _).mono ?_
  rintro e w5 ⟨rfl, hbb⟩
  have hr1 := (hr1.alloc _).next hbb
  have hr2 := (hr2.alloc _).next hbb
  have hr3 := (Row.new w4 #[.int .i64 (-20), .int .i64 (-7)] 23).next hbb
  have hb5 := (hb4.alloc hb4.size (.cells #[.int .i64 (-20), .int .i64 (-7)] 23)).trans (hbb.mono (by simp; have := hb4.size; omega))
  clear hbb
  go_wp2_with fail
  refine (Dev_c _).mono ?_
  rintro e w6 ⟨rfl, hbb⟩
  have hr1 := (hr1.alloc _).next hbb
  have hr2 := (hr2.alloc _).next hbb
  have hr3 := (hr3.alloc _).next hbb
  have hr4 := (Row.new w5 #[.int .i64 (-2), .int .i64 2] 23).next hbb
  have hb6 := (hb5.alloc hb5.size (.cells #[.int .i64 (-2), .int .i64 2] 23)).trans (hbb.mono (by simp; have := hb5.size; omega))
  clear hbb
  go_wp2_with fail
  refine (Coa_a _).mono ?_
  rintro e w7 ⟨rfl, hbb⟩
  have hr1 := (hr1.alloc _).next hbb
  have hr2 := (hr2.alloc _).next hbb
  have hr3 := (hr3.alloc _).next hbb
  have hr4 := (hr4.alloc _).next hbb
  have hr5 := (Row.new w6 #[.int .i64 48, .int .i64 400] 23).next hbb
  have hb7 := (hb6.alloc hb6.size (.cells #[.int .i64 48, .int .i64 400] 23)).trans (hbb.mono (by simp; have := hb6.size; omega))
  clear hbb
  go_wp2_with fail
  refine (Coa_b _).mono ?_
  rintro e w8 ⟨rfl, hbb⟩
  have hr1 := (hr1).next hbb
  have hr2 := (hr2).next hbb
  have hr3 := (hr3).next hbb
  have hr4 := (hr4).next hbb
  have hr5 := (hr5).next hbb
  have hb8 := hb7.trans (hbb.mono hb7.size)
  clear hbb
  go_wp2_with fail
  refine (Format_g6 _).mono ?_
  rintro e w9 ⟨rfl, hbb⟩
  have hr1 := (hr1).next hbb
  have hr2 := (hr2).next hbb
  have hr3 := (hr3).next hbb
  have hr4 := (hr4).next hbb
  have hr5 := (hr5).next hbb
  have hb9 := hb8.trans (hbb.mono hb8.size)
  clear hbb
  have c1 := hr1.cell; have c2 := hr2.cell; have c3 := hr3.cell; have c4 := hr4.cell; have c5 := hr5.cell
  have f1 := hr1.frozen; have f2 := hr2.frozen; have f3 := hr3.frozen; have f4 := hr4.frozen; have f5 := hr5.frozen
  go_wp2_with fail
  go_ret
  first | exact ⟨rfl, hb9⟩ | exact ⟨rfl, ((hb9.drew).alloc hb9.size _)⟩
end Go.Proofs.YtldghloflegpmaaGreatDoor

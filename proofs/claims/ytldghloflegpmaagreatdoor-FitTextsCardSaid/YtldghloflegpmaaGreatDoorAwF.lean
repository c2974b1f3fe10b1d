/- Contract of package metrolablaw16: awake. -/
import Derived.Test.YtldghloflegpmaaGreatDoorFtS
import Derived.Test.YtldghloflegpmaaGreatDoorFtR
namespace Go.Proofs.YtldghloflegpmaaGreatDoor
open Go.RowKit Go.Shelf Pu Go.Lib

theorem th_25 : thL 25000 = [50, 53] := by
  unfold thL decL
  rw [show 25000 / Nat.gcd 25000 1000 = 25 by decide, show 1000 / Nat.gcd 25000 1000 = 1 by decide, if_pos (by decide), show 25 / 1 = 25 from rfl, Lib.decDigits_two (by omega) (by omega)]
  rfl
theorem dg (k : Nat) (h : k < 10) : Lib.decDigits k = [UInt8.ofNat (48 + k)] := Lib.decDigits_one h
theorem txt_a : txtL 25000 4 7 3 6 = [50, 53, 32, 72, 55, 47, 103, 54] := by
  unfold txtL fmtL
  rw [show (25000 : Int).toNat = 25000 from rfl, th_25, show (7 : Int).toNat = 7 from rfl, show (6 : Int).toNat = 6 from rfl, dg 7 (by omega), dg 6 (by omega)]
  rfl
theorem txt_b : txtL 25000 4 7 8 6 = [50, 53, 32, 72, 55, 47, 110, 54] := by
  unfold txtL fmtL
  rw [show (25000 : Int).toNat = 25000 from rfl, th_25, show (7 : Int).toNat = 7 from rfl, show (6 : Int).toNat = 6 from rfl, dg 7 (by omega), dg 6 (by omega)]
  rfl
theorem txt_s : txtL 25000 3 6 4 7 = [50, 53, 32, 71, 54, 47, 104, 55] := by
  unfold txtL fmtL
  rw [show (25000 : Int).toNat = 25000 from rfl, th_25, show (7 : Int).toNat = 7 from rfl, show (6 : Int).toNat = 6 from rfl, dg 7 (by omega), dg 6 (by omega)]
  rfl
theorem good_a : goodT [50, 53, 32, 72, 55, 47, 103, 54] := ⟨by kernel_rfl, by kernel_rfl, by kernel_rfl, txt_a⟩
theorem good_b : goodT [50, 53, 32, 72, 55, 47, 110, 54] := ⟨by kernel_rfl, by kernel_rfl, by kernel_rfl, txt_b⟩
theorem Parse_A (w : World) (hG : Gw w) : Calls Tryz.prog 35 #[.string ⟨#[50, 53, 32, 72, 55, 47, 103, 54]⟩] w fun e w' => e = .returned (.tuple #[.agg (fitC 25000 true 4 7 false 3 6), .int .i64 0]) ∧ Below w.heap.size w w' := by
  have h := fParse_c ⟨#[50, 53, 32, 72, 55, 47, 103, 54]⟩ w (by decide) hG
  have e : fpV [50, 53, 32, 72, 55, 47, 103, 54] = .tuple #[.agg (fitC 25000 true 4 7 false 3 6), .int .i64 0] := by
    unfold fpV
    rw [if_neg (by decide), if_pos good_a]
    kernel_rfl
  rw [show (⟨#[50, 53, 32, 72, 55, 47, 103, 54]⟩ : ByteArray).data.toList = [50, 53, 32, 72, 55, 47, 103, 54] from rfl, e] at h
  exact h
theorem Parse_B (w : World) (hG : Gw w) : Calls Tryz.prog 35 #[.string ⟨#[50, 53, 32, 72, 55, 47, 110, 54]⟩] w fun e w' => e = .returned (.tuple #[.agg (fitC 25000 true 4 7 false 8 6), .int .i64 0]) ∧ Below w.heap.size w w' := by
  have h := fParse_c ⟨#[50, 53, 32, 72, 55, 47, 110, 54]⟩ w (by decide) hG
  have e : fpV [50, 53, 32, 72, 55, 47, 110, 54] = .tuple #[.agg (fitC 25000 true 4 7 false 8 6), .int .i64 0] := by
    unfold fpV
    rw [if_neg (by decide), if_pos good_b]
    kernel_rfl
  rw [show (⟨#[50, 53, 32, 72, 55, 47, 110, 54]⟩ : ByteArray).data.toList = [50, 53, 32, 72, 55, 47, 110, 54] from rfl, e] at h
  exact h
theorem Lim_A (w : World) : Calls Tryz.prog 19 #[.agg (fitC 25000 true 4 7 false 3 6)] w fun e w' => e = .returned (.tuple #[.agg #[.int .i64 25000, .int .i64 25021], .agg #[.int .i64 24980, .int .i64 24993], .int .i64 0]) ∧ Below w.heap.size w w' := by
  have h := fLimits_c 25000 true 4 7 false 3 6 w
  rw [show fLimV 25000 true 4 7 false 3 6 = (.tuple #[.agg #[.int .i64 25000, .int .i64 25021], .agg #[.int .i64 24980, .int .i64 24993], .int .i64 0]) by kernel_rfl] at h
  exact h
theorem Cl_A (w : World) : Calls Tryz.prog 24 #[.agg (fitC 25000 true 4 7 false 3 6)] w fun e w' => e = .returned (.tuple #[.agg #[.int .i64 7, .int .i64 41], .int .i64 0]) ∧ Below w.heap.size w w' := by
  have h := Clearance_c 25000 true 4 7 false 3 6 w
  rw [show pairV (pLow 25000 true 4 7 false 3 6) (pHigh 25000 true 4 7 false 3 6) (fE 25000 true 4 7 false 3 6) = (.tuple #[.agg #[.int .i64 7, .int .i64 41], .int .i64 0]) by kernel_rfl] at h
  exact h
theorem Cl_B (w : World) : Calls Tryz.prog 24 #[.agg (fitC 25000 true 4 7 false 8 6)] w fun e w' => e = .returned (.tuple #[.agg #[.int .i64 (-32), .int .i64 2], .int .i64 0]) ∧ Below w.heap.size w w' := by
  have h := Clearance_c 25000 true 4 7 false 8 6 w
  rw [show pairV (pLow 25000 true 4 7 false 8 6) (pHigh 25000 true 4 7 false 8 6) (fE 25000 true 4 7 false 8 6) = (.tuple #[.agg #[.int .i64 (-32), .int .i64 2], .int .i64 0]) by kernel_rfl] at h
  exact h
theorem Ki_A (w : World) : Calls Tryz.prog 26 #[.agg (fitC 25000 true 4 7 false 3 6)] w fun e w' => e = .returned (.tuple #[.int .i64 0, .int .i64 0]) ∧ Below w.heap.size w w' := by
  have h := Kind_c 25000 true 4 7 false 3 6 w
  rw [show kV 25000 true 4 7 false 3 6 = 0 by kernel_rfl, show fE 25000 true 4 7 false 3 6 = 0 by kernel_rfl] at h
  exact h
theorem Ki_B (w : World) : Calls Tryz.prog 26 #[.agg (fitC 25000 true 4 7 false 8 6)] w fun e w' => e = .returned (.tuple #[.int .i64 1, .int .i64 0]) ∧ Below w.heap.size w w' := by
  have h := Kind_c 25000 true 4 7 false 8 6 w
  rw [show kV 25000 true 4 7 false 8 6 = 1 by kernel_rfl, show fE 25000 true 4 7 false 8 6 = 0 by kernel_rfl] at h
  exact h
theorem Sw_A (w : World) : Calls Tryz.prog 29 #[.agg (fitC 25000 true 4 7 false 3 6)] w fun e w' => e = .returned (.tuple #[.agg (fitC 25000 true 3 6 false 4 7), .int .i64 0]) ∧ Below w.heap.size w w' := by
  have h := Swap_c 25000 true 4 7 false 3 6 w
  rw [show swV 25000 true 4 7 false 3 6 = (.tuple #[.agg (fitC 25000 true 3 6 false 4 7), .int .i64 0]) by kernel_rfl] at h
  exact h
theorem Tx_A (w : World) (hG : Gw w) : Calls Tryz.prog 33 #[.agg (fitC 25000 true 3 6 false 4 7)] w fun e w' => e = .returned (.tuple #[.string ⟨#[50, 53, 32, 71, 54, 47, 104, 55]⟩, .int .i64 0]) ∧ Below w.heap.size w w' := by
  have h := Text_ok 25000 3 6 4 7 w (by kernel_rfl) hG
  rw [txt_s] at h
  exact h
theorem Pr_A (w : World) : Calls Tryz.prog 31 #[.agg (fitC 25000 true 4 7 false 3 6), .int .i64 25010, .int .i64 24990] w fun e w' => e = .returned (.tuple #[.int .i64 20, .bool true, .int .i64 0]) ∧ Below w.heap.size w w' := by
  have h := Pair_ok 25000 true 4 7 false 3 6 25010 24990 w (by kernel_rfl) (by omega) (by omega) (by omega) (by omega)
  rw [show prV (25010 - 24990) ((decide (mLow 25000 true 4 7 ≤ 25010) && decide (25010 ≤ mHigh 25000 true 4 7)) && (decide (mLow 25000 false 3 6 ≤ 24990) && decide (24990 ≤ mHigh 25000 false 3 6))) 0 = (.tuple #[.int .i64 20, .bool true, .int .i64 0]) by kernel_rfl] at h
  exact h

set_option maxRecDepth 100000 in
set_option maxHeartbeats 4000000 in
theorem awake16_c (w : World) (hG : Gw w) : Calls Tryz.prog 28 #[] w fun e w' => e = .returned (.bool true) ∧ Below w.heap.size w w' := by
  go_enter Tryz.func28, Tryz.ntmps28
  have hb := Below.refl w.heap.size w
  go_wp2_with fail
  refine (Parse_A _ (hG.next hb)).mono ?_
  rintro e w2 ⟨rfl, hbb⟩
  have hb := hb.trans (hbb.mono hb.size)
  clear hbb
  have rf := Row.new (w2) (fitC 25000 true 4 7 false 3 6) 42
  have hb := hb.alloc hb.size (.cells (fitC 25000 true 4 7 false 3 6) 42)
  have crf := rf.cell
  go_wp2_with fail
  refine (Lim_A _).mono ?_
  rintro e w3 ⟨rfl, hbb⟩
  have rf := rf.next hbb
  have hb := hb.trans (hbb.mono hb.size)
  clear hbb
  have rf := rf.alloc (.cells #[.int .i64 25000, .int .i64 25021] 23)
  have ra := Row.new (w3) #[.int .i64 25000, .int .i64 25021] 23
  have hb := hb.alloc hb.size (.cells #[.int .i64 25000, .int .i64 25021] 23)
  have rf := rf.alloc (.cells #[.int .i64 24980, .int .i64 24993] 23)
  have ra := ra.alloc (.cells #[.int .i64 24980, .int .i64 24993] 23)
  have rb := Row.new ((w3).alloc (.cells #[.int .i64 25000, .int .i64 25021] 23)) #[.int .i64 24980, .int .i64 24993] 23
  simp only [World.size_alloc] at rb
  have hb := hb.alloc hb.size (.cells #[.int .i64 24980, .int .i64 24993] 23)
  clear crf
  have crf := rf.cell
  go_wp2_with fail
  refine (Cl_A _).mono ?_
  rintro e w4 ⟨rfl, hbb⟩
  have rf := rf.next hbb
  have ra := ra.next hbb
  have rb := rb.next hbb
  have hb := hb.trans (hbb.mono hb.size)
  clear hbb
  have rf := rf.alloc (.cells #[.int .i64 7, .int .i64 41] 23)
  have ra := ra.alloc (.cells #[.int .i64 7, .int .i64 41] 23)
  have rb := rb.alloc (.cells #[.int .i64 7, .int .i64 41] 23)
  have rc := Row.new (w4) #[.int .i64 7, .int .i64 41] 23
  have hb := hb.alloc hb.size (.cells #[.int .i64 7, .int .i64 41] 23)
  clear crf
  have crf := rf.cell
  go_wp2_with fail
  refine (Ki_A _).mono ?_
  rintro e w5 ⟨rfl, hbb⟩
  have rf := rf.next hbb
  have ra := ra.next hbb
  have rb := rb.next hbb
  have rc := rc.next hbb
  have hb := hb.trans (hbb.mono hb.size)
  clear hbb
  clear crf
  have cra := ra.cell
  have crb := rb.cell
  have crc := rc.cell
  have crf := rf.cell
  go_wp2_with fail
  refine (Sw_A _).mono ?_
  rintro e w6 ⟨rfl, hbb⟩
  have rf := rf.next hbb
  have ra := ra.next hbb
  have rb := rb.next hbb
  have rc := rc.next hbb
  have hb := hb.trans (hbb.mono hb.size)
  clear hbb
  clear ra
  clear rb
  clear rc
  have rf := rf.alloc (.cells (fitC 25000 true 3 6 false 4 7) 42)
  have rs := Row.new (w6) (fitC 25000 true 3 6 false 4 7) 42
  have hb := hb.alloc hb.size (.cells (fitC 25000 true 3 6 false 4 7) 42)
  clear cra crb crc crf
  have crs := rs.cell
  go_wp2_with fail
  refine (Tx_A _ (hG.next hb)).mono ?_
  rintro e w7 ⟨rfl, hbb⟩
  have rf := rf.next hbb
  have rs := rs.next hbb
  have hb := hb.trans (hbb.mono hb.size)
  clear hbb
  clear rs
  clear crs
  have crf := rf.cell
  go_wp2_with fail
  refine (Pr_A _).mono ?_
  rintro e w8 ⟨rfl, hbb⟩
  have rf := rf.next hbb
  have hb := hb.trans (hbb.mono hb.size)
  clear hbb
  clear rf
  clear crf
  go_wp2_with fail
  refine (Parse_B _ (hG.next hb)).mono ?_
  rintro e w9 ⟨rfl, hbb⟩
  have hb := hb.trans (hbb.mono hb.size)
  clear hbb
  have rx := Row.new (w9) (fitC 25000 true 4 7 false 8 6) 42
  have hb := hb.alloc hb.size (.cells (fitC 25000 true 4 7 false 8 6) 42)
  have crx := rx.cell
  go_wp2_with fail
  refine (Cl_B _).mono ?_
  rintro e w10 ⟨rfl, hbb⟩
  have rx := rx.next hbb
  have hb := hb.trans (hbb.mono hb.size)
  clear hbb
  have rx := rx.alloc (.cells #[.int .i64 (-32), .int .i64 2] 23)
  have ry := Row.new (w10) #[.int .i64 (-32), .int .i64 2] 23
  have hb := hb.alloc hb.size (.cells #[.int .i64 (-32), .int .i64 2] 23)
  clear crx
  have crx := rx.cell
  go_wp2_with fail
  refine (Ki_B _).mono ?_
  rintro e w11 ⟨rfl, hbb⟩
  have rx := rx.next hbb
  have ry := ry.next hbb
  have hb := hb.trans (hbb.mono hb.size)
  clear hbb
  clear rx
  clear crx
  have cry := ry.cell
  go_wp2
  go_ret
  exact ⟨rfl, hb⟩
end Go.Proofs.YtldghloflegpmaaGreatDoor

/- The walk of metrolablaw15.GradesReads. -/
import Derived.Test.YteaopiogjlinbaaGreatDoorAwk
import Derived.Test.YteaopiogjlinbaaGreatDoorRfF
import Derived.Test.YteaopiogjlinbaaGreatDoorRfG
import Derived.Test.YteaopiogjlinbaaGreatDoorRo3
namespace Go.Proofs.YteaopiogjlinbaaGreatDoor
open Go.RowKit Pu Go.Lib

theorem prsV_shape (l : List UInt8) : ∃ h a b e, prsV l = .tuple #[.agg #[.bool h, .int .i64 a, .int .i64 b], .int .i64 e] := by
  unfold prsV clsV; split
  · exact ⟨_, _, _, _, rfl⟩
  · exact ⟨_, _, _, _, rfl⟩
theorem fmtV_shape (h : Bool) (l g : Int) : ∃ t e, fmtV h l g = .tuple #[.string t, .int .i64 e] := by
  unfold fmtV; split
  · exact ⟨_, _, rfl⟩
  · exact ⟨_, _, rfl⟩

set_option maxHeartbeats 2000000 in
theorem reads_long (h : Bool) (l g : Int) (s : ByteArray) (w : World) (hs : 60 < s.size) : Calls Tryz.prog 3 #[.agg #[.bool h, .int .i64 l, .int .i64 g], .string s] w fun e w' => e = .returned (.bool true) ∧ Below w.heap.size w w' := by
  go_enter Tryz.func3, Tryz.ntmps3
  go_wp2_with fail
  refine (awake_c _).mono ?_
  rintro e w2 ⟨rfl, hbb⟩
  go_wp2
  go_ret
  first | exact ⟨rfl, hbb⟩ | exact ⟨rfl, ((Below.refl _ w).alloc (Nat.le_refl _) (.cells #[.bool h, .int .i64 l, .int .i64 g] 23)).trans (hbb.mono (by simp))⟩

set_option maxHeartbeats 4000000 in
theorem reads_short (h : Bool) (l g : Int) (s : ByteArray) (w : World) (hs : s.size ≤ 60) : Calls Tryz.prog 3 #[.agg #[.bool h, .int .i64 l, .int .i64 g], .string s] w fun e w' => e = .returned (.bool true) ∧ Below w.heap.size w w' := by
  have A1 := fun W => Parse_c s W (by omega)
  have A2 := fun W => rParse_c s W (by omega)
  have A3 := fun W => Format_c h l g W
  have A4 := fun W => rFormat_c h l g W
  obtain ⟨ph, pa, pb, pe, hp⟩ := prsV_shape s.data.toList
  obtain ⟨t, te, ht⟩ := fmtV_shape h l g
  rw [hp] at A1 A2
  rw [ht] at A3 A4
  have B1 := Lib.hid A1; have B2 := Lib.hid A2; have B3 := Lib.hid A3; have B4 := Lib.hid A4
  clear A1 A2 A3 A4 hp ht
  have hs' : ¬ 60 < s.size := by omega
  go_enter Tryz.func3, Tryz.ntmps3
  go_wp2_with fail
  refine (B1.out _).mono ?_
  rintro e w1 ⟨rfl, hbb⟩
  have hr0 := (Row.new w #[.bool h, .int .i64 l, .int .i64 g] 23).next hbb
  have hb1 := ((Below.refl _ w).alloc (Nat.le_refl _) (.cells #[.bool h, .int .i64 l, .int .i64 g] 23)).trans (hbb.mono (by simp))
  clear hbb
  have hc0 := hr0.cell
  have hcA := hr0.cellA
  go_wp2_with fail
  refine (B2.out _).mono ?_
  rintro e w2 ⟨rfl, hbb⟩
  clear hc0 hcA
  have hr0 := (hr0.alloc _).next hbb
  have hr1 := (Row.new w1 #[.bool ph, .int .i64 pa, .int .i64 pb] 23).next hbb
  have hb2 := (hb1.alloc hb1.size (.cells #[.bool ph, .int .i64 pa, .int .i64 pb] 23)).trans (hbb.mono (by simp; have := hb1.size; omega))
  clear hbb
  have hc0 := hr0.cell
  have hcA := hr0.cellA
  go_wp2_with fail
  refine (B3.out _).mono ?_
  rintro e w3 ⟨rfl, hbb⟩
  clear hc0 hcA
  have hr0 := (hr0.alloc _).next hbb
  have hr1 := (hr1.alloc _).next hbb
  have hr2 := (Row.new w2 #[.bool ph, .int .i64 pa, .int .i64 pb] 28).next hbb
  have hb3 := (hb2.alloc hb2.size (.cells #[.bool ph, .int .i64 pa, .int .i64 pb] 28)).trans (hbb.mono (by simp; have := hb2.size; omega))
  clear hbb
  have hc0 := hr0.cell
  have hcA := hr0.cellA
  go_wp2_with fail
  refine (B4.out _).mono ?_
  rintro e w4 ⟨rfl, hbb⟩
  clear hc0 hcA
  have hr0 := hr0.next hbb
  have hr1 := hr1.next hbb
  have hr2 := hr2.next hbb
  have hb4 := hb3.trans (hbb.mono hb3.size)
  clear hbb
  have hc0 := hr0.cell
  have hcA := hr0.cellA
  go_wp2_with fail
  clear hc0 hcA
  have hS := S3.of ⟨⟨Nat.le_refl _, hb4⟩, hr0, hr1, hr2⟩
  clear hr0 hr1 hr2
  go_region_held3 (fun w' => H3 w.heap.size w w.heap.size #[.bool h, .int .i64 l, .int .i64 g] 23 w1.heap.size #[.bool ph, .int .i64 pa, .int .i64 pb] 23 w2.heap.size #[.bool ph, .int .i64 pa, .int .i64 pb] 28 w' ∧ (∀ j, w'.cell? ⟨w.heap.size, j, none⟩ = (#[.bool h, .int .i64 l, .int .i64 g] : Array Value)[j]?) ∧ (∀ j, w'.cell? ⟨w1.heap.size, j, none⟩ = (#[.bool ph, .int .i64 pa, .int .i64 pb] : Array Value)[j]?) ∧ (∀ j, w'.cell? ⟨w2.heap.size, j, none⟩ = (#[.bool ph, .int .i64 pa, .int .i64 pb] : Array Value)[j]?))
    (first | exact hS | exact S3.drew hS | (refine S3.drew ?_; assumption) | (refine S3.call ?_ hbb; assumption) | (refine S3.call (S3.drew ?_) hbb; assumption))
    (first | (go_at_call 17; refine (awake_c _).mono ?_; rintro e w' ⟨rfl, hbb⟩) | (go_at_call 22; refine (check_c _ _ _ _).mono ?_; rintro e w' ⟨rfl, hbb⟩) | (go_at_call 23; refine (rCheck_c _ _ _ _).mono ?_; rintro e w' ⟨rfl, hbb⟩))
  all_goals (rename_i hHeld; go_wp2; go_ret; exact ⟨rfl, hHeld.1.1.2⟩)

theorem gradesReads_c (h : Bool) (l g : Int) (s : ByteArray) (w : World) (_ : (Lit.int .i64 l).wf = true) (_ : (Lit.int .i64 g).wf = true) (_ : s.size ≤ maxLen) : Calls Tryz.prog 3 #[.agg #[.bool h, .int .i64 l, .int .i64 g], .string s] w fun e w' => e = .returned (.bool true) ∧ Below w.heap.size w w' := by
  by_cases hs : 60 < s.size
  · exact reads_long h l g s w hs
  · exact reads_short h l g s w (by omega)
end Go.Proofs.YteaopiogjlinbaaGreatDoor

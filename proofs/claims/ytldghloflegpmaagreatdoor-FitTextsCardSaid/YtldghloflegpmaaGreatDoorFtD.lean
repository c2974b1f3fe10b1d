/- Contract of package fit: Pair. -/
import Derived.Test.YtldghloflegpmaaGreatDoorFtC
namespace Go.Proofs.YtldghloflegpmaaGreatDoor
open Go.RowKit Pu Go.Lib

theorem within_c (a b v : Int) (w : World) : Calls Tryz.prog 58 #[.agg #[.int .i64 a, .int .i64 b], .int .i64 v] w fun e w' => e = .returned (.bool (decide (a ≤ v) && decide (v ≤ b))) ∧ Below w.heap.size w w' := by
  by_cases h1 : a ≤ v
  · go_enter Tryz.func58, Tryz.ntmps58
    go_wp2
    go_ret
    exact ⟨by simp [h1], (Below.refl _ w).alloc (Nat.le_refl _) _⟩
  · go_enter Tryz.func58, Tryz.ntmps58
    go_wp2
    go_ret
    exact ⟨by simp; omega, (Below.refl _ w).alloc (Nat.le_refl _) _⟩

theorem ints_at0 (a b : Value) (w : World) : (Instr.index 106 (.agg #[a, b]) (.int .i64 0)).run Tryz.prog w = .ok a w := by kernel_rfl
theorem ints_at1 (a b : Value) (w : World) : (Instr.index 106 (.agg #[a, b]) (.int .i64 1)).run Tryz.prog w = .ok b w := by kernel_rfl
/-- Three results of a pair. -/
def prV (n : Int) (ok : Bool) (x : Int) : Value := .tuple #[.int .i64 n, .bool ok, .int .i64 x]
set_option maxHeartbeats 2000000 in
theorem Pair_err (n : Int) (hh : Bool) (hl hg : Int) (sh : Bool) (sl sg u v x : Int) (w : World) (hf : fE n hh hl hg sh sl sg = x) (hx : (x == 0) = false) : Calls Tryz.prog 31 #[.agg (fitC n hh hl hg sh sl sg), .int .i64 u, .int .i64 v] w
    fun e w' => e = .returned (prV 0 false x) ∧ Below w.heap.size w w' := by
  have hv : chkV n hh hl hg sh sl sg = .tuple #[.agg (chkC 0 false 0 0 false 0 0 0 0 0 0), .int .i64 x] := by unfold chkV; rw [if_neg (by rw [hf]; simpa using hx), hf]
  have Hv := Lib.hid hv
  clear hv hf
  go_enter Tryz.func31, Tryz.ntmps31
  go_wp2_with fail
  refine (fcheck_c n hh hl hg sh sl sg _).mono ?_
  rintro e w2 ⟨rfl, hbb⟩
  rw [Hv.out]
  have hb2 := ((Below.refl _ w).alloc (Nat.le_refl _) (.cells (fitC n hh hl hg sh sl sg) 42)).trans (hbb.mono (by simp))
  have hb3 := hb2.alloc hb2.size (.cells (chkC 0 false 0 0 false 0 0 0 0 0 0) 96)
  go_wp2
  exact bodyPost_ret (v := prV 0 false x) (by simp [results, Tryz.results31, go_sem, prV]) rfl ⟨rfl, hb3⟩

set_option maxRecDepth 100000 in
set_option maxHeartbeats 4000000 in
theorem Pair_ok (n : Int) (hh : Bool) (hl hg : Int) (sh : Bool) (sl sg u v : Int) (w : World) (hf : fE n hh hl hg sh sl sg = 0) (hu0 : 0 ≤ u) (hu1 : u ≤ 100000) (hv0 : 0 ≤ v) (hv1 : v ≤ 100000) : Calls Tryz.prog 31 #[.agg (fitC n hh hl hg sh sl sg), .int .i64 u, .int .i64 v] w
    fun e w' => e = .returned (prV (u - v) ((decide (mLow n true hl hg ≤ u) && decide (u ≤ mHigh n true hl hg)) && (decide (mLow n false sl sg ≤ v) && decide (v ≤ mHigh n false sl sg))) 0) ∧ Below w.heap.size w w' := by
  have hv : chkV n hh hl hg sh sl sg = .tuple #[.agg (chkC n hh hl hg sh sl sg (mLow n true hl hg) (mHigh n true hl hg) (mLow n false sl sg) (mHigh n false sl sg)), .int .i64 0] := by unfold chkV; rw [if_pos hf]
  generalize mLow n true hl hg = a at *
  generalize mHigh n true hl hg = b at *
  generalize mLow n false sl sg = c at *
  generalize mHigh n false sl sg = d at *
  have Hv := Lib.hid hv
  clear hv hf
  go_enter Tryz.func31, Tryz.ntmps31
  go_wp2_with fail
  refine (fcheck_c n hh hl hg sh sl sg _).mono ?_
  rintro e w2 ⟨rfl, hbb⟩
  rw [Hv.out]
  have hb2 := ((Below.refl _ w).alloc (Nat.le_refl _) (.cells (fitC n hh hl hg sh sl sg) 42)).trans (hbb.mono (by simp))
  have hb3 := hb2.alloc hb2.size (.cells (chkC n hh hl hg sh sl sg a b c d) 96)
  have hr4 := Row.new w2 (chkC n hh hl hg sh sl sg a b c d) 96
  clear hbb
  have t0 := fun w => ints_at0 (.int .i64 u) (.int .i64 v) w
  have t1 := fun w => ints_at1 (.int .i64 u) (.int .i64 v) w
  go_wp2_with fail
  refine wp_loop_rounds 3 ?_
  rw [rounds_succ]
  go_wp2_with fail
  rw [rounds_succ]
  go_wp2_with fail
  rw [rounds_succ]
  go_wp2_with fail
  refine (within_c _ _ _ _).mono ?_
  rintro e w3 ⟨rfl, hbb⟩
  have hr4 := hr4.next hbb
  have hb4 := hb3.trans (hbb.mono hb3.size)
  have hc4 := hr4.cell
  clear hbb
  cases hin : (decide (a ≤ u) && decide (u ≤ b)) with
  | true =>
    have HI := Lib.hid hin
    clear hin
    go_wp2_with fail
    refine (within_c _ _ _ _).mono ?_
    rintro e w4 ⟨rfl, hbb⟩
    have hb5 := hb4.trans (hbb.mono hb4.size)
    go_wp2
    exact bodyPost_ret (v := prV (u - v) (decide (c ≤ v) && decide (v ≤ d)) 0) (by simp [results, Tryz.results31, go_sem, prV]) rfl ⟨by rw [HI.out, Bool.true_and], hb5⟩
  | false =>
    have HI := Lib.hid hin
    clear hin
    go_wp2
    exact bodyPost_ret (v := prV (u - v) false 0) (by simp [results, Tryz.results31, go_sem, prV]) rfl ⟨by rw [HI.out, Bool.false_and], hb4⟩
end Go.Proofs.YtldghloflegpmaaGreatDoor

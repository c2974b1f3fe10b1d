/- Contract of package fit: Pair at sizes out of range. -/
import Derived.Test.YtldghloflegpmaaGreatDoorFtK
namespace Go.Proofs.YtldghloflegpmaaGreatDoor
open Go.RowKit Go.Shelf Pu Go.Lib

set_option maxRecDepth 100000 in
set_option maxHeartbeats 4000000 in
theorem Pair_bad (n : Int) (hh : Bool) (hl hg : Int) (sh : Bool) (sl sg u v : Int) (w : World) (hf : fE n hh hl hg sh sl sg = 0) (hbad : u < 0 ∨ 100000 < u ∨ v < 0 ∨ 100000 < v) : Calls Tryz.prog 31 #[.agg (fitC n hh hl hg sh sl sg), .int .i64 u, .int .i64 v] w
    fun e w' => e = .returned (prV 0 false 2) ∧ Below w.heap.size w w' := by
  have hv : chkV n hh hl hg sh sl sg = .tuple #[.agg (chkC n hh hl hg sh sl sg (mLow n true hl hg) (mHigh n true hl hg) (mLow n false sl sg) (mHigh n false sl sg)), .int .i64 0] := by unfold chkV; rw [if_pos hf]
  generalize mLow n true hl hg = a at *
  generalize mHigh n true hl hg = b at *
  generalize mLow n false sl sg = c at *
  generalize mHigh n false sl sg = d at *
  have Hv := Lib.hid hv
  have t0 := fun w => ints_at0 (.int .i64 u) (.int .i64 v) w
  have t1 := fun w => ints_at1 (.int .i64 u) (.int .i64 v) w
  clear hv hf
  by_cases hu : u < 0 ∨ 100000 < u
  · clear hbad
    rcases hu with hu | hu
    · go_enter Tryz.func31, Tryz.ntmps31
      go_wp2_with fail
      refine (fcheck_c n hh hl hg sh sl sg _).mono ?_
      rintro e w2 ⟨rfl, hbb⟩
      rw [Hv.out]
      have hb2 := ((Below.refl _ w).alloc (Nat.le_refl _) (.cells (fitC n hh hl hg sh sl sg) 42)).trans (hbb.mono (by simp))
      have hb3 := hb2.alloc hb2.size (.cells (chkC n hh hl hg sh sl sg a b c d) 96)
      go_wp2_with fail
      refine wp_loop_rounds 3 ?_
      rw [rounds_succ]
      go_wp2
      exact bodyPost_ret (v := prV 0 false 2) (by simp [results, Tryz.results31, go_sem, prV]) rfl ⟨rfl, hb3⟩
    · go_enter Tryz.func31, Tryz.ntmps31
      go_wp2_with fail
      refine (fcheck_c n hh hl hg sh sl sg _).mono ?_
      rintro e w2 ⟨rfl, hbb⟩
      rw [Hv.out]
      have hb2 := ((Below.refl _ w).alloc (Nat.le_refl _) (.cells (fitC n hh hl hg sh sl sg) 42)).trans (hbb.mono (by simp))
      have hb3 := hb2.alloc hb2.size (.cells (chkC n hh hl hg sh sl sg a b c d) 96)
      go_wp2_with fail
      refine wp_loop_rounds 3 ?_
      rw [rounds_succ]
      go_wp2
      exact bodyPost_ret (v := prV 0 false 2) (by simp [results, Tryz.results31, go_sem, prV]) rfl ⟨rfl, hb3⟩
  · have hv2 : v < 0 ∨ 100000 < v := by omega
    have u1 : ¬ u < 0 := by omega
    have u2 : ¬ 100000 < u := by omega
    clear hbad hu
    rcases hv2 with hv2 | hv2
    · go_enter Tryz.func31, Tryz.ntmps31
      go_wp2_with fail
      refine (fcheck_c n hh hl hg sh sl sg _).mono ?_
      rintro e w2 ⟨rfl, hbb⟩
      rw [Hv.out]
      have hb2 := ((Below.refl _ w).alloc (Nat.le_refl _) (.cells (fitC n hh hl hg sh sl sg) 42)).trans (hbb.mono (by simp))
      have hb3 := hb2.alloc hb2.size (.cells (chkC n hh hl hg sh sl sg a b c d) 96)
      go_wp2_with fail
      refine wp_loop_rounds 3 ?_
      rw [rounds_succ]
      go_wp2_with fail
      rw [rounds_succ]
      go_wp2
      exact bodyPost_ret (v := prV 0 false 2) (by simp [results, Tryz.results31, go_sem, prV]) rfl ⟨rfl, hb3⟩
    · go_enter Tryz.func31, Tryz.ntmps31
      go_wp2_with fail
      refine (fcheck_c n hh hl hg sh sl sg _).mono ?_
      rintro e w2 ⟨rfl, hbb⟩
      rw [Hv.out]
      have hb2 := ((Below.refl _ w).alloc (Nat.le_refl _) (.cells (fitC n hh hl hg sh sl sg) 42)).trans (hbb.mono (by simp))
      have hb3 := hb2.alloc hb2.size (.cells (chkC n hh hl hg sh sl sg a b c d) 96)
      go_wp2_with fail
      refine wp_loop_rounds 3 ?_
      rw [rounds_succ]
      go_wp2_with fail
      rw [rounds_succ]
      go_wp2
      exact bodyPost_ret (v := prV 0 false 2) (by simp [results, Tryz.results31, go_sem, prV]) rfl ⟨rfl, hb3⟩
end Go.Proofs.YtldghloflegpmaaGreatDoor

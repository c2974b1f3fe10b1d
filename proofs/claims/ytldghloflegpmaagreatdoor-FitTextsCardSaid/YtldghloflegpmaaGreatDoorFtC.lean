/- Contract of package fit: Limits. -/
import Derived.Test.YtldghloflegpmaaGreatDoorFtB
namespace Go.Proofs.YtldghloflegpmaaGreatDoor
open Go.RowKit Pu Go.Lib

/-- What Limits of a fit returns. -/
def twoL (a b c d x : Int) : Value := .tuple #[.agg #[.int .i64 a, .int .i64 b], .agg #[.int .i64 c, .int .i64 d], .int .i64 x]
def fLimV (n : Int) (hh : Bool) (hl hg : Int) (sh : Bool) (sl sg : Int) : Value :=
  if fE n hh hl hg sh sl sg = 0 then twoL (mLow n true hl hg) (mHigh n true hl hg) (mLow n false sl sg) (mHigh n false sl sg) 0 else twoL 0 0 0 0 (fE n hh hl hg sh sl sg)

set_option maxRecDepth 100000 in
set_option maxHeartbeats 4000000 in
theorem fLimits_c (n : Int) (hh : Bool) (hl hg : Int) (sh : Bool) (sl sg : Int) (w : World) : Calls Tryz.prog 19 #[.agg (fitC n hh hl hg sh sl sg)] w
    fun e w' => e = .returned (fLimV n hh hl hg sh sl sg) ∧ Below w.heap.size w w' := by
  obtain ⟨a, b, c, d, x, n', hh', hl', hg', sh', sl', sg', hv, h1⟩ : ∃ (a b c d x : Int) (n' : Int) (hh' : Bool) (hl' hg' : Int) (sh' : Bool) (sl' sg' : Int), chkV n hh hl hg sh sl sg = .tuple #[.agg (chkC n' hh' hl' hg' sh' sl' sg' a b c d), .int .i64 x] ∧
      fLimV n hh hl hg sh sl sg = twoL a b c d x := by
    by_cases hf : fE n hh hl hg sh sl sg = 0
    · exact ⟨_, _, _, _, _, _, _, _, _, _, _, _, by unfold chkV; rw [if_pos hf], by unfold fLimV; rw [if_pos hf]⟩
    · exact ⟨_, _, _, _, _, _, _, _, _, _, _, _, by unfold chkV; rw [if_neg hf], by unfold fLimV; rw [if_neg hf]⟩
  have Hv := Lib.hid hv; have H1 := Lib.hid h1
  clear hv h1
  go_enter Tryz.func19, Tryz.ntmps19
  go_wp2_with fail
  refine (fcheck_c n hh hl hg sh sl sg _).mono ?_
  rintro e w2 ⟨rfl, hbb⟩
  rw [Hv.out]
  have hr1 := ((Row.new (w.alloc (.cells (fitC n hh hl hg sh sl sg) 42)) #[.int .i64 0, .int .i64 0] 23).alloc (.cells #[.int .i64 0, .int .i64 0] 23)).next hbb
  have hr2 := (Row.new ((w.alloc (.cells (fitC n hh hl hg sh sl sg) 42)).alloc (.cells #[.int .i64 0, .int .i64 0] 23)) #[.int .i64 0, .int .i64 0] 23).next hbb
  simp only [World.size_alloc] at hr1 hr2
  have hb2 := ((((Below.refl _ w).alloc (Nat.le_refl _) (.cells (fitC n hh hl hg sh sl sg) 42)).alloc (by simp) (.cells #[.int .i64 0, .int .i64 0] 23)).alloc (by simp; omega) (.cells #[.int .i64 0, .int .i64 0] 23)).trans (hbb.mono (by simp; omega))
  have hr1 := hr1.alloc (.cells (chkC n' hh' hl' hg' sh' sl' sg' a b c d) 96)
  have hr2 := hr2.alloc (.cells (chkC n' hh' hl' hg' sh' sl' sg' a b c d) 96)
  have hr4 := Row.new w2 (chkC n' hh' hl' hg' sh' sl' sg' a b c d) 96
  have hb2 := hb2.alloc hb2.size (.cells (chkC n' hh' hl' hg' sh' sl' sg' a b c d) 96)
  clear hbb
  have hc1 := hr1.cell; have hc2 := hr2.cell; have hc4 := hr4.cell
  have hf1 := hr1.frozen; have hf2 := hr2.frozen
  have hlt := hr1.lt
  have hlt2 := hr2.lt
  go_wp2_with fail
  have hne := hr1.lt
  generalize w2.alloc (.cells (chkC n' hh' hl' hg' sh' sl' sg' a b c d) 96) = V at *
  go_region
  go_wp2
  have k1 := (((((hr1.put 0 (.int .i64 a)).put 1 (.int .i64 b)).other (p := ⟨w.heap.size + 1 + 1, 0, none⟩) (by simp) (.int .i64 c)).other (p := ⟨w.heap.size + 1 + 1, 1, none⟩) (by simp) (.int .i64 d))).cell
  have k2 := (((((hr2.other (p := ⟨w.heap.size + 1, 0, none⟩) (by simp) (.int .i64 a)).other (p := ⟨w.heap.size + 1, 1, none⟩) (by simp) (.int .i64 b)).put 0 (.int .i64 c)).put 1 (.int .i64 d))).cell
  clear hc1 hc2 hc4
  exact bodyPost_ret (v := twoL a b c d x) (by simp [results, Tryz.results19, go_sem, k1, k2, twoL]) rfl ⟨by rw [H1.out], ((((hb2.setCell (by simp) _).setCell (by simp) _).setCell (by first | (simp; done) | (simp; omega)) _).setCell (by first | (simp; done) | (simp; omega)) _).drew⟩
end Go.Proofs.YtldghloflegpmaaGreatDoor

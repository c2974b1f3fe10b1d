/- The walk of FitPairs. -/
import Derived.Test.YtldghloflegpmaaGreatDoorRgQ
namespace Go.Proofs.YtldghloflegpmaaGreatDoor
open Go.RowKit Go.Shelf Pu Go.Lib

theorem swV_is (n : Int) (hh : Bool) (hl hg : Int) (sh : Bool) (sl sg : Int) : ∃ m mh ml mg th tl tg x, swV n hh hl hg sh sl sg = .tuple #[.agg (fitC m mh ml mg th tl tg), .int .i64 x] := by
  unfold swV fitV; (repeat' split) <;> exact ⟨_, _, _, _, _, _, _, _, rfl⟩
theorem paV_is (n : Int) (hh : Bool) (hl hg : Int) (sh : Bool) (sl sg u v : Int) : ∃ p q x, paV n hh hl hg sh sl sg u v = .tuple #[.int .i64 p, .bool q, .int .i64 x] := by
  unfold paV prV; (repeat' split) <;> exact ⟨_, _, _, rfl⟩

set_option maxRecDepth 100000 in
set_option maxHeartbeats 8000000 in
theorem fitPairs_c (n : Int) (hh : Bool) (hl hg : Int) (sh : Bool) (sl sg u v : Int) (w : World) (_ : (Lit.int .i64 n).wf = true ∧ (Lit.int .i64 hl).wf = true ∧ (Lit.int .i64 hg).wf = true ∧ (Lit.int .i64 sl).wf = true ∧ (Lit.int .i64 sg).wf = true) (_ : (Lit.int .i64 u).wf = true) (_ : (Lit.int .i64 v).wf = true) (hG : Gw w) :
    Calls Tryz.prog 5 #[.agg (fitC n hh hl hg sh sl sg), .int .i64 u, .int .i64 v] w fun e w' => e = .returned (.bool true) ∧ Below w.heap.size w w' := by
  obtain ⟨m, mh, ml, mg, th, tl, tg, x, hv⟩ := swV_is n hh hl hg sh sl sg
  obtain ⟨p, q, y, hq⟩ := paV_is n hh hl hg sh sl sg u v
  have h1 := fun w => Swap_c n hh hl hg sh sl sg w
  have h2 := fun w => rfSwap_c n hh hl hg sh sl sg w
  have h3 := fun w => Pair_c n hh hl hg sh sl sg u v w
  have h4 := fun w => rfPair_c n hh hl hg sh sl sg u v w
  have h5 := fun w => own16_c n hh hl hg sh sl sg w
  have h6 := fun w => own16_c m mh ml mg th tl tg w
  rw [hv] at h1 h2
  rw [hq] at h3 h4
  clear hv hq
  have H1 := Lib.hid h1
  have H2 := Lib.hid h2
  have H3 := Lib.hid h3
  have H4 := Lib.hid h4
  have H5 := Lib.hid h5
  have H6 := Lib.hid h6
  clear h1 h2 h3 h4 h5 h6
  go_enter Tryz.func5, Tryz.ntmps5
  have rf := (Row.new w (fitC n hh hl hg sh sl sg) 42)
  have hb := ((Below.refl _ w).alloc (Nat.le_refl _) (.cells (fitC n hh hl hg sh sl sg) 42))
  have crf := rf.cell
  go_wp2_with fail
  refine (H1.out _).mono ?_
  rintro e w2 ⟨rfl, hbb⟩
  have rf := rf.next hbb
  have hb := hb.trans (hbb.mono hb.size)
  clear hbb
  clear crf
  have rf := rf.alloc (.cells (fitC m mh ml mg th tl tg) 42)
  have ra := Row.new w2 (fitC m mh ml mg th tl tg) 42
  have hb := hb.alloc hb.size (.cells (fitC m mh ml mg th tl tg) 42)
  have crf := rf.cell
  go_wp2_with fail
  refine (H5.out _).mono ?_
  rintro e w3 ⟨rfl, hbb⟩
  have rf := rf.next hbb
  have ra := ra.next hbb
  have hb := hb.trans (hbb.mono hb.size)
  clear hbb
  clear crf
  go_wp2_with fail
  refine (H2.out _).mono ?_
  rintro e w4 ⟨rfl, hbb⟩
  have rf := rf.next hbb
  have ra := ra.next hbb
  have hb := hb.trans (hbb.mono hb.size)
  clear hbb
  have rf := rf.alloc (.cells (fitC m mh ml mg th tl tg) 49)
  have ra := ra.alloc (.cells (fitC m mh ml mg th tl tg) 49)
  have rb := Row.new w4 (fitC m mh ml mg th tl tg) 49
  have hb := hb.alloc hb.size (.cells (fitC m mh ml mg th tl tg) 49)
  have crf := rf.cell
  go_wp2_with fail
  refine (H3.out _).mono ?_
  rintro e w5 ⟨rfl, hbb⟩
  have rf := rf.next hbb
  have ra := ra.next hbb
  have rb := rb.next hbb
  have hb := hb.trans (hbb.mono hb.size)
  clear hbb
  clear crf
  have crf := rf.cell
  go_wp2_with fail
  refine (H5.out _).mono ?_
  rintro e w6 ⟨rfl, hbb⟩
  have rf := rf.next hbb
  have ra := ra.next hbb
  have rb := rb.next hbb
  have hb := hb.trans (hbb.mono hb.size)
  clear hbb
  clear crf
  go_wp2_with fail
  refine (H4.out _).mono ?_
  rintro e w7 ⟨rfl, hbb⟩
  have rf := rf.next hbb
  have ra := ra.next hbb
  have rb := rb.next hbb
  have hb := hb.trans (hbb.mono hb.size)
  clear hbb
  have cra := ra.cell
  have crb := rb.cell
  go_wp2_with fail
  clear cra crb rf
  obtain ⟨X1, e1⟩ : ∃ X, w2.heap.size = X := ⟨_, rfl⟩
  obtain ⟨X2, e2⟩ : ∃ X, w4.heap.size = X := ⟨_, rfl⟩
  rw [e1] at ra ⊢
  rw [e2] at rb ⊢
  clear e1 e2
  have hGV := hG.next hb
  have hS := L2.mk (Nat.le_refl _) hb ra rb
  go_region_held3 (fun w' => HL w.heap.size w [(X1, (fitC m mh ml mg th tl tg), 42), (X2, (fitC m mh ml mg th tl tg), 49)] w' ∧ (∀ j, w'.cell? ⟨X1, j, none⟩ = ((fitC m mh ml mg th tl tg) : Array Value)[j]?) ∧ (∀ j, w'.cell? ⟨X2, j, none⟩ = ((fitC m mh ml mg th tl tg) : Array Value)[j]?))
    (first | exact hS | exact L2.drew hS | (refine L2.drew ?_; assumption) | (refine L2.call ?_ hbb; assumption) | (refine L2.call (L2.drew ?_) hbb; assumption))
    (first | (go_at_call 21; refine (H6.out _).mono ?_; rintro e w' ⟨rfl, hbb⟩) | (go_at_call 28; refine (awake16_c _ (by first | exact hG.next (L2.out (by assumption)).1 | exact hGV)).mono ?_; rintro e w' ⟨rfl, hbb⟩))
  all_goals
    rename_i hHeld
    go_wp2
    go_ret
    exact ⟨rfl, (L2.out hHeld).1⟩
end Go.Proofs.YtldghloflegpmaaGreatDoor

/- The walk of FitChecks. -/
import Derived.Test.YtldghloflegpmaaGreatDoorRg
namespace Go.Proofs.YtldghloflegpmaaGreatDoor
open Go.RowKit Go.Shelf Pu Go.Lib

theorem fLimV_is (n : Int) (hh : Bool) (hl hg : Int) (sh : Bool) (sl sg : Int) : ∃ a b c d x, fLimV n hh hl hg sh sl sg = .tuple #[.agg #[.int .i64 a, .int .i64 b], .agg #[.int .i64 c, .int .i64 d], .int .i64 x] := by
  unfold fLimV twoL; split <;> exact ⟨_, _, _, _, _, rfl⟩

set_option maxRecDepth 100000 in
set_option maxHeartbeats 8000000 in
theorem fitChecks_c (n : Int) (hh : Bool) (hl hg : Int) (sh : Bool) (sl sg : Int) (w : World) (_ : (Lit.int .i64 n).wf = true ∧ (Lit.int .i64 hl).wf = true ∧ (Lit.int .i64 hg).wf = true ∧ (Lit.int .i64 sl).wf = true ∧ (Lit.int .i64 sg).wf = true) (hG : Gw w) :
    Calls Tryz.prog 4 #[.agg (fitC n hh hl hg sh sl sg)] w fun e w' => e = .returned (.bool true) ∧ Below w.heap.size w w' := by
  obtain ⟨a, b, c, d, x, hv⟩ := fLimV_is n hh hl hg sh sl sg
  have h1 := fun w => fLimits_c n hh hl hg sh sl sg w
  have h2 := fun w => rfLimits_c n hh hl hg sh sl sg w
  have h3 := fun w => fCheck_c n hh hl hg sh sl sg w
  have h4 := fun w => rfCheck_c n hh hl hg sh sl sg w
  have h5 := fun w => Clearance_c n hh hl hg sh sl sg w
  have h6 := fun w => rfClearance_c n hh hl hg sh sl sg w
  have h7 := fun w => Kind_c n hh hl hg sh sl sg w
  have h8 := fun w => rfKind_c n hh hl hg sh sl sg w
  have h9 := fun w => own16_c n hh hl hg sh sl sg w
  rw [hv] at h1 h2
  simp only [pairV] at h5 h6
  clear hv
  generalize pLow n hh hl hg sh sl sg = p at *
  generalize pHigh n hh hl hg sh sl sg = q at *
  generalize kV n hh hl hg sh sl sg = k at *
  generalize fE n hh hl hg sh sl sg = y at *
  have H1 := Lib.hid h1
  have H2 := Lib.hid h2
  have H3 := Lib.hid h3
  have H4 := Lib.hid h4
  have H5 := Lib.hid h5
  have H6 := Lib.hid h6
  have H7 := Lib.hid h7
  have H8 := Lib.hid h8
  have H9 := Lib.hid h9
  clear h1 h2 h3 h4 h5 h6 h7 h8 h9
  go_enter Tryz.func4, Tryz.ntmps4
  have rf := (Row.new w (fitC n hh hl hg sh sl sg) 42)
  have hb := ((Below.refl _ w).alloc (Nat.le_refl _) (.cells (fitC n hh hl hg sh sl sg) 42))
  have crf := rf.cell
  go_wp2_with fail
  refine (H1.out _).mono ?_
  rintro e w2 ⟨rfl, hbb⟩
  have rf := rf.next hbb
  have hb := hb.trans (hbb.mono hb.size)
  clear hbb
  clear crf
  have rf := rf.alloc (.cells #[.int .i64 a, .int .i64 b] 23)
  have ra := Row.new w2 #[.int .i64 a, .int .i64 b] 23
  have hb := hb.alloc hb.size (.cells #[.int .i64 a, .int .i64 b] 23)
  have rf := rf.alloc (.cells #[.int .i64 c, .int .i64 d] 23)
  have ra := ra.alloc (.cells #[.int .i64 c, .int .i64 d] 23)
  have rb := Row.new (w2.alloc (.cells #[.int .i64 a, .int .i64 b] 23)) #[.int .i64 c, .int .i64 d] 23
  simp only [World.size_alloc] at rb
  have hb := hb.alloc hb.size (.cells #[.int .i64 c, .int .i64 d] 23)
  have crf := rf.cell
  go_wp2_with fail
  refine (H9.out _).mono ?_
  rintro e w3 ⟨rfl, hbb⟩
  have rf := rf.next hbb
  have ra := ra.next hbb
  have rb := rb.next hbb
  have hb := hb.trans (hbb.mono hb.size)
  clear hbb
  clear crf
  go_wp2_with fail
  refine (H2.out _).mono ?_
  rintro e w4 ⟨rfl, hbb⟩
  have rf := rf.next hbb
  have ra := ra.next hbb
  have rb := rb.next hbb
  have hb := hb.trans (hbb.mono hb.size)
  clear hbb
  have rf := rf.alloc (.cells #[.int .i64 a, .int .i64 b] 23)
  have ra := ra.alloc (.cells #[.int .i64 a, .int .i64 b] 23)
  have rb := rb.alloc (.cells #[.int .i64 a, .int .i64 b] 23)
  have rc := Row.new w4 #[.int .i64 a, .int .i64 b] 23
  have hb := hb.alloc hb.size (.cells #[.int .i64 a, .int .i64 b] 23)
  have rf := rf.alloc (.cells #[.int .i64 c, .int .i64 d] 23)
  have ra := ra.alloc (.cells #[.int .i64 c, .int .i64 d] 23)
  have rb := rb.alloc (.cells #[.int .i64 c, .int .i64 d] 23)
  have rc := rc.alloc (.cells #[.int .i64 c, .int .i64 d] 23)
  have rd := Row.new (w4.alloc (.cells #[.int .i64 a, .int .i64 b] 23)) #[.int .i64 c, .int .i64 d] 23
  simp only [World.size_alloc] at rd
  have hb := hb.alloc hb.size (.cells #[.int .i64 c, .int .i64 d] 23)
  have crf := rf.cell
  have cra := ra.cell
  have crb := rb.cell
  have crc := rc.cell
  have crd := rd.cell
  go_wp2_with fail
  clear crf cra crb crc crd
  obtain ⟨X1, e1⟩ : ∃ X, w2.heap.size = X := ⟨_, rfl⟩
  obtain ⟨X2, e2⟩ : ∃ X, w4.heap.size = X := ⟨_, rfl⟩
  simp only [e1, e2] at ra rb rc rd ⊢
  generalize ((w4.alloc (.cells #[.int .i64 a, .int .i64 b] 23)).alloc (.cells #[.int .i64 c, .int .i64 d] 23)) = V at *
  clear e1 e2
  have hS := L5.mk (Nat.le_refl _) hb rf ra rb rc rd
  go_region_held3 (fun w' => HL w.heap.size w [(w.heap.size, (fitC n hh hl hg sh sl sg), 42), (X1, #[.int .i64 a, .int .i64 b], 23), (X1 + 1, #[.int .i64 c, .int .i64 d], 23), (X2, #[.int .i64 a, .int .i64 b], 23), (X2 + 1, #[.int .i64 c, .int .i64 d], 23)] w' ∧ (∀ j, w'.cell? ⟨w.heap.size, j, none⟩ = ((fitC n hh hl hg sh sl sg) : Array Value)[j]?) ∧ (∀ j, w'.cell? ⟨X1, j, none⟩ = (#[.int .i64 a, .int .i64 b] : Array Value)[j]?) ∧ (∀ j, w'.cell? ⟨X1 + 1, j, none⟩ = (#[.int .i64 c, .int .i64 d] : Array Value)[j]?) ∧ (∀ j, w'.cell? ⟨X2, j, none⟩ = (#[.int .i64 a, .int .i64 b] : Array Value)[j]?) ∧ (∀ j, w'.cell? ⟨X2 + 1, j, none⟩ = (#[.int .i64 c, .int .i64 d] : Array Value)[j]?))
    (first | exact hS | exact L5.drew hS | (refine L5.drew ?_; assumption) | (refine L5.call ?_ hbb; assumption) | (refine L5.call (L5.drew ?_) hbb; assumption))
    (first | (go_at_call 22; refine (H3.out _).mono ?_; rintro e w' ⟨rfl, hbb⟩) | (go_at_call 21; refine (H9.out _).mono ?_; rintro e w' ⟨rfl, hbb⟩) | (go_at_call 23; refine (H4.out _).mono ?_; rintro e w' ⟨rfl, hbb⟩))
  all_goals
    rename_i hHeld
    obtain ⟨hb, rf, ra, rb, rc, rd⟩ := L5.out hHeld
    clear hS ra rb rc rd
    clear hHeld
    have crf := rf.cell
    go_wp2_with fail
    refine (H5.out _).mono ?_
    rintro e w5 ⟨rfl, hbb⟩
    have rf := rf.next hbb
    have hb := hb.trans (hbb.mono hb.size)
    clear hbb
    clear crf
    have rf := rf.alloc (.cells #[.int .i64 p, .int .i64 q] 23)
    have rp := Row.new w5 #[.int .i64 p, .int .i64 q] 23
    have hb := hb.alloc hb.size (.cells #[.int .i64 p, .int .i64 q] 23)
    have crf := rf.cell
    go_wp2_with fail
    refine (H9.out _).mono ?_
    rintro e w6 ⟨rfl, hbb⟩
    have rf := rf.next hbb
    have rp := rp.next hbb
    have hb := hb.trans (hbb.mono hb.size)
    clear hbb
    clear crf
    go_wp2_with fail
    refine (H6.out _).mono ?_
    rintro e w7 ⟨rfl, hbb⟩
    have rf := rf.next hbb
    have rp := rp.next hbb
    have hb := hb.trans (hbb.mono hb.size)
    clear hbb
    have rf := rf.alloc (.cells #[.int .i64 p, .int .i64 q] 23)
    have rp := rp.alloc (.cells #[.int .i64 p, .int .i64 q] 23)
    have rq := Row.new w7 #[.int .i64 p, .int .i64 q] 23
    have hb := hb.alloc hb.size (.cells #[.int .i64 p, .int .i64 q] 23)
    have crf := rf.cell
    go_wp2_with fail
    refine (H7.out _).mono ?_
    rintro e w8 ⟨rfl, hbb⟩
    have rf := rf.next hbb
    have rp := rp.next hbb
    have rq := rq.next hbb
    have hb := hb.trans (hbb.mono hb.size)
    clear hbb
    clear crf
    have crf := rf.cell
    go_wp2_with fail
    refine (H9.out _).mono ?_
    rintro e w9 ⟨rfl, hbb⟩
    have rf := rf.next hbb
    have rp := rp.next hbb
    have rq := rq.next hbb
    have hb := hb.trans (hbb.mono hb.size)
    clear hbb
    clear crf
    go_wp2_with fail
    refine (H8.out _).mono ?_
    rintro e w10 ⟨rfl, hbb⟩
    have rf := rf.next hbb
    have rp := rp.next hbb
    have rq := rq.next hbb
    have hb := hb.trans (hbb.mono hb.size)
    clear hbb
    have crp := rp.cell
    have crq := rq.cell
    go_wp2_with fail
    refine (awake16_c _ (hG.next hb)).mono ?_
    rintro e w11 ⟨rfl, hbb⟩
    have rf := rf.next hbb
    have rp := rp.next hbb
    have rq := rq.next hbb
    have hb := hb.trans (hbb.mono hb.size)
    clear hbb
    clear crp crq
    go_wp2
    go_ret
    exact ⟨rfl, hb⟩
end Go.Proofs.YtldghloflegpmaaGreatDoor

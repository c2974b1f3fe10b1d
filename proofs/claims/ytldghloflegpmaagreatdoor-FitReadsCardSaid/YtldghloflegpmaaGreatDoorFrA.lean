/- The walk of FitReads. -/
import Derived.Test.YtldghloflegpmaaGreatDoorFwA
import Derived.Test.YtldghloflegpmaaGreatDoorPuR
namespace Go.Proofs.YtldghloflegpmaaGreatDoor
open Go.RowKit Go.Shelf Pu Go.Lib

theorem fpV_cases (s : ByteArray) : (∃ n hl hg sl sg, fE n true hl hg false sl sg = 0 ∧ fpV s.data.toList = .tuple #[.agg (fitC n true hl hg false sl sg), .int .i64 0] ∧ (⟨(txtL n hl hg sl sg).toArray⟩ : ByteArray) = s) ∨
    (∃ x, (x == 0) = false ∧ fpV s.data.toList = .tuple #[.agg (fitC 0 false 0 0 false 0 0), .int .i64 x]) := by
  unfold fpV
  by_cases h : 4096 < s.data.toList.length
  · rw [if_pos h]; exact Or.inr ⟨17, rfl, rfl⟩
  · rw [if_neg h]
    by_cases g : goodT s.data.toList
    · rw [if_pos g]
      obtain ⟨g1, g2, g3, g4⟩ := g
      obtain ⟨e1, e2⟩ := fE_hs g3
      rw [e1, e2] at g3 ⊢
      refine Or.inl ⟨_, _, _, _, _, g3, rfl, ?_⟩
      rw [g4]
    · rw [if_neg g]; exact Or.inr ⟨4, rfl, rfl⟩

set_option maxRecDepth 100000 in
set_option maxHeartbeats 4000000 in
theorem fitReads_c (n : Int) (hh : Bool) (hl hg : Int) (sh : Bool) (sl sg : Int) (s : ByteArray) (w : World) (_ : (Lit.int .i64 n).wf = true ∧ (Lit.int .i64 hl).wf = true ∧ (Lit.int .i64 hg).wf = true ∧ (Lit.int .i64 sl).wf = true ∧ (Lit.int .i64 sg).wf = true) (hs : s.size ≤ maxLen) (hG : Gw w) :
    Calls Tryz.prog 9 #[.agg (fitC n hh hl hg sh sl sg), .string s] w fun e w' => e = .returned (.bool true) ∧ Below w.heap.size w w' := by
  have hP := fun w hG => fParse_c s w (Nat.le_trans hs (by decide)) hG
  rcases fpV_cases s with ⟨m, pl, pg, ql, qg, hfm, hv, hts⟩ | ⟨y, hy, hv⟩
  · rw [hv] at hP
    have hU := fun w hG => Text_ok m pl pg ql qg w hfm hG
    rw [hts] at hU
    have HP := Lib.hid hP
    have HU := Lib.hid hU
    clear hP hU hv hts hfm
    by_cases hf : fE n hh hl hg sh sl sg = 0
    · obtain ⟨rfl, rfl⟩ := fE_hs hf
      have hT := fun w hG => Text_ok n hl hg sl sg w hf hG
      have hQ := fun w hG => fParse_c ⟨(txtL n hl hg sl sg).toArray⟩ w (by have := txt_len hf; rw [mk_size]; omega) hG
      rw [show (⟨(txtL n hl hg sl sg).toArray⟩ : ByteArray).data.toList = txtL n hl hg sl sg from rfl, fpV_txt hf] at hQ
      obtain ⟨TX, hTX⟩ : ∃ T : ByteArray, ⟨(txtL n hl hg sl sg).toArray⟩ = T := ⟨_, rfl⟩
      rw [hTX] at hT hQ
      have HT := Lib.hid hT
      have HQ := Lib.hid hQ
      clear hT hQ hTX hf
      go_enter Tryz.func9, Tryz.ntmps9
      have rf := Row.new w (fitC n true hl hg false sl sg) 42
      have hb := (Below.refl _ w).alloc (Nat.le_refl _) (.cells (fitC n true hl hg false sl sg) 42)
      have crf := rf.cell
      go_wp2_with fail
      refine (HT.out _ (hG.next hb)).mono ?_
      rintro e w2 ⟨rfl, hbb⟩
      have rf := rf.next hbb
      have hb := hb.trans (hbb.mono hb.size)
      clear hbb
      clear crf
      have crf := rf.cell
      go_wp2_with fail
      refine (HQ.out _ (hG.next hb)).mono ?_
      rintro e w3 ⟨rfl, hbb⟩
      have rf := rf.next hbb
      have hb := hb.trans (hbb.mono hb.size)
      clear hbb
      have rf := rf.alloc (.cells (fitC n true hl hg false sl sg) 42)
      have rx := Row.new w3 (fitC n true hl hg false sl sg) 42
      have hb := hb.alloc hb.size (.cells (fitC n true hl hg false sl sg) 42)
      clear crf
      have crf := rf.cell
      have crx := rx.cell
      go_wp2_with fail
      refine (HP.out _ (hG.next hb)).mono ?_
      rintro e w4 ⟨rfl, hbb⟩
      have hb := hb.trans (hbb.mono hb.size)
      clear hbb
      have ry := Row.new w4 (fitC m true pl pg false ql qg) 42
      have hb := hb.alloc hb.size (.cells (fitC m true pl pg false ql qg) 42)
      have cry := ry.cell
      go_wp2_with fail
      refine (HU.out _ (hG.next hb)).mono ?_
      rintro e w5 ⟨rfl, hbb⟩
      have hb := hb.trans (hbb.mono hb.size)
      clear hbb
      clear cry
      go_wp2_with fail
      refine (awake16_c _ (hG.next hb)).mono ?_
      rintro e wz ⟨rfl, hbb⟩
      go_wp2
      go_ret
      exact ⟨rfl, hb.trans (hbb.mono hb.size)⟩
    · have hx : (fE n hh hl hg sh sl sg == 0) = false := by simpa using hf
      have hT := fun w (_ : Gw w) => Text_err n hh hl hg sh sl sg _ w rfl hx
      generalize fE n hh hl hg sh sl sg = x at *
      have HT := Lib.hid hT
      clear hT hf
      go_enter Tryz.func9, Tryz.ntmps9
      have rf := Row.new w (fitC n hh hl hg sh sl sg) 42
      have hb := (Below.refl _ w).alloc (Nat.le_refl _) (.cells (fitC n hh hl hg sh sl sg) 42)
      have crf := rf.cell
      go_wp2_with fail
      refine (HT.out _ (hG.next hb)).mono ?_
      rintro e w2 ⟨rfl, hbb⟩
      have rf := rf.next hbb
      have hb := hb.trans (hbb.mono hb.size)
      clear hbb
      clear crf
      go_wp2_with fail
      refine (HP.out _ (hG.next hb)).mono ?_
      rintro e w4 ⟨rfl, hbb⟩
      have hb := hb.trans (hbb.mono hb.size)
      clear hbb
      have ry := Row.new w4 (fitC m true pl pg false ql qg) 42
      have hb := hb.alloc hb.size (.cells (fitC m true pl pg false ql qg) 42)
      have cry := ry.cell
      go_wp2_with fail
      refine (HU.out _ (hG.next hb)).mono ?_
      rintro e w5 ⟨rfl, hbb⟩
      have hb := hb.trans (hbb.mono hb.size)
      clear hbb
      clear cry
      go_wp2_with fail
      refine (awake16_c _ (hG.next hb)).mono ?_
      rintro e wz ⟨rfl, hbb⟩
      go_wp2
      go_ret
      exact ⟨rfl, hb.trans (hbb.mono hb.size)⟩
  · rw [hv] at hP
    have HP := Lib.hid hP
    clear hP hv
    by_cases hf : fE n hh hl hg sh sl sg = 0
    · obtain ⟨rfl, rfl⟩ := fE_hs hf
      have hT := fun w hG => Text_ok n hl hg sl sg w hf hG
      have hQ := fun w hG => fParse_c ⟨(txtL n hl hg sl sg).toArray⟩ w (by have := txt_len hf; rw [mk_size]; omega) hG
      rw [show (⟨(txtL n hl hg sl sg).toArray⟩ : ByteArray).data.toList = txtL n hl hg sl sg from rfl, fpV_txt hf] at hQ
      obtain ⟨TX, hTX⟩ : ∃ T : ByteArray, ⟨(txtL n hl hg sl sg).toArray⟩ = T := ⟨_, rfl⟩
      rw [hTX] at hT hQ
      have HT := Lib.hid hT
      have HQ := Lib.hid hQ
      clear hT hQ hTX hf
      go_enter Tryz.func9, Tryz.ntmps9
      have rf := Row.new w (fitC n true hl hg false sl sg) 42
      have hb := (Below.refl _ w).alloc (Nat.le_refl _) (.cells (fitC n true hl hg false sl sg) 42)
      have crf := rf.cell
      go_wp2_with fail
      refine (HT.out _ (hG.next hb)).mono ?_
      rintro e w2 ⟨rfl, hbb⟩
      have rf := rf.next hbb
      have hb := hb.trans (hbb.mono hb.size)
      clear hbb
      clear crf
      have crf := rf.cell
      go_wp2_with fail
      refine (HQ.out _ (hG.next hb)).mono ?_
      rintro e w3 ⟨rfl, hbb⟩
      have rf := rf.next hbb
      have hb := hb.trans (hbb.mono hb.size)
      clear hbb
      have rf := rf.alloc (.cells (fitC n true hl hg false sl sg) 42)
      have rx := Row.new w3 (fitC n true hl hg false sl sg) 42
      have hb := hb.alloc hb.size (.cells (fitC n true hl hg false sl sg) 42)
      clear crf
      have crf := rf.cell
      have crx := rx.cell
      go_wp2_with fail
      refine (HP.out _ (hG.next hb)).mono ?_
      rintro e w4 ⟨rfl, hbb⟩
      have hb := hb.trans (hbb.mono hb.size)
      clear hbb
      have ry := Row.new w4 (fitC 0 false 0 0 false 0 0) 42
      have hb := hb.alloc hb.size (.cells (fitC 0 false 0 0 false 0 0) 42)
      go_wp2_with fail
      refine (awake16_c _ (hG.next hb)).mono ?_
      rintro e wz ⟨rfl, hbb⟩
      go_wp2
      go_ret
      exact ⟨rfl, hb.trans (hbb.mono hb.size)⟩
    · have hx : (fE n hh hl hg sh sl sg == 0) = false := by simpa using hf
      have hT := fun w (_ : Gw w) => Text_err n hh hl hg sh sl sg _ w rfl hx
      generalize fE n hh hl hg sh sl sg = x at *
      have HT := Lib.hid hT
      clear hT hf
      go_enter Tryz.func9, Tryz.ntmps9
      have rf := Row.new w (fitC n hh hl hg sh sl sg) 42
      have hb := (Below.refl _ w).alloc (Nat.le_refl _) (.cells (fitC n hh hl hg sh sl sg) 42)
      have crf := rf.cell
      go_wp2_with fail
      refine (HT.out _ (hG.next hb)).mono ?_
      rintro e w2 ⟨rfl, hbb⟩
      have rf := rf.next hbb
      have hb := hb.trans (hbb.mono hb.size)
      clear hbb
      clear crf
      go_wp2_with fail
      refine (HP.out _ (hG.next hb)).mono ?_
      rintro e w4 ⟨rfl, hbb⟩
      have hb := hb.trans (hbb.mono hb.size)
      clear hbb
      have ry := Row.new w4 (fitC 0 false 0 0 false 0 0) 42
      have hb := hb.alloc hb.size (.cells (fitC 0 false 0 0 false 0 0) 42)
      go_wp2_with fail
      refine (awake16_c _ (hG.next hb)).mono ?_
      rintro e wz ⟨rfl, hbb⟩
      go_wp2
      go_ret
      exact ⟨rfl, hb.trans (hbb.mono hb.size)⟩
end Go.Proofs.YtldghloflegpmaaGreatDoor

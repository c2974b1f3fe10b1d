/- Contracts of package fit: the check of a fit, with its limits. -/
import Derived.Test.YtldghloflegpmaaGreatDoorRow
namespace Go.Proofs.YtldghloflegpmaaGreatDoor
open Go.RowKit Pu Go.Lib

/-- The cells of a fit; of a checked fit. -/
abbrev fitC (n : Int) (hh : Bool) (hl hg : Int) (sh : Bool) (sl sg : Int) : Array Value := #[.int .i64 n, .bool hh, .int .i64 hl, .int .i64 hg, .bool sh, .int .i64 sl, .int .i64 sg]
abbrev chkC (n : Int) (hh : Bool) (hl hg : Int) (sh : Bool) (sl sg a b c d : Int) : Array Value :=
  #[.int .i64 n, .bool hh, .int .i64 hl, .int .i64 hg, .bool sh, .int .i64 sl, .int .i64 sg, .int .i64 a, .int .i64 b, .int .i64 c, .int .i64 d]
/-- What check returns. -/
def chkV (n : Int) (hh : Bool) (hl hg : Int) (sh : Bool) (sl sg : Int) : Value :=
  if fE n hh hl hg sh sl sg = 0 then .tuple #[.agg (chkC n hh hl hg sh sl sg (mLow n true hl hg) (mHigh n true hl hg) (mLow n false sl sg) (mHigh n false sl sg)), .int .i64 0]
  else .tuple #[.agg (chkC 0 false 0 0 false 0 0 0 0 0 0), .int .i64 (fE n hh hl hg sh sl sg)]

set_option maxHeartbeats 1000000 in
theorem fsized_c (n : Int) (w : World) : Calls Tryz.prog 69 #[.int .i64 n] w fun e w' => e = .returned (.int .i64 (zE n)) ∧ w = w' := by
  by_cases h1 : n < 1
  · have h : zE n = 2 := by unfold zE; rw [if_pos (Or.inl h1)]
    rw [h]; clear h
    go_enter Tryz.func69, Tryz.ntmps69
    go_wp2
    go_ret
    exact ⟨rfl, rfl⟩
  · by_cases h2 : 100000 < n
    · have h : zE n = 2 := by unfold zE; rw [if_pos (Or.inr h2)]
      rw [h]; clear h
      go_enter Tryz.func69, Tryz.ntmps69
      go_wp2
      go_ret
      exact ⟨rfl, rfl⟩
    · have h : zE n = 0 := by unfold zE; rw [if_neg (by omega)]
      rw [h]; clear h
      go_enter Tryz.func69, Tryz.ntmps69
      go_wp2
      go_ret
      exact ⟨rfl, rfl⟩

theorem info_chk : (Tryz.prog.info? 96).map (·.size) = some 11 := by kernel_rfl

theorem one_chk (n : Int) (hh : Bool) (hl hg : Int) (sh : Bool) (sl sg a b c d : Int) : (chkC n hh hl hg sh sl sg a b c d).all (·.oneCell') = true := by kernel_rfl
theorem chk_results {tmps : Array Value} {w : World} {b : Nat} {cs : Array Value} {e : Int} (h2 : tmps.getD 2 undef = .pointer (some ⟨b, 0, none⟩)) (h3 : tmps.getD 3 undef = .int .i64 e) (hr : Row w b cs 96) (hs : (Tryz.prog.info? 96).map (·.size) = some cs.size) :
    (results Tryz.f51 tmps).run Tryz.prog w = .ok (.tuple #[.agg cs, .int .i64 e]) w := by
  have h2' : tmps[2]?.getD undef = .pointer (some ⟨b, 0, none⟩) := by simpa using h2
  have h3' : tmps[3]?.getD undef = .int .i64 e := by simpa using h3
  simp [results, Tryz.results51, h2', h3', asAddr, run_loadVar_row (P := Tryz.prog) w b 96 96 cs (0, 0) _ hr Tryz.underlying96 rfl hs]
theorem two_at0 (a b c d e f : Value) (w : World) : (Instr.index 151 (.agg #[a, b, c, d, e, f]) (.int .i64 0)).run Tryz.prog w = .ok (.agg #[a, b, c]) w := by kernel_rfl
theorem two_at1 (a b c d e f : Value) (w : World) : (Instr.index 151 (.agg #[a, b, c, d, e, f]) (.int .i64 1)).run Tryz.prog w = .ok (.agg #[d, e, f]) w := by kernel_rfl

set_option maxRecDepth 100000 in
set_option maxHeartbeats 4000000 in
theorem fcheck_c (n : Int) (hh : Bool) (hl hg : Int) (sh : Bool) (sl sg : Int) (w : World) : Calls Tryz.prog 51 #[.agg (fitC n hh hl hg sh sl sg)] w
    fun e w' => e = .returned (chkV n hh hl hg sh sl sg) ∧ Below w.heap.size w w' := by
  have hi0 := two_at0 (.bool hh) (.int .i64 hl) (.int .i64 hg) (.bool sh) (.int .i64 sl) (.int .i64 sg)
  have hi1 := two_at1 (.bool hh) (.int .i64 hl) (.int .i64 hg) (.bool sh) (.int .i64 sl) (.int .i64 sg)
  go_enter Tryz.func51, Tryz.ntmps51
  go_wp2_with fail
  refine (fsized_c _ _).mono ?_
  rintro e w1 ⟨rfl, rfl⟩
  by_cases hz : zE n = 0
  case neg =>
    have h2 := zE_two hz
    have hv : chkV n hh hl hg sh sl sg = .tuple #[.agg (chkC 0 false 0 0 false 0 0 0 0 0 0), .int .i64 2] := by
      have hf : fE n hh hl hg sh sl sg = 2 := by unfold fE; rw [if_neg hz, h2]
      unfold chkV; rw [hf, if_neg (by omega)]
    have Hv := Lib.hid hv
    rw [h2]
    clear hv hz h2
    go_wp2
    exact bodyPost_ret (v := .tuple #[.agg (chkC 0 false 0 0 false 0 0 0 0 0 0), .int .i64 2]) (by simp [results, Tryz.results51, go_sem]) rfl ⟨by rw [Hv.out], ((Below.refl _ w).alloc (Nat.le_refl _) _).alloc (by simp) _⟩
  have Hz := Lib.hid hz
  rw [hz]
  clear hz
  go_wp2_with fail
  obtain ⟨W2, hW2⟩ : ∃ W2, (w.alloc (.cells (fitC n hh hl hg sh sl sg) 42)).alloc (.cells (chkC 0 false 0 0 false 0 0 0 0 0 0) 96) = W2 := ⟨_, rfl⟩
  have hr0 : Row W2 w.heap.size (fitC n hh hl hg sh sl sg) 42 := by rw [← hW2]; exact (Row.new _ _ _).alloc _
  have hr1 : Row W2 (w.heap.size + 1) (chkC 0 false 0 0 false 0 0 0 0 0 0) 96 := by rw [← hW2]; have := Row.new (w.alloc (.cells (fitC n hh hl hg sh sl sg) 42)) (chkC 0 false 0 0 false 0 0 0 0 0 0) 96; simpa using this
  have hb2 : Below w.heap.size w W2 := by rw [← hW2]; exact ((Below.refl _ w).alloc (Nat.le_refl _) _).alloc (by simp) _
  rw [hW2]
  clear hW2
  refine wp_loop_rounds 3 ?_
  rw [rounds_succ]
  go_wp2_with fail
  refine (check_c _ _ _ _).mono ?_
  rintro e w3 ⟨rfl, hbb⟩
  have hr0 := (hr0.alloc _).next hbb
  have hr1 := (hr1.alloc _).next hbb
  have hb3 := (hb2.alloc hb2.size _).trans (hbb.mono (Nat.le_trans hb2.size (by simp)))
  clear hbb
  by_cases hz : cE hl hg = 0
  case neg =>
    have hv : chkV n hh hl hg sh sl sg = .tuple #[.agg (chkC 0 false 0 0 false 0 0 0 0 0 0), .int .i64 (cE hl hg)] := by
      have hf : fE n hh hl hg sh sl sg = cE hl hg := by unfold fE; rw [if_pos Hz.out, if_neg hz]
      unfold chkV; rw [hf, if_neg hz]
    have Hv := Lib.hid hv
    have hx := cE_ne hz
    clear hv hz
    go_wp2_with (refine wpList_store_row rfl 96 (.tmp 2) (.tmp 30) rfl (w.heap.size + 1) (chkC 0 false 0 0 false 0 0 0 0 0 0) rfl rfl 96 _ hr1 info_chk rfl (one_chk _ _ _ _ _ _ _ _ _ _ _) ?_)
    exact bodyPost_ret (chk_results (cs := chkC 0 false 0 0 false 0 0 0 0 0 0) rfl rfl (hr1.set _) info_chk) rfl ⟨by rw [Hv.out], below_row hb3 (by omega) _⟩
  rw [hz]
  have Hz1 := Lib.hid hz
  clear hz
  go_wp2_with fail
  rw [rounds_succ]
  go_wp2_with fail
  refine (check_c _ _ _ _).mono ?_
  rintro e w4 ⟨rfl, hbb⟩
  have hr0 := (hr0.alloc _).next hbb
  have hr1 := (hr1.alloc _).next hbb
  have hb4 := (hb3.alloc hb3.size _).trans (hbb.mono (Nat.le_trans hb3.size (by simp)))
  clear hbb
  by_cases hz : cE sl sg = 0
  case neg =>
    have hv : chkV n hh hl hg sh sl sg = .tuple #[.agg (chkC 0 false 0 0 false 0 0 0 0 0 0), .int .i64 (cE sl sg)] := by
      have hf : fE n hh hl hg sh sl sg = cE sl sg := by unfold fE; rw [if_pos Hz.out, if_pos Hz1.out, if_neg hz]
      unfold chkV; rw [hf, if_neg hz]
    have Hv := Lib.hid hv
    have hx := cE_ne hz
    clear hv hz
    go_wp2_with (refine wpList_store_row rfl 96 (.tmp 2) (.tmp 30) rfl (w.heap.size + 1) (chkC 0 false 0 0 false 0 0 0 0 0 0) rfl rfl 96 _ hr1 info_chk rfl (one_chk _ _ _ _ _ _ _ _ _ _ _) ?_)
    exact bodyPost_ret (chk_results (cs := chkC 0 false 0 0 false 0 0 0 0 0 0) rfl rfl (hr1.set _) info_chk) rfl ⟨by rw [Hv.out], below_row hb4 (by omega) _⟩
  rw [hz]
  have Hz2 := Lib.hid hz
  clear hz
  have hc0 := hr0.cell
  go_wp2_with fail
  rw [rounds_succ]
  by_cases hsh : hh = true ∧ sh = false
  case neg =>
    have hv : chkV n hh hl hg sh sl sg = .tuple #[.agg (chkC 0 false 0 0 false 0 0 0 0 0 0), .int .i64 3] := by
      have hf : fE n hh hl hg sh sl sg = 3 := by unfold fE; rw [if_pos Hz.out, if_pos Hz1.out, if_pos Hz2.out, if_neg hsh]
      unfold chkV; rw [hf, if_neg (by omega)]
    have Hv := Lib.hid hv
    clear hv
    cases hh with
    | false =>
      clear hsh
      go_wp2_with (refine wpList_store_row rfl 96 (.tmp 2) (.tmp 42) rfl (w.heap.size + 1) (chkC 0 false 0 0 false 0 0 0 0 0 0) rfl rfl 96 _ hr1 info_chk rfl (one_chk _ _ _ _ _ _ _ _ _ _ _) ?_)
      exact bodyPost_ret (chk_results (cs := chkC 0 false 0 0 false 0 0 0 0 0 0) rfl rfl (hr1.set _) info_chk) rfl ⟨by rw [Hv.out], below_row hb4 (by omega) _⟩
    | true =>
      cases sh with
      | false => exact absurd ⟨rfl, rfl⟩ hsh
      | true =>
        clear hsh
        go_wp2_with (refine wpList_store_row rfl 96 (.tmp 2) (.tmp 42) rfl (w.heap.size + 1) (chkC 0 false 0 0 false 0 0 0 0 0 0) rfl rfl 96 _ hr1 info_chk rfl (one_chk _ _ _ _ _ _ _ _ _ _ _) ?_)
        exact bodyPost_ret (chk_results (cs := chkC 0 false 0 0 false 0 0 0 0 0 0) rfl rfl (hr1.set _) info_chk) rfl ⟨by rw [Hv.out], below_row hb4 (by omega) _⟩
  obtain ⟨rfl, rfl⟩ := hsh
  clear hi0 hi1
  go_wp2_with fail
  refine (Limits_c _ _ _ _ _).mono ?_
  rintro e w5 ⟨rfl, hbb⟩
  have hr0 := hr0.next hbb
  have hr1 := hr1.next hbb
  have hb5 := hb4.trans (hbb.mono hb4.size)
  clear hbb
  clear hc0
  simp only [pairV]
  by_cases hz : lE n true hl hg = 0
  case neg =>
    have hv : chkV n true hl hg false sl sg = .tuple #[.agg (chkC 0 false 0 0 false 0 0 0 0 0 0), .int .i64 (lE n true hl hg)] := by
      have hf : fE n true hl hg false sl sg = lE n true hl hg := by unfold fE; rw [if_pos Hz.out, if_pos Hz1.out, if_pos Hz2.out, if_pos ⟨rfl, rfl⟩, if_neg hz]
      unfold chkV; rw [hf, if_neg hz]
    have Hv := Lib.hid hv
    have hx : (lE n true hl hg == 0) = false := by simpa using hz
    clear hv hz
    have hr1 := hr1.alloc (.cells #[.int .i64 (mLow n true hl hg), .int .i64 (mHigh n true hl hg)] 23)
    go_wp2_with (refine wpList_store_row rfl 96 (.tmp 2) (.tmp 53) rfl (w.heap.size + 1) (chkC 0 false 0 0 false 0 0 0 0 0 0) rfl rfl 96 _ hr1 info_chk rfl (one_chk _ _ _ _ _ _ _ _ _ _ _) ?_)
    exact bodyPost_ret (chk_results (cs := chkC 0 false 0 0 false 0 0 0 0 0 0) rfl rfl (hr1.set _) info_chk) rfl ⟨by rw [Hv.out], below_row (hb5.alloc hb5.size _) (by omega) _⟩
  rw [hz]
  have Hz3 := Lib.hid hz
  clear hz
  have hr2 := Row.new w5 #[.int .i64 (mLow n true hl hg), .int .i64 (mHigh n true hl hg)] 23
  have hr0 := hr0.alloc (.cells #[.int .i64 (mLow n true hl hg), .int .i64 (mHigh n true hl hg)] 23)
  have hr1 := hr1.alloc (.cells #[.int .i64 (mLow n true hl hg), .int .i64 (mHigh n true hl hg)] 23)
  have hb5 := hb5.alloc hb5.size (.cells #[.int .i64 (mLow n true hl hg), .int .i64 (mHigh n true hl hg)] 23)
  have hc0 := hr0.cell
  go_wp2_with fail
  refine (Limits_c _ _ _ _ _).mono ?_
  rintro e w6 ⟨rfl, hbb⟩
  have hr0 := hr0.next hbb
  have hr1 := hr1.next hbb
  have hr2 := hr2.next hbb
  have hb6 := hb5.trans (hbb.mono hb5.size)
  clear hbb
  clear hc0
  simp only [pairV]
  by_cases hz : lE n false sl sg = 0
  case neg =>
    have hv : chkV n true hl hg false sl sg = .tuple #[.agg (chkC 0 false 0 0 false 0 0 0 0 0 0), .int .i64 (lE n false sl sg)] := by
      have hf : fE n true hl hg false sl sg = lE n false sl sg := by unfold fE; rw [if_pos Hz.out, if_pos Hz1.out, if_pos Hz2.out, if_pos ⟨rfl, rfl⟩, if_pos Hz3.out]
      unfold chkV; rw [hf, if_neg hz]
    have Hv := Lib.hid hv
    have hx : (lE n false sl sg == 0) = false := by simpa using hz
    clear hv hz
    have hr1 := hr1.alloc (.cells #[.int .i64 (mLow n false sl sg), .int .i64 (mHigh n false sl sg)] 23)
    go_wp2_with (refine wpList_store_row rfl 96 (.tmp 2) (.tmp 65) rfl (w.heap.size + 1) (chkC 0 false 0 0 false 0 0 0 0 0 0) rfl rfl 96 _ hr1 info_chk rfl (one_chk _ _ _ _ _ _ _ _ _ _ _) ?_)
    exact bodyPost_ret (chk_results (cs := chkC 0 false 0 0 false 0 0 0 0 0 0) rfl rfl (hr1.set _) info_chk) rfl ⟨by rw [Hv.out], below_row (hb6.alloc hb6.size _) (by omega) _⟩
  have hv : chkV n true hl hg false sl sg = .tuple #[.agg (chkC n true hl hg false sl sg (mLow n true hl hg) (mHigh n true hl hg) (mLow n false sl sg) (mHigh n false sl sg)), .int .i64 0] := by
    have hf : fE n true hl hg false sl sg = 0 := by unfold fE; rw [if_pos Hz.out, if_pos Hz1.out, if_pos Hz2.out, if_pos ⟨rfl, rfl⟩, if_pos Hz3.out, hz]
    unfold chkV; rw [if_pos hf]
  have Hv := Lib.hid hv
  rw [hz]
  clear hv hz
  have hr3 := Row.new w6 #[.int .i64 (mLow n false sl sg), .int .i64 (mHigh n false sl sg)] 23
  have hr0 := hr0.alloc (.cells #[.int .i64 (mLow n false sl sg), .int .i64 (mHigh n false sl sg)] 23)
  have hr1 := hr1.alloc (.cells #[.int .i64 (mLow n false sl sg), .int .i64 (mHigh n false sl sg)] 23)
  have hr2 := hr2.alloc (.cells #[.int .i64 (mLow n false sl sg), .int .i64 (mHigh n false sl sg)] 23)
  have hb6 := hb6.alloc hb6.size (.cells #[.int .i64 (mLow n false sl sg), .int .i64 (mHigh n false sl sg)] 23)
  have hc0 := hr0.cell
  have hc2 := hr2.cell
  have hc3 := hr3.cell
  go_wp2_with (refine wpList_store_row rfl 96 (.tmp 2) (.tmp 71) rfl (w.heap.size + 1) (chkC n true hl hg false sl sg (mLow n true hl hg) (mHigh n true hl hg) (mLow n false sl sg) (mHigh n false sl sg)) rfl rfl 96 _ hr1 info_chk rfl (one_chk _ _ _ _ _ _ _ _ _ _ _) ?_)
  exact bodyPost_ret (chk_results (cs := chkC n true hl hg false sl sg (mLow n true hl hg) (mHigh n true hl hg) (mLow n false sl sg) (mHigh n false sl sg)) rfl rfl (hr1.set _) info_chk) rfl ⟨by rw [Hv.out], below_row hb6 (by omega) _⟩
end Go.Proofs.YtldghloflegpmaaGreatDoor

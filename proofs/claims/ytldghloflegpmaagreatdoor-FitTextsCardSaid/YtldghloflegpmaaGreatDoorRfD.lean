/- Contract of the reference for fits: the check. -/
import Derived.Test.YtldghloflegpmaaGreatDoorRfC
namespace Go.Proofs.YtldghloflegpmaaGreatDoor
open Go.RowKit Pu Go.Lib

set_option maxRecDepth 100000 in
set_option maxHeartbeats 4000000 in
theorem rfCheck_c (n : Int) (hh : Bool) (hl hg : Int) (sh : Bool) (sl sg : Int) (w : World) : Calls Tryz.prog 23 #[.agg (fitC n hh hl hg sh sl sg)] w
    fun e w' => e = .returned (.int .i64 (fE n hh hl hg sh sl sg)) ∧ Below w.heap.size w w' := by
  go_enter Tryz.func23, Tryz.ntmps23
  go_wp2_with fail
  refine (rSize_c _ _).mono ?_
  rintro e w1 ⟨rfl, rfl⟩
  obtain ⟨W2, hW2⟩ : ∃ W2, w.alloc (.cells (fitC n hh hl hg sh sl sg) 49) = W2 := ⟨_, rfl⟩
  have hr0 : Row W2 w.heap.size (fitC n hh hl hg sh sl sg) 49 := by rw [← hW2]; exact Row.new _ _ _
  have hb2 : Below w.heap.size w W2 := by rw [← hW2]; exact (Below.refl _ w).alloc (Nat.le_refl _) _
  rw [hW2]
  clear hW2
  have hc0 := hr0.cell
  by_cases hz : zE n = 0
  case neg =>
    have hf : fE n hh hl hg sh sl sg = zE n := by unfold fE; rw [if_neg hz]
    have Hf := Lib.hid hf
    have hx : (zE n == 0) = false := by simpa using hz
    clear hz hf
    go_wp2
    go_ret
    exact ⟨by rw [Hf.out]; rfl, hb2⟩
  have Hz := Lib.hid hz
  rw [hz]
  clear hz
  go_wp2_with fail
  refine (rCheck_c _ _ _ _).mono ?_
  rintro e w3 ⟨rfl, hbb⟩
  have hr0 := hr0.next hbb
  have hb3 := hb2.trans (hbb.mono hb2.size)
  clear hbb hc0
  have hc0 := hr0.cell
  by_cases hz : cE hl hg = 0
  case neg =>
    have hf : fE n hh hl hg sh sl sg = cE hl hg := by unfold fE; rw [if_pos Hz.out, if_neg hz]
    have Hf := Lib.hid hf
    have hx := cE_ne hz
    clear hz hf
    go_wp2
    go_ret
    exact ⟨by rw [Hf.out]; rfl, hb3⟩
  rw [hz]
  have Hz1 := Lib.hid hz
  clear hz
  go_wp2_with fail
  refine (rCheck_c _ _ _ _).mono ?_
  rintro e w4 ⟨rfl, hbb⟩
  have hr0 := hr0.next hbb
  have hb4 := hb3.trans (hbb.mono hb3.size)
  clear hbb hc0
  have hc0 := hr0.cell
  by_cases hz : cE sl sg = 0
  case neg =>
    have hf : fE n hh hl hg sh sl sg = cE sl sg := by unfold fE; rw [if_pos Hz.out, if_pos Hz1.out, if_neg hz]
    have Hf := Lib.hid hf
    have hx := cE_ne hz
    clear hz hf
    go_wp2
    go_ret
    exact ⟨by rw [Hf.out]; rfl, hb4⟩
  rw [hz]
  have Hz2 := Lib.hid hz
  clear hz
  by_cases hsh : hh = true ∧ sh = false
  case neg =>
    have hf : fE n hh hl hg sh sl sg = 3 := by unfold fE; rw [if_pos Hz.out, if_pos Hz1.out, if_pos Hz2.out, if_neg hsh]
    have Hf := Lib.hid hf
    clear hf
    cases hh with
    | false =>
      clear hsh
      go_wp2
      go_ret
      exact ⟨by rw [Hf.out]; rfl, hb4⟩
    | true =>
      cases sh with
      | false => exact absurd ⟨rfl, rfl⟩ hsh
      | true =>
        clear hsh
        go_wp2
        go_ret
        exact ⟨by rw [Hf.out]; rfl, hb4⟩
  obtain ⟨rfl, rfl⟩ := hsh
  go_wp2_with fail
  refine (rLimits_c _ _ _ _ _).mono ?_
  rintro e w5 ⟨rfl, hbb⟩
  have hr0 := hr0.next hbb
  have hb5 := hb4.trans (hbb.mono hb4.size)
  clear hbb hc0
  have hr0 := hr0.alloc (.cells #[.int .i64 (mLow n true hl hg), .int .i64 (mHigh n true hl hg)] 23)
  have hb5 := hb5.alloc hb5.size (.cells #[.int .i64 (mLow n true hl hg), .int .i64 (mHigh n true hl hg)] 23)
  have hc0 := hr0.cell
  simp only [pairV]
  by_cases hz : lE n true hl hg = 0
  case neg =>
    have hf : fE n true hl hg false sl sg = lE n true hl hg := by unfold fE; rw [if_pos Hz.out, if_pos Hz1.out, if_pos Hz2.out, if_pos ⟨rfl, rfl⟩, if_neg hz]
    have Hf := Lib.hid hf
    have hx : (lE n true hl hg == 0) = false := by simpa using hz
    clear hz hf
    go_wp2
    go_ret
    exact ⟨by rw [Hf.out]; rfl, hb5⟩
  rw [hz]
  have Hz3 := Lib.hid hz
  clear hz
  go_wp2_with fail
  refine (rLimits_c _ _ _ _ _).mono ?_
  rintro e w6 ⟨rfl, hbb⟩
  have hb6 := hb5.trans (hbb.mono hb5.size)
  have hb6 := hb6.alloc hb6.size (.cells #[.int .i64 (mLow n false sl sg), .int .i64 (mHigh n false sl sg)] 23)
  clear hbb hc0
  simp only [pairV]
  have hf : fE n true hl hg false sl sg = lE n false sl sg := by unfold fE; rw [if_pos Hz.out, if_pos Hz1.out, if_pos Hz2.out, if_pos ⟨rfl, rfl⟩, if_pos Hz3.out]
  have Hf := Lib.hid hf
  clear hf
  go_wp2
  go_ret
  exact ⟨by rw [Hf.out]; rfl, hb6⟩
end Go.Proofs.YtldghloflegpmaaGreatDoor

/- Contracts of package fit: the clearance. -/
import Derived.Test.YtldghloflegpmaaGreatDoorFtA
namespace Go.Proofs.YtldghloflegpmaaGreatDoor
open Go.RowKit Pu Go.Lib

/-- The cells of a pair of limits. -/
abbrev bothC (a b c d : Int) : Array Value := #[.int .i64 a, .int .i64 b, .int .i64 c, .int .i64 d]

set_option maxHeartbeats 1000000 in
theorem clearance_c (a b c d : Int) (w : World) (ha : -200000 ≤ a ∧ a ≤ 200000) (hb : -200000 ≤ b ∧ b ≤ 200000) (hc : -200000 ≤ c ∧ c ≤ 200000) (hd : -200000 ≤ d ∧ d ≤ 200000) :
    Calls Tryz.prog 55 #[.agg (bothC a b c d)] w fun e w' => e = .returned (.agg #[.int .i64 (a - d), .int .i64 (b - c)]) ∧ Below w.heap.size w w' := by
  go_enter Tryz.func55, Tryz.ntmps55
  go_wp2
  exact bodyPost_ret (v := .agg #[.int .i64 (a - d), .int .i64 (b - c)]) (by simp [results, Tryz.results55, go_sem]) rfl ⟨rfl, ((Below.refl _ w).alloc (Nat.le_refl _) _).alloc (by simp) _⟩

/-- The least and the greatest clearance, 0 for wrong fits. -/
def pLow (n : Int) (hh : Bool) (hl hg : Int) (sh : Bool) (sl sg : Int) : Int := if fE n hh hl hg sh sl sg = 0 then mLow n true hl hg - mHigh n false sl sg else 0
def pHigh (n : Int) (hh : Bool) (hl hg : Int) (sh : Bool) (sl sg : Int) : Int := if fE n hh hl hg sh sl sg = 0 then mHigh n true hl hg - mLow n false sl sg else 0
theorem m_bd (n : Int) (h : Bool) (l g : Int) : (-200000 ≤ mLow n h l g ∧ mLow n h l g ≤ 200000) ∧ (-200000 ≤ mHigh n h l g ∧ mHigh n h l g ≤ 200000) := by
  unfold mLow mHigh
  by_cases hl : lE n h l g = 0
  · rw [if_pos hl, if_pos hl]
    have hd := d_bd n h l g
    have hz : dE n l g = 0 := by
      unfold lE at hl
      by_cases hz : dE n l g = 0
      · exact hz
      · rw [if_neg hz] at hl; exact hl
    have hr := (dE_ok.1 hz).1
    omega
  · rw [if_neg hl, if_neg hl]; omega

set_option maxRecDepth 100000 in
set_option maxHeartbeats 2000000 in
theorem Clearance_c (n : Int) (hh : Bool) (hl hg : Int) (sh : Bool) (sl sg : Int) (w : World) : Calls Tryz.prog 24 #[.agg (fitC n hh hl hg sh sl sg)] w
    fun e w' => e = .returned (pairV (pLow n hh hl hg sh sl sg) (pHigh n hh hl hg sh sl sg) (fE n hh hl hg sh sl sg)) ∧ Below w.heap.size w w' := by
  obtain ⟨a, b, c, d, x, n', hh', hl', hg', sh', sl', sg', hv, h1, h2, ba, bb, bc, bd⟩ : ∃ (a b c d x : Int) (n' : Int) (hh' : Bool) (hl' hg' : Int) (sh' : Bool) (sl' sg' : Int), chkV n hh hl hg sh sl sg = .tuple #[.agg (chkC n' hh' hl' hg' sh' sl' sg' a b c d), .int .i64 x] ∧
      pairV (pLow n hh hl hg sh sl sg) (pHigh n hh hl hg sh sl sg) (fE n hh hl hg sh sl sg) = pairV (a - d) (b - c) x ∧ True ∧ (-200000 ≤ a ∧ a ≤ 200000) ∧ (-200000 ≤ b ∧ b ≤ 200000) ∧ (-200000 ≤ c ∧ c ≤ 200000) ∧ (-200000 ≤ d ∧ d ≤ 200000) := by
    by_cases hf : fE n hh hl hg sh sl sg = 0
    · refine ⟨_, _, _, _, _, _, _, _, _, _, _, _, by unfold chkV; rw [if_pos hf], ?_, trivial, ?_⟩
      · unfold pLow pHigh; rw [if_pos hf, if_pos hf, hf]
      · have h1 := m_bd n true hl hg; have h2 := m_bd n false sl sg
        omega
    · refine ⟨_, _, _, _, _, _, _, _, _, _, _, _, by unfold chkV; rw [if_neg hf], ?_, trivial, ?_⟩
      · unfold pLow pHigh; rw [if_neg hf, if_neg hf]; rfl
      · omega
  have Hv := Lib.hid hv; have H1 := Lib.hid h1
  clear hv h1 h2
  go_enter Tryz.func24, Tryz.ntmps24
  go_wp2_with fail
  refine (fcheck_c _ _ _ _ _ _ _ _).mono ?_
  rintro e w2 ⟨rfl, hbb⟩
  rw [Hv.out]
  have hr1 := (Row.new (w.alloc (.cells (fitC n hh hl hg sh sl sg) 42)) #[.int .i64 0, .int .i64 0] 23).next hbb
  simp only [World.size_alloc] at hr1
  have hb2 := (((Below.refl _ w).alloc (Nat.le_refl _) (.cells (fitC n hh hl hg sh sl sg) 42)).alloc (by simp) (.cells #[.int .i64 0, .int .i64 0] 23)).trans (hbb.mono (by simp; omega))
  have hr1 := hr1.alloc (.cells (chkC n' hh' hl' hg' sh' sl' sg' a b c d) 96)
  have hr4 := Row.new w2 (chkC n' hh' hl' hg' sh' sl' sg' a b c d) 96
  have hb2 := hb2.alloc hb2.size (.cells (chkC n' hh' hl' hg' sh' sl' sg' a b c d) 96)
  clear hbb
  go_wp2_with fail
  refine (clearance_c _ _ _ _ _ ba bb bc bd).mono ?_
  rintro e w3 ⟨rfl, hbb⟩
  have hr1 := hr1.next hbb
  have hb3 := hb2.trans (hbb.mono hb2.size)
  have hc1 := hr1.cell
  have hf1 := hr1.frozen
  clear hbb ba bb bc bd
  go_wp2
  exact bodyPost_ret (v := pairV (a - d) (b - c) x) (by simp [results, Tryz.results24, go_sem, hc1, pairV]) rfl ⟨by rw [H1.out], (hb3.setCell (by simp) _).setCell (by simp) _⟩
end Go.Proofs.YtldghloflegpmaaGreatDoor

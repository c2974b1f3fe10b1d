/- Contracts of package fit: Check, Kind, Swap, Pair. -/
import Derived.Test.YtldghloflegpmaaGreatDoorFtQ
namespace Go.Proofs.YtldghloflegpmaaGreatDoor
open Go.RowKit Go.Shelf Pu Go.Lib

theorem chkV_is (n : Int) (hh : Bool) (hl hg : Int) (sh : Bool) (sl sg : Int) : ∃ (n' : Int) (hh' : Bool) (hl' hg' : Int) (sh' : Bool) (sl' sg' A B C D : Int),
    chkV n hh hl hg sh sl sg = .tuple #[.agg (chkC n' hh' hl' hg' sh' sl' sg' A B C D), .int .i64 (fE n hh hl hg sh sl sg)] := by
  unfold chkV
  by_cases h : fE n hh hl hg sh sl sg = 0
  · rw [if_pos h, h]; exact ⟨_, _, _, _, _, _, _, _, _, _, _, rfl⟩
  · rw [if_neg h]; exact ⟨_, _, _, _, _, _, _, _, _, _, _, rfl⟩
set_option maxHeartbeats 2000000 in
theorem fCheck_c (n : Int) (hh : Bool) (hl hg : Int) (sh : Bool) (sl sg : Int) (w : World) : Calls Tryz.prog 22 #[.agg (fitC n hh hl hg sh sl sg)] w
    fun e w' => e = .returned (.int .i64 (fE n hh hl hg sh sl sg)) ∧ Below w.heap.size w w' := by
  obtain ⟨n', hh', hl', hg', sh', sl', sg', A, B, C, D, hv⟩ := chkV_is n hh hl hg sh sl sg
  have HV := Lib.hid hv
  clear hv
  go_enter Tryz.func22, Tryz.ntmps22
  go_wp2_with fail
  refine (fcheck_c n hh hl hg sh sl sg _).mono ?_
  rintro e w2 ⟨rfl, hbb⟩
  rw [HV.out]
  have hb := ((Below.refl _ w).alloc (Nat.le_refl _) (.cells (fitC n hh hl hg sh sl sg) 42)).trans (hbb.mono (by simp))
  have hb := hb.alloc hb.size (.cells (chkC n' hh' hl' hg' sh' sl' sg' A B C D) 96)
  go_wp2
  go_ret
  exact ⟨rfl, hb⟩

/-- The kind of a fit by its clearance. -/
def kI (a b : Int) : Int := if 0 ≤ a then 0 else if b ≤ 0 then 2 else 1
def kV (n : Int) (hh : Bool) (hl hg : Int) (sh : Bool) (sl sg : Int) : Int := if fE n hh hl hg sh sl sg = 0 then kI (pLow n hh hl hg sh sl sg) (pHigh n hh hl hg sh sl sg) else 0
set_option maxRecDepth 100000 in
set_option maxHeartbeats 4000000 in
theorem Kind_c (n : Int) (hh : Bool) (hl hg : Int) (sh : Bool) (sl sg : Int) (w : World) : Calls Tryz.prog 26 #[.agg (fitC n hh hl hg sh sl sg)] w
    fun e w' => e = .returned (.tuple #[.int .i64 (kV n hh hl hg sh sl sg), .int .i64 (fE n hh hl hg sh sl sg)]) ∧ Below w.heap.size w w' := by
  by_cases hf : fE n hh hl hg sh sl sg = 0
  · obtain ⟨A, B, C, D, hv, e1, e2, ba, bc⟩ : ∃ A B C D, chkV n hh hl hg sh sl sg = .tuple #[.agg (chkC n hh hl hg sh sl sg A B C D), .int .i64 0] ∧ pLow n hh hl hg sh sl sg = A - D ∧ pHigh n hh hl hg sh sl sg = B - C ∧
        ((-200000 ≤ A ∧ A ≤ 200000) ∧ (-200000 ≤ B ∧ B ≤ 200000)) ∧ ((-200000 ≤ C ∧ C ≤ 200000) ∧ (-200000 ≤ D ∧ D ≤ 200000)) :=
      ⟨_, _, _, _, by unfold chkV; rw [if_pos hf], by unfold pLow; rw [if_pos hf], by unfold pHigh; rw [if_pos hf], m_bd n true hl hg, m_bd n false sl sg⟩
    have hk : kV n hh hl hg sh sl sg = kI (A - D) (B - C) := by unfold kV; rw [if_pos hf, e1, e2]
    rw [hk, hf]
    have HV := Lib.hid hv
    clear hv hf e1 e2 hk
    have tail : ∀ k : Int, kI (A - D) (B - C) = k → (∀ (w1 : World), True) := fun _ _ _ => trivial
    clear tail
    by_cases h1 : 0 ≤ A - D
    · have hk : kI (A - D) (B - C) = 0 := by unfold kI; rw [if_pos h1]
      rw [hk]
      clear hk
      go_enter Tryz.func26, Tryz.ntmps26
      go_wp2_with fail
      refine (fcheck_c n hh hl hg sh sl sg _).mono ?_
      rintro e w2 ⟨rfl, hbb⟩
      rw [HV.out]
      have hb := ((Below.refl _ w).alloc (Nat.le_refl _) (.cells (fitC n hh hl hg sh sl sg) 42)).trans (hbb.mono (by simp))
      have hb := hb.alloc hb.size (.cells (chkC n hh hl hg sh sl sg A B C D) 96)
      go_wp2_with fail
      refine (clearance_c A B C D _ ba.1 ba.2 bc.1 bc.2).mono ?_
      rintro e w3 ⟨rfl, hbb⟩
      have hb := hb.trans (hbb.mono hb.size)
      have hb := hb.alloc hb.size (.cells #[.int .i64 (A - D), .int .i64 (B - C)] 23)
      go_wp2
      go_ret2
      exact ⟨rfl, hb⟩
    · by_cases h2 : B - C ≤ 0
      · have hk : kI (A - D) (B - C) = 2 := by unfold kI; rw [if_neg h1, if_pos h2]
        rw [hk]
        clear hk
        go_enter Tryz.func26, Tryz.ntmps26
        go_wp2_with fail
        refine (fcheck_c n hh hl hg sh sl sg _).mono ?_
        rintro e w2 ⟨rfl, hbb⟩
        rw [HV.out]
        have hb := ((Below.refl _ w).alloc (Nat.le_refl _) (.cells (fitC n hh hl hg sh sl sg) 42)).trans (hbb.mono (by simp))
        have hb := hb.alloc hb.size (.cells (chkC n hh hl hg sh sl sg A B C D) 96)
        go_wp2_with fail
        refine (clearance_c A B C D _ ba.1 ba.2 bc.1 bc.2).mono ?_
        rintro e w3 ⟨rfl, hbb⟩
        have hb := hb.trans (hbb.mono hb.size)
        have hb := hb.alloc hb.size (.cells #[.int .i64 (A - D), .int .i64 (B - C)] 23)
        go_wp2
        go_ret2
        exact ⟨rfl, hb⟩
      · have hk : kI (A - D) (B - C) = 1 := by unfold kI; rw [if_neg h1, if_neg h2]
        rw [hk]
        clear hk
        go_enter Tryz.func26, Tryz.ntmps26
        go_wp2_with fail
        refine (fcheck_c n hh hl hg sh sl sg _).mono ?_
        rintro e w2 ⟨rfl, hbb⟩
        rw [HV.out]
        have hb := ((Below.refl _ w).alloc (Nat.le_refl _) (.cells (fitC n hh hl hg sh sl sg) 42)).trans (hbb.mono (by simp))
        have hb := hb.alloc hb.size (.cells (chkC n hh hl hg sh sl sg A B C D) 96)
        go_wp2_with fail
        refine (clearance_c A B C D _ ba.1 ba.2 bc.1 bc.2).mono ?_
        rintro e w3 ⟨rfl, hbb⟩
        have hb := hb.trans (hbb.mono hb.size)
        have hb := hb.alloc hb.size (.cells #[.int .i64 (A - D), .int .i64 (B - C)] 23)
        go_wp2
        go_ret2
        exact ⟨rfl, hb⟩
  · have hk : kV n hh hl hg sh sl sg = 0 := by unfold kV; rw [if_neg hf]
    obtain ⟨n', hh', hl', hg', sh', sl', sg', A, B, C, D, hv⟩ := chkV_is n hh hl hg sh sl sg
    rw [hk]
    have hx : (fE n hh hl hg sh sl sg == 0) = false := by simpa using hf
    have HV := Lib.hid hv
    clear hv hf hk
    generalize fE n hh hl hg sh sl sg = x at *
    go_enter Tryz.func26, Tryz.ntmps26
    go_wp2_with fail
    refine (fcheck_c n hh hl hg sh sl sg _).mono ?_
    rintro e w2 ⟨rfl, hbb⟩
    rw [HV.out]
    have hb := ((Below.refl _ w).alloc (Nat.le_refl _) (.cells (fitC n hh hl hg sh sl sg) 42)).trans (hbb.mono (by simp))
    have hb := hb.alloc hb.size (.cells (chkC n' hh' hl' hg' sh' sl' sg' A B C D) 96)
    go_wp2
    go_ret2
    exact ⟨rfl, hb⟩
end Go.Proofs.YtldghloflegpmaaGreatDoor

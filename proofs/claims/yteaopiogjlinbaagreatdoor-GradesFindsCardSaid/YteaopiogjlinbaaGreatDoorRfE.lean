/- Contracts of the reference for grades: Step, Tolerance, Coarsest. -/
import Derived.Test.YteaopiogjlinbaaGreatDoorRfC
import Derived.Test.YteaopiogjlinbaaGreatDoorGrH
namespace Go.Proofs.YteaopiogjlinbaaGreatDoor
open Go.RowKit Pu Go.Lib

set_option maxHeartbeats 1000000 in
theorem rStep_c (n : Int) (w : World) : Calls Tryz.prog 31 #[.int .i64 n] w fun e w' => e = .returned (twoV (if zE n = 0 then (stp n : Int) else 0) (zE n)) ∧ Below w.heap.size w w' := by
  by_cases hz : zE n = 0
  · rw [if_pos hz, hz]
    have Hz := Lib.hid hz
    clear hz
    go_enter Tryz.func31, Tryz.ntmps31
    go_wp2_with fail
    refine (rSize_c _ _).mono ?_
    rintro e w1 ⟨rfl, rfl⟩
    rw [Hz.out]
    go_wp2_with fail
    refine (At_c _ _).mono ?_
    rintro e w2 ⟨rfl, hb⟩
    go_wp2
    go_ret2
    exact ⟨rfl, hb⟩
  · have h2 := zE_two hz
    rw [if_neg hz, h2]
    have Hz := Lib.hid h2
    clear hz h2
    go_enter Tryz.func31, Tryz.ntmps31
    go_wp2_with fail
    refine (rSize_c _ _).mono ?_
    rintro e w1 ⟨rfl, rfl⟩
    rw [Hz.out]
    go_wp2
    go_ret2
    exact ⟨rfl, Below.refl _ _⟩

set_option maxHeartbeats 1000000 in
theorem rTolerance_c (n g : Int) (w : World) : Calls Tryz.prog 32 #[.int .i64 n, .int .i64 g] w fun e w' => e = .returned (twoV (if tE n g = 0 then tol n g else 0) (tE n g)) ∧ Below w.heap.size w w' := by
  by_cases hz : zE n = 0
  · have ht : tE n g = gE g := by unfold tE; rw [if_pos hz]
    rw [ht]
    have Hz := Lib.hid hz
    by_cases hg : gE g = 0
    · obtain ⟨h5, h12⟩ := gE_ok.1 hg
      rw [if_pos hg, hg]
      clear hz hg ht
      go_enter Tryz.func32, Tryz.ntmps32
      go_wp2_with fail
      refine (rSize_c _ _).mono ?_
      rintro e w1 ⟨rfl, rfl⟩
      rw [Hz.out]
      go_wp2_with fail
      refine (Wide_c _ _ _ h5 h12).mono ?_
      rintro e w2 ⟨rfl, hb⟩
      go_wp2
      go_ret2
      exact ⟨rfl, hb⟩
    · have h2 := gE_two hg
      rw [if_neg hg, h2]
      have hg' : g < 5 ∨ 12 < g := by
        by_cases h : g < 5 ∨ 12 < g
        · exact h
        · exact absurd (gE_ok.2 (by omega)) hg
      clear hz hg ht h2
      by_cases h5 : g < 5
      · clear hg'
        go_enter Tryz.func32, Tryz.ntmps32
        go_wp2_with fail
        refine (rSize_c _ _).mono ?_
        rintro e w1 ⟨rfl, rfl⟩
        rw [Hz.out]
        go_wp2
        go_ret2
        exact ⟨rfl, Below.refl _ _⟩
      · have h12 : 12 < g := by omega
        clear hg'
        go_enter Tryz.func32, Tryz.ntmps32
        go_wp2_with fail
        refine (rSize_c _ _).mono ?_
        rintro e w1 ⟨rfl, rfl⟩
        rw [Hz.out]
        go_wp2
        go_ret2
        exact ⟨rfl, Below.refl _ _⟩
  · have h2 := zE_two hz
    have ht : tE n g = 2 := by unfold tE; rw [if_neg hz, h2]
    rw [ht, if_neg (by decide)]
    have Hz := Lib.hid h2
    clear hz h2 ht
    go_enter Tryz.func32, Tryz.ntmps32
    go_wp2_with fail
    refine (rSize_c _ _).mono ?_
    rintro e w1 ⟨rfl, rfl⟩
    rw [Hz.out]
    go_wp2
    go_ret2
    exact ⟨rfl, Below.refl _ _⟩

set_option maxHeartbeats 2000000 in
theorem rCoarsest_ok (n wd : Int) (w : World) (hz : zE n = 0) : Calls Tryz.prog 36 #[.int .i64 n, .int .i64 wd] w fun e w' => e = .returned (coV n wd) ∧ Below w.heap.size w w' := by
  have Hz := Lib.hid hz
  clear hz
  go_enter Tryz.func36, Tryz.ntmps36
  go_wp2_with fail
  refine (rSize_c _ _).mono ?_
  rintro e w1 ⟨rfl, rfl⟩
  rw [Hz.out]
  go_wp2_with fail
  go_loopw [7] (fun g wr => ∃ k : Nat, k ≤ 8 ∧ g = .int .i64 (4 + (k : Int)) ∧ Hid (cGo n wd 8 = cGo n wd k) ∧ Below w.heap.size w wr) (fun g _ => (intOf g - 4).toNat)
  case atStart => exact ⟨8, by omega, rfl, Lib.hid rfl, Below.refl _ _⟩
  case round =>
    obtain ⟨k, hk, rfl, Hck, hb⟩ := hrel
    cases k with
    | zero =>
      have e : cGo n wd 8 = 0 := by rw [Hck.out]; rfl
      have e2 : coV n wd = twoV 0 6 := by unfold coV; rw [if_pos e, e]
      have E := Lib.hid e2
      clear e e2
      go_wp2
      go_ret2
      exact ⟨by rw [E.out]; rfl, hb⟩
    | succ j =>
      have ej : (4 + ((j + 1 : Nat) : Int)) = 5 + (j : Int) := by omega
      rw [ej]
      have hj8 : (j : Int) ≤ 7 := by omega
      have h5 : 5 ≤ 5 + (j : Int) := by omega
      have h12 : 5 + (j : Int) ≤ 12 := by omega
      clear ej
      go_wp2_with fail
      refine (Wide_c _ _ _ h5 h12).mono ?_
      rintro e w2 ⟨rfl, hbb⟩
      have hb2 := hb.trans (hbb.mono hb.size)
      clear hbb
      by_cases ht : tol n (5 + (j : Int)) ≤ wd
      · have e : cGo n wd 8 = 5 + (j : Int) := by rw [Hck.out]; show (if tol n (5 + (j : Int)) ≤ wd then _ else _) = _; rw [if_pos ht]
        have e2 : coV n wd = twoV (5 + (j : Int)) 0 := by unfold coV; rw [e, if_neg (by omega)]
        have E := Lib.hid e2
        clear e e2
        go_wp2
        go_ret2
        exact ⟨by rw [E.out]; rfl, hb2⟩
      · have e : cGo n wd 8 = cGo n wd j := by rw [Hck.out]; show (if tol n (5 + (j : Int)) ≤ wd then _ else _) = _; rw [if_neg ht]
        have E := Lib.hid e
        clear e
        go_wp2
        go_roundw
        case rel => exact ⟨j, by omega, by congr 1; omega, E, hb2⟩
        case measure => simp [intOf]; omega

set_option maxHeartbeats 1000000 in
theorem rCoarsest_err (n wd : Int) (w : World) (hz : zE n = 2) : Calls Tryz.prog 36 #[.int .i64 n, .int .i64 wd] w fun e w' => e = .returned (twoV 0 2) ∧ Below w.heap.size w w' := by
  have Hz := Lib.hid hz
  clear hz
  go_enter Tryz.func36, Tryz.ntmps36
  go_wp2_with fail
  refine (rSize_c _ _).mono ?_
  rintro e w1 ⟨rfl, rfl⟩
  rw [Hz.out]
  go_wp2
  go_ret2
  exact ⟨rfl, Below.refl _ _⟩

theorem rCoarsest_c (n wd : Int) (w : World) : Calls Tryz.prog 36 #[.int .i64 n, .int .i64 wd] w fun e w' => e = .returned (twoV (if zE n = 0 then cGo n wd 8 else 0) (coE n wd)) ∧ Below w.heap.size w w' := by
  unfold coE
  by_cases hz : zE n = 0
  · rw [if_pos hz, if_pos hz]
    exact rCoarsest_ok n wd w hz
  · rw [if_neg hz, if_neg hz, zE_two hz]
    exact rCoarsest_err n wd w (zE_two hz)
end Go.Proofs.YteaopiogjlinbaaGreatDoor

/- Contracts of the reference for grades: Step, Tolerance, Coarsest. -/
import Derived.Test.YtldghloflegpmaaGreatDoorRfC
import Derived.Test.YtldghloflegpmaaGreatDoorGrH
namespace Go.Proofs.YtldghloflegpmaaGreatDoor
open Go.RowKit Pu Go.Lib

set_option maxHeartbeats 2000000 in
theorem rCoarsest_ok (n wd : Int) (w : World) (hz : zE n = 0) : Calls Tryz.prog 15 #[.int .i64 n, .int .i64 wd] w fun e w' => e = .returned (coV n wd) ∧ Below w.heap.size w w' := by
  have Hz := Lib.hid hz
  clear hz
  go_enter Tryz.func15, Tryz.ntmps15
  go_wp2_with fail
  refine (rSize_c _ _).mono ?_
  rintro e w1 ⟨rfl, rfl⟩
  rw [Hz.out]
  go_wp2_with fail
  go_loopw [7] (fun g wr => ∃ k : Nat, k ≤ 8 ∧ g = .int .i64 (4 + (k : Int)) ∧ Hid (cGo n wd 8 = cGo n wd k) ∧ Below w.heap.size w wr) (fun g _ => (intOf g - 4).toNat)
  case atStart => exact ⟨8, by omega, rfl, Lib.hid rfl, Below.refl _ _⟩
  case round =>
    obtain ⟨k, hk, rfl, Hck, hb⟩ := hrel
    cases k with
    | zero =>
      have e : cGo n wd 8 = 0 := by rw [Hck.out]; rfl
      have e2 : coV n wd = twoV 0 6 := by unfold coV; rw [if_pos e, e]
      have E := Lib.hid e2
      clear e e2
      go_wp2
      go_ret2
      exact ⟨by rw [E.out]; rfl, hb⟩
    | succ j =>
      have ej : (4 + ((j + 1 : Nat) : Int)) = 5 + (j : Int) := by omega
      rw [ej]
      have hj8 : (j : Int) ≤ 7 := by omega
      have h5 : 5 ≤ 5 + (j : Int) := by omega
      have h12 : 5 + (j : Int) ≤ 12 := by omega
      clear ej
      go_wp2_with fail
      refine (Wide_c _ _ _ h5 h12).mono ?_
      rintro e w2 ⟨rfl, hbb⟩
      have hb2 := hb.trans (hbb.mono hb.size)
      clear hbb
      by_cases ht : tol n (5 + (j : Int)) ≤ wd
      · have e : cGo n wd 8 = 5 + (j : Int) := by rw [Hck.out]; show (if tol n (5 + (j : Int)) ≤ wd then _ else _) = _; rw [if_pos ht]
        have e2 : coV n wd = twoV (5 + (j : Int)) 0 := by unfold coV; rw [e, if_neg (by omega)]
        have E := Lib.hid e2
        clear e e2
        go_wp2
        go_ret2
        exact ⟨by rw [E.out]; rfl, hb2⟩
      · have e : cGo n wd 8 = cGo n wd j := by rw [Hck.out]; show (if tol n (5 + (j : Int)) ≤ wd then _ else _) = _; rw [if_neg ht]
        have E := Lib.hid e
        clear e
        go_wp2
        go_roundw
        case rel => exact ⟨j, by omega, by congr 1; omega, E, hb2⟩
        case measure => simp [intOf]; omega

set_option maxHeartbeats 1000000 in
theorem rCoarsest_err (n wd : Int) (w : World) (hz : zE n = 2) : Calls Tryz.prog 15 #[.int .i64 n, .int .i64 wd] w fun e w' => e = .returned (twoV 0 2) ∧ Below w.heap.size w w' := by
  have Hz := Lib.hid hz
  clear hz
  go_enter Tryz.func15, Tryz.ntmps15
  go_wp2_with fail
  refine (rSize_c _ _).mono ?_
  rintro e w1 ⟨rfl, rfl⟩
  rw [Hz.out]
  go_wp2
  go_ret2
  exact ⟨rfl, Below.refl _ _⟩

theorem rCoarsest_c (n wd : Int) (w : World) : Calls Tryz.prog 15 #[.int .i64 n, .int .i64 wd] w fun e w' => e = .returned (twoV (if zE n = 0 then cGo n wd 8 else 0) (coE n wd)) ∧ Below w.heap.size w w' := by
  unfold coE
  by_cases hz : zE n = 0
  · rw [if_pos hz, if_pos hz]
    exact rCoarsest_ok n wd w hz
  · rw [if_neg hz, if_neg hz, zE_two hz]
    exact rCoarsest_err n wd w (zE_two hz)
end Go.Proofs.YtldghloflegpmaaGreatDoor

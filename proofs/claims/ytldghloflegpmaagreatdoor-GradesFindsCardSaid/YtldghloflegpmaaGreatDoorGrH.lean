/- Contracts of package grades: Step, Tolerance, Coarsest. -/
import Derived.Test.YtldghloflegpmaaGreatDoorRow
namespace Go.Proofs.YtldghloflegpmaaGreatDoor
open Go.RowKit Pu Go.Lib

/-- Two ints. -/
def twoV (a b : Int) : Value := .tuple #[.int .i64 a, .int .i64 b]

/-- The number of the error of a size and a grade. -/
def tE (n g : Int) : Int := if zE n = 0 then gE g else zE n
theorem gE_two {g : Int} (h : ¬ gE g = 0) : gE g = 2 := by unfold gE at *; split at h <;> simp_all
/-- The greatest grade of the first k whose tolerance is at most a width; 0: none. -/
def cGo (n wd : Int) : Nat → Int
  | 0 => 0
  | k + 1 => if tol n (5 + k) ≤ wd then 5 + k else cGo n wd k
/-- The number of the error of Coarsest. -/
def coE (n wd : Int) : Int := if zE n = 0 then (if cGo n wd 8 = 0 then 6 else 0) else zE n

/-- What Coarsest returns for a right size. -/
def coV (n wd : Int) : Value := twoV (cGo n wd 8) (if cGo n wd 8 = 0 then 6 else 0)
set_option maxHeartbeats 2000000 in
theorem Coarsest_ok (n wd : Int) (w : World) (hz : zE n = 0) : Calls Tryz.prog 14 #[.int .i64 n, .int .i64 wd] w fun e w' => e = .returned (coV n wd) ∧ Below w.heap.size w w' := by
  have hn := (zE_ok.1 hz).2
  have Hz := Lib.hid hz
  clear hz
  go_enter Tryz.func14, Tryz.ntmps14
  go_wp2_with fail
  refine (sized_c _ _).mono ?_
  rintro e w1 ⟨rfl, rfl⟩
  rw [Hz.out]
  go_wp2_with fail
  go_loopw [7] (fun g wr => ∃ k : Nat, k ≤ 8 ∧ g = .int .i64 (4 + (k : Int)) ∧ Hid (cGo n wd 8 = cGo n wd k) ∧ Below w.heap.size w wr) (fun g _ => (intOf g - 4).toNat)
  case atStart => exact ⟨8, by omega, rfl, Lib.hid rfl, Below.refl _ _⟩
  case round =>
    obtain ⟨k, hk, rfl, Hck, hb⟩ := hrel
    cases k with
    | zero =>
      have e : cGo n wd 8 = 0 := by rw [Hck.out]; rfl
      have e2 : coV n wd = twoV 0 6 := by unfold coV; rw [if_pos e, e]
      have E := Lib.hid e2
      clear e e2
      go_wp2
      go_ret2
      exact ⟨by rw [E.out]; rfl, hb⟩
    | succ j =>
      have ej : (4 + ((j + 1 : Nat) : Int)) = 5 + (j : Int) := by omega
      rw [ej]
      have hj8 : (j : Int) ≤ 7 := by omega
      have h5 : 5 ≤ 5 + (j : Int) := by omega
      have h12 : 5 + (j : Int) ≤ 12 := by omega
      clear ej
      go_wp2_with fail
      refine (tolerance_c _ _ _ hn h5 h12).mono ?_
      rintro e w2 ⟨rfl, hbb⟩
      have hb2 := hb.trans (hbb.mono hb.size)
      clear hbb
      by_cases ht : tol n (5 + (j : Int)) ≤ wd
      · have e : cGo n wd 8 = 5 + (j : Int) := by rw [Hck.out]; show (if tol n (5 + (j : Int)) ≤ wd then _ else _) = _; rw [if_pos ht]
        have e2 : coV n wd = twoV (5 + (j : Int)) 0 := by unfold coV; rw [e, if_neg (by omega)]
        have E := Lib.hid e2
        clear e e2
        go_wp2
        go_ret2
        exact ⟨by rw [E.out]; rfl, hb2⟩
      · have e : cGo n wd 8 = cGo n wd j := by rw [Hck.out]; show (if tol n (5 + (j : Int)) ≤ wd then _ else _) = _; rw [if_neg ht]
        have E := Lib.hid e
        clear e
        go_wp2
        go_roundw
        case rel => exact ⟨j, by omega, by congr 1; omega, E, hb2⟩
        case measure => simp [intOf]; omega

set_option maxHeartbeats 1000000 in
theorem Coarsest_err (n wd : Int) (w : World) (hz : zE n = 2) : Calls Tryz.prog 14 #[.int .i64 n, .int .i64 wd] w fun e w' => e = .returned (twoV 0 2) ∧ Below w.heap.size w w' := by
  have Hz := Lib.hid hz
  clear hz
  go_enter Tryz.func14, Tryz.ntmps14
  go_wp2_with fail
  refine (sized_c _ _).mono ?_
  rintro e w1 ⟨rfl, rfl⟩
  rw [Hz.out]
  go_wp2
  go_ret2
  exact ⟨rfl, Below.refl _ _⟩

theorem Coarsest_c (n wd : Int) (w : World) : Calls Tryz.prog 14 #[.int .i64 n, .int .i64 wd] w fun e w' => e = .returned (twoV (if zE n = 0 then cGo n wd 8 else 0) (coE n wd)) ∧ Below w.heap.size w w' := by
  unfold coE
  by_cases hz : zE n = 0
  · rw [if_pos hz, if_pos hz]
    exact Coarsest_ok n wd w hz
  · rw [if_neg hz, if_neg hz, zE_two hz]
    exact Coarsest_err n wd w (zE_two hz)
end Go.Proofs.YtldghloflegpmaaGreatDoor

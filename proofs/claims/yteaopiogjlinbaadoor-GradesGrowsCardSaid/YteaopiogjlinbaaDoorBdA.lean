/- The walk of metrolablaw15.GradesBounds. -/
import Derived.Test.YteaopiogjlinbaaDoorAwk
namespace Go.Proofs.YteaopiogjlinbaaDoor
open Go.RowKit Pu Go.Lib

theorem Size_c (n : Int) (w : World) : Calls Tryd.prog 5 #[.int .i64 n] w fun e w' => e = .returned (.int .i64 (zE n)) ∧ w = w' := by
  by_cases h1 : n < 1
  · have h : zE n = 2 := by unfold zE; rw [if_pos (Or.inl h1)]
    rw [h]; clear h
    go_enter Tryd.func5, Tryd.ntmps5
    go_wp2
    go_ret
    exact ⟨rfl, rfl⟩
  · by_cases h2 : 100000 < n
    · have h : zE n = 2 := by unfold zE; rw [if_pos (Or.inr h2)]
      rw [h]; clear h
      go_enter Tryd.func5, Tryd.ntmps5
      go_wp2
      go_ret
      exact ⟨rfl, rfl⟩
    · have h : zE n = 0 := by unfold zE; rw [if_neg (by omega)]
      rw [h]; clear h
      go_enter Tryd.func5, Tryd.ntmps5
      go_wp2
      go_ret
      exact ⟨rfl, rfl⟩

theorem cGo_spec (n wd : Int) : ∀ k : Nat, (cGo n wd k = 0 ∧ ∀ j < k, wd < tol n (5 + (j : Int))) ∨ ∃ j < k, cGo n wd k = 5 + (j : Int) ∧ tol n (5 + (j : Int)) ≤ wd ∧ ∀ i, j < i → i < k → wd < tol n (5 + (i : Int))
  | 0 => .inl ⟨rfl, fun j h => by omega⟩
  | k + 1 => by
    by_cases h : tol n (5 + (k : Int)) ≤ wd
    · right
      exact ⟨k, by omega, by show (if _ then _ else _) = _; rw [if_pos h], h, fun i h1 h2 => by omega⟩
    · have e : cGo n wd (k + 1) = cGo n wd k := by show (if _ then _ else _) = _; rw [if_neg h]
      rw [e]
      rcases cGo_spec n wd k with ⟨h0, ha⟩ | ⟨j, hj, hc, ht, ha⟩
      · left
        refine ⟨h0, fun j hj => ?_⟩
        by_cases hjk : j = k
        · subst hjk; omega
        · exact ha j (by omega)
      · right
        refine ⟨j, by omega, hc, ht, fun i h1 h2 => ?_⟩
        by_cases hik : i = k
        · subst hik; omega
        · exact ha i h1 (by omega)

theorem Coarsest_none (n wd : Int) (w : World) (hz : zE n = 0) (h : cGo n wd 8 = 0) : Calls Tryd.prog 7 #[.int .i64 n, .int .i64 wd] w fun e w' => e = .returned (.tuple #[.int .i64 0, .int .i64 6]) ∧ Below w.heap.size w w' := by
  have := Coarsest_ok n wd w hz
  unfold coV twoV at this
  rw [h] at this
  exact this
theorem Coarsest_some (n wd g : Int) (w : World) (hz : zE n = 0) (h : cGo n wd 8 = g) (h0 : g ≠ 0) : Calls Tryd.prog 7 #[.int .i64 n, .int .i64 wd] w fun e w' => e = .returned (.tuple #[.int .i64 g, .int .i64 0]) ∧ Below w.heap.size w w' := by
  have := Coarsest_ok n wd w hz
  unfold coV twoV at this
  rw [h, if_neg h0] at this
  exact this
theorem Tolerance_ok (n g : Int) (w : World) (hz : zE n = 0) (h5 : 5 ≤ g) (h12 : g ≤ 12) : Calls Tryd.prog 8 #[.int .i64 n, .int .i64 g] w fun e w' => e = .returned (.tuple #[.int .i64 (tol n g), .int .i64 0]) ∧ Below w.heap.size w w' := by
  have := Tolerance_c n g w
  have e : tE n g = 0 := by unfold tE; rw [if_pos hz]; exact gE_ok.2 ⟨h5, h12⟩
  unfold twoV at this
  rw [e, if_pos rfl] at this
  exact this

set_option maxHeartbeats 2000000 in
theorem bounds_none (n wd : Int) (w : World) (hz : zE n = 0) (hc : cGo n wd 8 = 0) (h5 : wd < tol n 5) : Calls Tryd.prog 3 #[.int .i64 n, .int .i64 wd] w fun e w' => e = .returned (.bool true) ∧ Below w.heap.size w w' := by
  have Hz := Lib.hid hz
  have HC := fun W => Coarsest_none n wd W hz hc
  have HT := fun W => Tolerance_ok n 5 W hz (by omega) (by omega)
  have HC' := Lib.hid HC
  have HT' := Lib.hid HT
  clear hz hc HC HT
  go_enter Tryd.func3, Tryd.ntmps3
  go_wp2_with fail
  refine (Size_c _ _).mono ?_
  rintro e w1 ⟨rfl, rfl⟩
  rw [Hz.out]
  go_wp2_with fail
  refine (HC'.out _).mono ?_
  rintro e w2 ⟨rfl, hb2⟩
  go_wp2_with fail
  refine (HT'.out _).mono ?_
  rintro e w3 ⟨rfl, hbb⟩
  have hb3 := hb2.trans (hbb.mono hb2.size)
  go_wp2_with fail
  refine (awake_c _).mono ?_
  rintro e w4 ⟨rfl, hbb⟩
  have hb4 := hb3.trans (hbb.mono hb3.size)
  go_wp2
  go_ret
  exact ⟨rfl, hb4⟩

set_option maxHeartbeats 2000000 in
theorem bounds_most (n wd : Int) (w : World) (hz : zE n = 0) (hc : cGo n wd 8 = 12) (ht : tol n 12 ≤ wd) : Calls Tryd.prog 3 #[.int .i64 n, .int .i64 wd] w fun e w' => e = .returned (.bool true) ∧ Below w.heap.size w w' := by
  have Hz := Lib.hid hz
  have HC := fun W => Coarsest_some n wd 12 W hz hc (by omega)
  have HT := fun W => Tolerance_ok n 12 W hz (by omega) (by omega)
  have HC' := Lib.hid HC
  have HT' := Lib.hid HT
  clear hz hc HC HT
  go_enter Tryd.func3, Tryd.ntmps3
  go_wp2_with fail
  refine (Size_c _ _).mono ?_
  rintro e w1 ⟨rfl, rfl⟩
  rw [Hz.out]
  go_wp2_with fail
  refine (HC'.out _).mono ?_
  rintro e w2 ⟨rfl, hb2⟩
  go_wp2_with fail
  refine (HT'.out _).mono ?_
  rintro e w3 ⟨rfl, hbb⟩
  have hb3 := hb2.trans (hbb.mono hb2.size)
  go_wp2_with fail
  refine (awake_c _).mono ?_
  rintro e w4 ⟨rfl, hbb⟩
  have hb4 := hb3.trans (hbb.mono hb3.size)
  go_wp2
  go_ret
  exact ⟨rfl, hb4⟩

set_option maxHeartbeats 2000000 in
theorem bounds_mid (n wd g : Int) (w : World) (hz : zE n = 0) (hc : cGo n wd 8 = g) (h5 : 5 ≤ g) (h11 : g < 12) (ht : tol n g ≤ wd) (hn : wd < tol n (g + 1)) : Calls Tryd.prog 3 #[.int .i64 n, .int .i64 wd] w fun e w' => e = .returned (.bool true) ∧ Below w.heap.size w w' := by
  have Hz := Lib.hid hz
  have HC := fun W => Coarsest_some n wd g W hz hc (by omega)
  have HT := fun W => Tolerance_ok n g W hz (by omega) (by omega)
  have HU := fun W => Tolerance_ok n (g + 1) W hz (by omega) (by omega)
  have HC' := Lib.hid HC
  have HT' := Lib.hid HT
  have HU' := Lib.hid HU
  clear hz hc HC HT HU
  go_enter Tryd.func3, Tryd.ntmps3
  go_wp2_with fail
  refine (Size_c _ _).mono ?_
  rintro e w1 ⟨rfl, rfl⟩
  rw [Hz.out]
  go_wp2_with fail
  refine (HC'.out _).mono ?_
  rintro e w2 ⟨rfl, hb2⟩
  go_wp2_with fail
  refine (HT'.out _).mono ?_
  rintro e w3 ⟨rfl, hbb⟩
  have hb3 := hb2.trans (hbb.mono hb2.size)
  go_wp2_with fail
  refine (HU'.out _).mono ?_
  rintro e w4 ⟨rfl, hbb⟩
  have hb4 := hb3.trans (hbb.mono hb3.size)
  go_wp2_with fail
  refine (awake_c _).mono ?_
  rintro e w5 ⟨rfl, hbb⟩
  have hb5 := hb4.trans (hbb.mono hb4.size)
  go_wp2
  go_ret
  exact ⟨rfl, hb5⟩

set_option maxHeartbeats 2000000 in
theorem bounds_size (n wd : Int) (w : World) (hz : zE n = 2) : Calls Tryd.prog 3 #[.int .i64 n, .int .i64 wd] w fun e w' => e = .returned (.bool true) ∧ Below w.heap.size w w' := by
  have Hz := Lib.hid hz
  clear hz
  go_enter Tryd.func3, Tryd.ntmps3
  go_wp2_with fail
  refine (Size_c _ _).mono ?_
  rintro e w1 ⟨rfl, rfl⟩
  rw [Hz.out]
  go_wp2_with fail
  refine (awake_c _).mono ?_
  rintro e w4 ⟨rfl, hbb⟩
  go_wp2
  go_ret
  exact ⟨rfl, hbb⟩

theorem gradesBounds_c (n wd : Int) (w : World) : Calls Tryd.prog 3 #[.int .i64 n, .int .i64 wd] w fun e w' => e = .returned (.bool true) ∧ Below w.heap.size w w' := by
  by_cases hz : zE n = 0
  · rcases cGo_spec n wd 8 with ⟨h0, ha⟩ | ⟨j, hj, hc, ht, ha⟩
    · exact bounds_none n wd w hz h0 (ha 0 (by omega))
    · by_cases h7 : j = 7
      · subst h7
        exact bounds_most n wd w hz hc ht
      · have := ha (j + 1) (by omega) (by omega)
        refine bounds_mid n wd _ w hz hc (by omega) (by omega) ht ?_
        rw [show (5 + (j : Int) + 1) = 5 + ((j + 1 : Nat) : Int) by omega]
        exact this
  · exact bounds_size n wd w (zE_two hz)
end Go.Proofs.YteaopiogjlinbaaDoor

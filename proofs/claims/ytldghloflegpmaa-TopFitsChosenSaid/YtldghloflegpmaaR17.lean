/- Contracts of the reference for limits: In, Check, Has. -/
import Derived.Test.YtldghloflegpmaaRow
namespace Go.Proofs.Ytldghloflegpmaa
open Go.RowKit Pu Go.Lib

theorem rIn_c (n : Int) (w : World) : Calls Try.prog 13 #[.int .i64 n] w fun e w' => e = .returned (.bool (decide (-100000 ≤ n ∧ n ≤ 100000))) ∧ w = w' := by
  by_cases h1 : -100000 ≤ n
  · by_cases h2 : n ≤ 100000
    · have e : decide (-100000 ≤ n ∧ n ≤ 100000) = true := by simp [h1, h2]
      rw [e]; clear e
      go_enter Try.func13, Try.ntmps13
      go_wp2
      go_ret
      exact ⟨by simp, rfl⟩
    · have e : decide (-100000 ≤ n ∧ n ≤ 100000) = false := by simp [h2]
      rw [e]; clear e
      go_enter Try.func13, Try.ntmps13
      go_wp2
      go_ret
      exact ⟨by simp, rfl⟩
  · have e : decide (-100000 ≤ n ∧ n ≤ 100000) = false := by simp [h1]
    rw [e]; clear e
    go_enter Try.func13, Try.ntmps13
    go_wp2
    go_ret
    exact ⟨by simp, rfl⟩

/-- The number of the error of limits. -/
def lim17 (a b : Int) : Int := if (-100000 ≤ a ∧ a ≤ 100000) ∧ (-100000 ≤ b ∧ b ≤ 100000) then (if b < a then 9 else 0) else 2
set_option maxHeartbeats 1000000 in
theorem rCheck17_c (a b : Int) (w : World) : Calls Try.prog 5 #[.agg #[.int .i64 a, .int .i64 b]] w fun e w' => e = .returned (.int .i64 (lim17 a b)) ∧ Below w.heap.size w w' := by
  by_cases h1 : -100000 ≤ a ∧ a ≤ 100000
  · by_cases h2 : -100000 ≤ b ∧ b ≤ 100000
    · by_cases h3 : b < a
      · have e : lim17 a b = 9 := by unfold lim17; rw [if_pos ⟨h1, h2⟩, if_pos h3]
        rw [e]; clear e
        have d1 : decide (-100000 ≤ a ∧ a ≤ 100000) = true := by simpa using h1
        have d2 : decide (-100000 ≤ b ∧ b ≤ 100000) = true := by simpa using h2
        have D1 := Lib.hid d1; have D2 := Lib.hid d2
        clear h1 h2 d1 d2
        go_enter Try.func5, Try.ntmps5
        go_wp2_with fail
        refine (rIn_c _ _).mono ?_
        rintro e w' ⟨rfl, rfl⟩
        rw [D1.out]
        go_wp2_with fail
        refine (rIn_c _ _).mono ?_
        rintro e w' ⟨rfl, rfl⟩
        rw [D2.out]
        go_wp2
        go_ret
        exact ⟨rfl, (Below.refl _ w).alloc (Nat.le_refl _) _⟩
      · have e : lim17 a b = 0 := by unfold lim17; rw [if_pos ⟨h1, h2⟩, if_neg h3]
        rw [e]; clear e
        have d1 : decide (-100000 ≤ a ∧ a ≤ 100000) = true := by simpa using h1
        have d2 : decide (-100000 ≤ b ∧ b ≤ 100000) = true := by simpa using h2
        have D1 := Lib.hid d1; have D2 := Lib.hid d2
        clear h1 h2 d1 d2
        go_enter Try.func5, Try.ntmps5
        go_wp2_with fail
        refine (rIn_c _ _).mono ?_
        rintro e w' ⟨rfl, rfl⟩
        rw [D1.out]
        go_wp2_with fail
        refine (rIn_c _ _).mono ?_
        rintro e w' ⟨rfl, rfl⟩
        rw [D2.out]
        go_wp2
        go_ret
        exact ⟨rfl, (Below.refl _ w).alloc (Nat.le_refl _) _⟩
    · have e : lim17 a b = 2 := by unfold lim17; rw [if_neg (fun h => h2 h.2)]
      rw [e]; clear e
      have d1 : decide (-100000 ≤ a ∧ a ≤ 100000) = true := by simpa using h1
      have d2 : decide (-100000 ≤ b ∧ b ≤ 100000) = false := by simpa using h2
      have D1 := Lib.hid d1; have D2 := Lib.hid d2
      clear h1 h2 d1 d2
      go_enter Try.func5, Try.ntmps5
      go_wp2_with fail
      refine (rIn_c _ _).mono ?_
      rintro e w' ⟨rfl, rfl⟩
      rw [D1.out]
      go_wp2_with fail
      refine (rIn_c _ _).mono ?_
      rintro e w' ⟨rfl, rfl⟩
      rw [D2.out]
      go_wp2
      go_ret
      exact ⟨rfl, (Below.refl _ w).alloc (Nat.le_refl _) _⟩
  · have e : lim17 a b = 2 := by unfold lim17; rw [if_neg (fun h => h1 h.1)]
    rw [e]; clear e
    have d1 : decide (-100000 ≤ a ∧ a ≤ 100000) = false := by simpa using h1
    have D1 := Lib.hid d1
    clear h1 d1
    go_enter Try.func5, Try.ntmps5
    go_wp2_with fail
    refine (rIn_c _ _).mono ?_
    rintro e w' ⟨rfl, rfl⟩
    rw [D1.out]
    go_wp2
    go_ret
    exact ⟨rfl, (Below.refl _ w).alloc (Nat.le_refl _) _⟩

theorem rHas_c (a b v : Int) (w : World) : Calls Try.prog 12 #[.agg #[.int .i64 a, .int .i64 b], .int .i64 v] w fun e w' => e = .returned (.bool (decide (a ≤ v) && decide (v ≤ b))) ∧ Below w.heap.size w w' := by
  by_cases h1 : a ≤ v
  · go_enter Try.func12, Try.ntmps12
    go_wp2
    go_ret
    exact ⟨by simp [h1], (Below.refl _ w).alloc (Nat.le_refl _) _⟩
  · go_enter Try.func12, Try.ntmps12
    go_wp2
    go_ret
    exact ⟨by simp; omega, (Below.refl _ w).alloc (Nat.le_refl _) _⟩
end Go.Proofs.Ytldghloflegpmaa

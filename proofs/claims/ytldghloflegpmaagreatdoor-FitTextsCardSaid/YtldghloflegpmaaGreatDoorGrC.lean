/- Contracts of package grades: the tolerance. -/
import Derived.Test.YtldghloflegpmaaGreatDoorGrB
namespace Go.Proofs.YtldghloflegpmaaGreatDoor
open Go.RowKit Pu Go.Lib

theorem step_base (m b : Int) (w : World) : (Instr.field 135 (.agg #[.int .i64 m, .int .i64 b]) 1).run Tryz.prog w = .ok (.int .i64 b) w := by kernel_rfl
/-- What was kept is kept on. -/
theorem bt {w a b : World} (h : Below w.heap.size w a) (h2 : Below a.heap.size a b) : Below w.heap.size w b := h.trans (h2.mono h.size)
theorem ret_int {k : IntKind} {a b : Int} (h : a = b) : Ending.returned (.int k a) = .returned (.int k b) := by rw [h]
theorem tol_run (n : Int) (i : Nat) : IntKind.i64.wrap (bas (stp n) * fac i) = bas (stp n) * fac i ∧ IntKind.i64.wrap (bas (stp n) * fac i + 5) = bas (stp n) * fac i + 5 ∧
    IntKind.i64.wrap ((bas (stp n) * fac i + 5).tdiv 10) = tol n (5 + i) := by
  have h := bf_bd n i
  have e : bas (stp n) * fac i = bs n * fac i := rfl
  rw [e]
  have hd : (bs n * fac i + 5).tdiv 10 = (bs n * fac i + 5) / 10 := Int.tdiv_eq_ediv_of_nonneg (by omega)
  have ht : tol n (5 + i) = (bs n * fac i + 5) / 10 := by unfold tol; rw [show ((5 + (i : Int)) - 5).toNat = i by omega]
  refine ⟨IntWalk.i64_in _ (by omega), IntWalk.i64_in _ (by omega), ?_⟩
  rw [hd, ht]
  exact IntWalk.i64_in _ (by omega)

set_option maxRecDepth 100000 in
set_option maxHeartbeats 4000000 in
theorem tolerance_c (n g : Int) (w : World) (hn : n ≤ 100000) (h5 : 5 ≤ g) (h12 : g ≤ 12) : Calls Tryz.prog 45 #[.int .i64 n, .int .i64 g] w fun e w' => e = .returned (.int .i64 (tol n g)) ∧ Below w.heap.size w w' := by
  obtain ⟨i, rfl⟩ : ∃ i : Nat, g = 5 + (i : Int) := ⟨(g - 5).toNat, by omega⟩
  have hi : i < 8 := by omega
  have h1 := steps_at (stp n) (stp_lt n)
  have h2 := factors_at i hi
  have hw : IntKind.i64.wrap (5 + (i : Int) - 5) = (i : Int) := by rw [IntWalk.i64_in _ (by omega)]; omega
  have h3 := step_base (most (stp n)) (bas (stp n))
  obtain ⟨k1, k2, k3⟩ := tol_run n i
  clear h12 h5
  go_enter Tryz.func45, Tryz.ntmps45
  go_wp2_with fail
  go_region_held3 (fun w' => Below w.heap.size w w') (first | exact (Below.refl _ _).drew | assumption | (refine bt ?_ (by assumption); assumption))
    (first | (go_at_call 74; refine (steps_c _).mono ?_; rintro e w' ⟨rfl, hbb⟩) | (go_at_call 77; refine (factors_c _).mono ?_; rintro e w' ⟨rfl, hbb⟩) | (go_at_call 75; refine (index_c _ _ hn).mono ?_; rintro e w' ⟨rfl, hbb⟩))
  all_goals (go_wp2; go_ret; exact ⟨rfl, by assumption⟩)
end Go.Proofs.YtldghloflegpmaaGreatDoor

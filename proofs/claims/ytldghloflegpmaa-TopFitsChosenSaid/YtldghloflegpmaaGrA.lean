/- Contracts of the leaf functions of package grades: the tables, the closure that looks for a size step. -/
import Derived.Test.YtldghloflegpmaaProg
import Derived.Test.YtldghloflegpmaaPure
import Derived.WalkKit
import Derived.WalkSpells
import Derived.WalkLawsBesides
import Derived.IntWalk
import Derived.Lib.Hide
import Derived.BigQuiet
import Derived.Deep.QuietTactic
import Derived.Deep.RegionHeld3
import Derived.Deep.DeepCutAuto
import Derived.Outline
import Derived.Laws.EntriesVeiled
import Derived.Laws.Tables
import Derived.Deep.WholeRow
namespace Go.Proofs.Ytldghloflegpmaa
open Go.RowKit Pu

/-- The table of size steps. -/
def stepsC : Array Value := #[.int .i64 3000, .int .i64 6, .int .i64 6000, .int .i64 8, .int .i64 10000, .int .i64 9, .int .i64 18000, .int .i64 11, .int .i64 30000, .int .i64 13, .int .i64 50000, .int .i64 16, .int .i64 80000, .int .i64 19, .int .i64 100000, .int .i64 22]
/-- .. as a value. -/
def stepsV : Value := .agg stepsC
/-- The table of factors. -/
def factorsV : Value := .agg #[.int .i64 7, .int .i64 10, .int .i64 16, .int .i64 25, .int .i64 40, .int .i64 64, .int .i64 100, .int .i64 160]

theorem info_steps : (Try.prog.info? 82).map (·.size) = some stepsC.size := by kernel_rfl
theorem one_steps : stepsC.all (·.oneCell') = true := by kernel_rfl
set_option maxHeartbeats 400000 in
theorem steps_c (w : World) : Calls Try.prog 37 #[] w fun e w' => e = .returned stepsV ∧ Below w.heap.size w w' := by
  go_enter Try.func37, Try.ntmps37
  go_wp2_with (refine wpList_store_row rfl 82 (.tmp 0) (.tmp 9) rfl w.heap.size stepsC rfl rfl 82 _ (heap_alloc_last w _) info_steps rfl one_steps ?_; rw [World.setRow_alloc_new])
  exact bodyPost_ret (v := stepsV) (results_cell_row Try.results37 _ _ w.heap.size 82 _ _ _ rfl (heap_alloc_last w _) Try.underlying82 rfl info_steps) rfl ⟨rfl, (Below.refl _ _).alloc (Nat.le_refl _) _⟩

set_option maxHeartbeats 400000 in
theorem factors_c (w : World) : Calls Try.prog 42 #[] w fun e w' => e = .returned factorsV ∧ Below w.heap.size w w' := by
  go_enter Try.func42, Try.ntmps42
  go_wp2
  exact bodyPost_ret (v := factorsV) (by simp [results, Try.results42, go_sem, factorsV]) rfl ⟨rfl, (Below.refl _ _).alloc (Nat.le_refl _) _⟩

set_option maxHeartbeats 400000 in
theorem index1_c (n m b : Int) (B : Nat) (w : World) (hB : B < w.heap.size) (hc : w.cell? ⟨B, 0, none⟩ = some (.int .i64 n)) :
    Calls Try.prog 44 #[.agg #[.int .i64 m, .int .i64 b], .pointer (some ⟨B, 0, none⟩)] w fun e w' => e = .returned (.bool (decide (n ≤ m))) ∧ Below w.heap.size w w' := by
  have hne : B ≠ w.heap.size := by omega
  go_enter Try.func44, Try.ntmps44
  go_wp2
  all_goals (go_ret; exact ⟨by simp_all, (Below.refl _ w).alloc (Nat.le_refl _) _⟩)
end Go.Proofs.Ytldghloflegpmaa

/- Contracts of the leaf functions of package grades: the tables, the closure that looks for a size step. -/
import Derived.Test.YtldghloflegpmaaGreatDoorProg
import Derived.Test.YtldghloflegpmaaGreatDoorPure
import Derived.WalkKit
import Derived.WalkSpells
import Derived.WalkLawsBesides
import Derived.IntWalk
import Derived.Lib.Hide
import Derived.BigQuiet
import Derived.Deep.QuietTactic
import Derived.Deep.RegionHeld3
import Derived.Deep.DeepCutAuto
import Derived.Outline
import Derived.Laws.EntriesVeiled
import Derived.Laws.Tables
import Derived.Deep.WholeRow
namespace Go.Proofs.YtldghloflegpmaaGreatDoor
open Go.RowKit Pu

/-- The table of size steps. -/
def stepsC : Array Value := #[.int .i64 3000, .int .i64 6, .int .i64 6000, .int .i64 8, .int .i64 10000, .int .i64 9, .int .i64 18000, .int .i64 11, .int .i64 30000, .int .i64 13, .int .i64 50000, .int .i64 16, .int .i64 80000, .int .i64 19, .int .i64 100000, .int .i64 22]
/-- .. as a value. -/
def stepsV : Value := .agg stepsC
/-- The table of factors. -/
def factorsV : Value := .agg #[.int .i64 7, .int .i64 10, .int .i64 16, .int .i64 25, .int .i64 40, .int .i64 64, .int .i64 100, .int .i64 160]

theorem info_steps : (Tryz.prog.info? 136).map (·.size) = some stepsC.size := by kernel_rfl
theorem one_steps : stepsC.all (·.oneCell') = true := by kernel_rfl
set_option maxHeartbeats 400000 in
theorem steps_c (w : World) : Calls Tryz.prog 74 #[] w fun e w' => e = .returned stepsV ∧ Below w.heap.size w w' := by
  go_enter Tryz.func74, Tryz.ntmps74
  go_wp2_with (refine wpList_store_row rfl 136 (.tmp 0) (.tmp 9) rfl w.heap.size stepsC rfl rfl 136 _ (heap_alloc_last w _) info_steps rfl one_steps ?_; rw [World.setRow_alloc_new])
  exact bodyPost_ret (v := stepsV) (results_cell_row Tryz.results74 _ _ w.heap.size 136 _ _ _ rfl (heap_alloc_last w _) Tryz.underlying136 rfl info_steps) rfl ⟨rfl, (Below.refl _ _).alloc (Nat.le_refl _) _⟩

set_option maxHeartbeats 400000 in
theorem factors_c (w : World) : Calls Tryz.prog 77 #[] w fun e w' => e = .returned factorsV ∧ Below w.heap.size w w' := by
  go_enter Tryz.func77, Tryz.ntmps77
  go_wp2
  exact bodyPost_ret (v := factorsV) (by simp [results, Tryz.results77, go_sem, factorsV]) rfl ⟨rfl, (Below.refl _ _).alloc (Nat.le_refl _) _⟩

set_option maxHeartbeats 400000 in
theorem index1_c (n m b : Int) (B : Nat) (w : World) (hB : B < w.heap.size) (hc : w.cell? ⟨B, 0, none⟩ = some (.int .i64 n)) :
    Calls Tryz.prog 112 #[.agg #[.int .i64 m, .int .i64 b], .pointer (some ⟨B, 0, none⟩)] w fun e w' => e = .returned (.bool (decide (n ≤ m))) ∧ Below w.heap.size w w' := by
  have hne : B ≠ w.heap.size := by omega
  go_enter Tryz.func112, Tryz.ntmps112
  go_wp2
  all_goals (go_ret; exact ⟨by simp_all, (Below.refl _ w).alloc (Nat.le_refl _) _⟩)
end Go.Proofs.YtldghloflegpmaaGreatDoor

/- Contracts of package grades: the letters and their rules. -/
import Derived.Test.YtldghloflegpmaaGreatDoorGrC
namespace Go.Proofs.YtldghloflegpmaaGreatDoor
open Go.RowKit Pu Go.Lib

/-- The number of a letter's rule. -/
def ruleF (i : Nat) : Nat := if i < 5 then 108 else if i = 5 then 109 else 110
/-- The table of letters. -/
def lettersC : Array Value := #[.int .i64 50, .func (.func 108) #[] #[], .int .i64 31, .func (.func 108) #[] #[], .int .i64 16, .func (.func 108) #[] #[], .int .i64 6, .func (.func 108) #[] #[], .int .i64 0, .func (.func 108) #[] #[],
  .int .i64 0, .func (.func 109) #[] #[], .int .i64 2, .func (.func 110) #[] #[], .int .i64 9, .func (.func 110) #[] #[], .int .i64 15, .func (.func 110) #[] #[], .int .i64 22, .func (.func 110) #[] #[]]
/-- .. as a value. -/
def lettersV : Value := .agg lettersC
theorem letters_at (i : Nat) (hi : i < 10) (w : World) : (Instr.index 132 lettersV (.int .i64 i)).run Tryz.prog w = .ok (.agg #[.int .i64 (shf i), .func (.func (ruleF i)) #[] #[]]) w :=
  match i, hi with
  | 0, _ => by kernel_rfl
  | 1, _ => by kernel_rfl
  | 2, _ => by kernel_rfl
  | 3, _ => by kernel_rfl
  | 4, _ => by kernel_rfl
  | 5, _ => by kernel_rfl
  | 6, _ => by kernel_rfl
  | 7, _ => by kernel_rfl
  | 8, _ => by kernel_rfl
  | 9, _ => by kernel_rfl

theorem info_letters : (Tryz.prog.info? 132).map (·.size) = some lettersC.size := by kernel_rfl
theorem one_letters : lettersC.all (·.oneCell') = true := by kernel_rfl
set_option maxHeartbeats 1000000 in
theorem letters_c (w : World) : Calls Tryz.prog 73 #[] w fun e w' => e = .returned lettersV ∧ Below w.heap.size w w' := by
  go_enter Tryz.func73, Tryz.ntmps73
  go_wp2_with (refine wpList_store_row rfl 132 (.tmp 0) (.tmp 24) rfl w.heap.size lettersC rfl rfl 132 _ (heap_alloc_last w _) info_letters rfl one_letters ?_; rw [World.setRow_alloc_new])
  exact bodyPost_ret (v := lettersV) (results_cell_row Tryz.results73 _ _ w.heap.size 132 _ _ _ rfl (heap_alloc_last w _) Tryz.underlying132 rfl info_letters) rfl ⟨rfl, (Below.refl _ _).alloc (Nat.le_refl _) _⟩

/-- What a letter's rule gives. -/
def rLow (i : Nat) (t s : Int) : Int := if i < 5 then -s - t else if i = 5 then -(t / 2) else s
def rHigh (i : Nat) (t s : Int) : Int := if i < 5 then -s else if i = 5 then t / 2 else s + t

set_option maxHeartbeats 1000000 in
theorem below_c (t s : Int) (w : World) (h0 : 0 ≤ t) (h1 : t ≤ 1000) (h2 : 0 ≤ s) (h3 : s ≤ 1000) : Calls Tryz.prog 108 #[.int .i64 t, .int .i64 s] w fun e w' => e = .returned (.agg #[.int .i64 (-s - t), .int .i64 (-s)]) ∧ Below w.heap.size w w' := by
  go_enter Tryz.func108, Tryz.ntmps108
  go_wp2
  exact bodyPost_ret (v := .agg #[.int .i64 (-s - t), .int .i64 (-s)]) (by simp [results, Tryz.results108, go_sem]) rfl ⟨rfl, (Below.refl _ _).alloc (Nat.le_refl _) _⟩
set_option maxHeartbeats 1000000 in
theorem around_c (t s : Int) (w : World) (h0 : 0 ≤ t) (h1 : t ≤ 1000) : Calls Tryz.prog 109 #[.int .i64 t, .int .i64 s] w fun e w' => e = .returned (.agg #[.int .i64 (-(t / 2)), .int .i64 (t / 2)]) ∧ Below w.heap.size w w' := by
  go_enter Tryz.func109, Tryz.ntmps109
  go_wp2
  exact bodyPost_ret (v := .agg #[.int .i64 (-(t / 2)), .int .i64 (t / 2)]) (by simp [results, Tryz.results109, go_sem]) rfl ⟨rfl, (Below.refl _ _).alloc (Nat.le_refl _) _⟩
set_option maxHeartbeats 1000000 in
theorem above_c (t s : Int) (w : World) (h0 : 0 ≤ t) (h1 : t ≤ 1000) (h2 : 0 ≤ s) (h3 : s ≤ 1000) : Calls Tryz.prog 110 #[.int .i64 t, .int .i64 s] w fun e w' => e = .returned (.agg #[.int .i64 s, .int .i64 (s + t)]) ∧ Below w.heap.size w w' := by
  go_enter Tryz.func110, Tryz.ntmps110
  go_wp2
  exact bodyPost_ret (v := .agg #[.int .i64 s, .int .i64 (s + t)]) (by simp [results, Tryz.results110, go_sem]) rfl ⟨rfl, (Below.refl _ _).alloc (Nat.le_refl _) _⟩
end Go.Proofs.YtldghloflegpmaaGreatDoor

/- Contracts of package grades: the letters and their rules. -/
import Derived.Test.YtldghloflegpmaaGrC
namespace Go.Proofs.Ytldghloflegpmaa
open Go.RowKit Pu Go.Lib

/-- The number of a letter's rule. -/
def ruleF (i : Nat) : Nat := if i < 5 then 39 else if i = 5 then 40 else 41
/-- The table of letters. -/
def lettersC : Array Value := #[.int .i64 50, .func (.func 39) #[] #[], .int .i64 31, .func (.func 39) #[] #[], .int .i64 16, .func (.func 39) #[] #[], .int .i64 6, .func (.func 39) #[] #[], .int .i64 0, .func (.func 39) #[] #[],
  .int .i64 0, .func (.func 40) #[] #[], .int .i64 2, .func (.func 41) #[] #[], .int .i64 9, .func (.func 41) #[] #[], .int .i64 15, .func (.func 41) #[] #[], .int .i64 22, .func (.func 41) #[] #[]]
/-- .. as a value. -/
def lettersV : Value := .agg lettersC
theorem letters_at (i : Nat) (hi : i < 10) (w : World) : (Instr.index 77 lettersV (.int .i64 i)).run Try.prog w = .ok (.agg #[.int .i64 (shf i), .func (.func (ruleF i)) #[] #[]]) w :=
  match i, hi with
  | 0, _ => by kernel_rfl
  | 1, _ => by kernel_rfl
  | 2, _ => by kernel_rfl
  | 3, _ => by kernel_rfl
  | 4, _ => by kernel_rfl
  | 5, _ => by kernel_rfl
  | 6, _ => by kernel_rfl
  | 7, _ => by kernel_rfl
  | 8, _ => by kernel_rfl
  | 9, _ => by kernel_rfl

theorem info_letters : (Try.prog.info? 77).map (·.size) = some lettersC.size := by kernel_rfl
theorem one_letters : lettersC.all (·.oneCell') = true := by kernel_rfl
set_option maxHeartbeats 1000000 in
theorem letters_c (w : World) : Calls Try.prog 35 #[] w fun e w' => e = .returned lettersV ∧ Below w.heap.size w w' := by
  go_enter Try.func35, Try.ntmps35
  go_wp2_with (refine wpList_store_row rfl 77 (.tmp 0) (.tmp 24) rfl w.heap.size lettersC rfl rfl 77 _ (heap_alloc_last w _) info_letters rfl one_letters ?_; rw [World.setRow_alloc_new])
  exact bodyPost_ret (v := lettersV) (results_cell_row Try.results35 _ _ w.heap.size 77 _ _ _ rfl (heap_alloc_last w _) Try.underlying77 rfl info_letters) rfl ⟨rfl, (Below.refl _ _).alloc (Nat.le_refl _) _⟩

/-- What a letter's rule gives. -/
def rLow (i : Nat) (t s : Int) : Int := if i < 5 then -s - t else if i = 5 then -(t / 2) else s
def rHigh (i : Nat) (t s : Int) : Int := if i < 5 then -s else if i = 5 then t / 2 else s + t

set_option maxHeartbeats 1000000 in
theorem below_c (t s : Int) (w : World) (h0 : 0 ≤ t) (h1 : t ≤ 1000) (h2 : 0 ≤ s) (h3 : s ≤ 1000) : Calls Try.prog 39 #[.int .i64 t, .int .i64 s] w fun e w' => e = .returned (.agg #[.int .i64 (-s - t), .int .i64 (-s)]) ∧ Below w.heap.size w w' := by
  go_enter Try.func39, Try.ntmps39
  go_wp2
  exact bodyPost_ret (v := .agg #[.int .i64 (-s - t), .int .i64 (-s)]) (by simp [results, Try.results39, go_sem]) rfl ⟨rfl, (Below.refl _ _).alloc (Nat.le_refl _) _⟩
set_option maxHeartbeats 1000000 in
theorem around_c (t s : Int) (w : World) (h0 : 0 ≤ t) (h1 : t ≤ 1000) : Calls Try.prog 40 #[.int .i64 t, .int .i64 s] w fun e w' => e = .returned (.agg #[.int .i64 (-(t / 2)), .int .i64 (t / 2)]) ∧ Below w.heap.size w w' := by
  go_enter Try.func40, Try.ntmps40
  go_wp2
  exact bodyPost_ret (v := .agg #[.int .i64 (-(t / 2)), .int .i64 (t / 2)]) (by simp [results, Try.results40, go_sem]) rfl ⟨rfl, (Below.refl _ _).alloc (Nat.le_refl _) _⟩
set_option maxHeartbeats 1000000 in
theorem above_c (t s : Int) (w : World) (h0 : 0 ≤ t) (h1 : t ≤ 1000) (h2 : 0 ≤ s) (h3 : s ≤ 1000) : Calls Try.prog 41 #[.int .i64 t, .int .i64 s] w fun e w' => e = .returned (.agg #[.int .i64 s, .int .i64 (s + t)]) ∧ Below w.heap.size w w' := by
  go_enter Try.func41, Try.ntmps41
  go_wp2
  exact bodyPost_ret (v := .agg #[.int .i64 s, .int .i64 (s + t)]) (by simp [results, Try.results41, go_sem]) rfl ⟨rfl, (Below.refl _ _).alloc (Nat.le_refl _) _⟩
end Go.Proofs.Ytldghloflegpmaa

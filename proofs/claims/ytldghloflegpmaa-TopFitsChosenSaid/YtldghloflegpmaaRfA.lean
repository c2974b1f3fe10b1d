/- Contracts of the reference for grades: the size step, the base, the tolerance. -/
import Derived.Test.YtldghloflegpmaaFtA
namespace Go.Proofs.Ytldghloflegpmaa
open Go.RowKit Pu Go.Lib

abbrev endsC : Array Value := #[.int .i64 3000, .int .i64 6000, .int .i64 10000, .int .i64 18000, .int .i64 30000, .int .i64 50000, .int .i64 80000]
abbrev basesC : Array Value := #[.int .i64 6, .int .i64 8, .int .i64 9, .int .i64 11, .int .i64 13, .int .i64 16, .int .i64 19, .int .i64 22]
abbrev factorsC : Array Value := #[.int .i64 7, .int .i64 10, .int .i64 16, .int .i64 25, .int .i64 40, .int .i64 64, .int .i64 100, .int .i64 160]
abbrev shiftsC : Array Value := #[.int .i64 50, .int .i64 31, .int .i64 16, .int .i64 6, .int .i64 0, .int .i64 0, .int .i64 2, .int .i64 9, .int .i64 15, .int .i64 22]
theorem ends_at (k : Nat) (h : k < 7) : endsC[k]? = some (.int .i64 (most k)) :=
  match k, h with
  | 0, _ => rfl
  | 1, _ => rfl
  | 2, _ => rfl
  | 3, _ => rfl
  | 4, _ => rfl
  | 5, _ => rfl
  | 6, _ => rfl
theorem bases_at (k : Nat) (h : k < 8) : basesC[k]? = some (.int .i64 (bas k)) :=
  match k, h with
  | 0, _ => rfl
  | 1, _ => rfl
  | 2, _ => rfl
  | 3, _ => rfl
  | 4, _ => rfl
  | 5, _ => rfl
  | 6, _ => rfl
  | 7, _ => rfl
theorem factorsC_at (k : Nat) (h : k < 8) : factorsC[k]? = some (.int .i64 (fac k)) :=
  match k, h with
  | 0, _ => rfl
  | 1, _ => rfl
  | 2, _ => rfl
  | 3, _ => rfl
  | 4, _ => rfl
  | 5, _ => rfl
  | 6, _ => rfl
  | 7, _ => rfl
theorem shifts_at (k : Nat) (h : k < 10) : shiftsC[k]? = some (.int .i64 (shf k)) :=
  match k, h with
  | 0, _ => rfl
  | 1, _ => rfl
  | 2, _ => rfl
  | 3, _ => rfl
  | 4, _ => rfl
  | 5, _ => rfl
  | 6, _ => rfl
  | 7, _ => rfl
  | 8, _ => rfl
  | 9, _ => rfl
theorem factorsL_at (k : Nat) (h : k < 8) : ([.int .i64 7, .int .i64 10, .int .i64 16, .int .i64 25, .int .i64 40, .int .i64 64, .int .i64 100, .int .i64 160] : List Value)[k]'(by simpa using h) = .int .i64 (fac k) :=
  match k, h with
  | 0, _ => rfl
  | 1, _ => rfl
  | 2, _ => rfl
  | 3, _ => rfl
  | 4, _ => rfl
  | 5, _ => rfl
  | 6, _ => rfl
  | 7, _ => rfl
theorem shiftsL_at (k : Nat) (h : k < 10) : ([.int .i64 50, .int .i64 31, .int .i64 16, .int .i64 6, .int .i64 0, .int .i64 0, .int .i64 2, .int .i64 9, .int .i64 15, .int .i64 22] : List Value)[k]'(by simpa using h) = .int .i64 (shf k) :=
  match k, h with
  | 0, _ => rfl
  | 1, _ => rfl
  | 2, _ => rfl
  | 3, _ => rfl
  | 4, _ => rfl
  | 5, _ => rfl
  | 6, _ => rfl
  | 7, _ => rfl
  | 8, _ => rfl
  | 9, _ => rfl
theorem stp_iff (n : Int) (k : Nat) (h : k < 7) : most k < n ↔ k < stp n := by
  have h7 : k = 0 ∨ k = 1 ∨ k = 2 ∨ k = 3 ∨ k = 4 ∨ k = 5 ∨ k = 6 := by omega
  unfold stp
  rcases h7 with rfl | rfl | rfl | rfl | rfl | rfl | rfl <;> simp only [most] <;> (repeat' split) <;> omega

end Go.Proofs.Ytldghloflegpmaa

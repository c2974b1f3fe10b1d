/- Contracts of the reference for grades: the size step, the base, the tolerance. -/
import Derived.Test.YtldghloflegpmaaGreatDoorFtA
namespace Go.Proofs.YtldghloflegpmaaGreatDoor
open Go.RowKit Pu Go.Lib

abbrev endsC : Array Value := #[.int .i64 3000, .int .i64 6000, .int .i64 10000, .int .i64 18000, .int .i64 30000, .int .i64 50000, .int .i64 80000]
abbrev basesC : Array Value := #[.int .i64 6, .int .i64 8, .int .i64 9, .int .i64 11, .int .i64 13, .int .i64 16, .int .i64 19, .int .i64 22]
abbrev factorsC : Array Value := #[.int .i64 7, .int .i64 10, .int .i64 16, .int .i64 25, .int .i64 40, .int .i64 64, .int .i64 100, .int .i64 160]
abbrev shiftsC : Array Value := #[.int .i64 50, .int .i64 31, .int .i64 16, .int .i64 6, .int .i64 0, .int .i64 0, .int .i64 2, .int .i64 9, .int .i64 15, .int .i64 22]
theorem ends_at (k : Nat) (h : k < 7) : endsC[k]? = some (.int .i64 (most k)) :=
  match k, h with
  | 0, _ => rfl
  | 1, _ => rfl
  | 2, _ => rfl
  | 3, _ => rfl
  | 4, _ => rfl
  | 5, _ => rfl
  | 6, _ => rfl
theorem bases_at (k : Nat) (h : k < 8) : basesC[k]? = some (.int .i64 (bas k)) :=
  match k, h with
  | 0, _ => rfl
  | 1, _ => rfl
  | 2, _ => rfl
  | 3, _ => rfl
  | 4, _ => rfl
  | 5, _ => rfl
  | 6, _ => rfl
  | 7, _ => rfl
theorem factorsC_at (k : Nat) (h : k < 8) : factorsC[k]? = some (.int .i64 (fac k)) :=
  match k, h with
  | 0, _ => rfl
  | 1, _ => rfl
  | 2, _ => rfl
  | 3, _ => rfl
  | 4, _ => rfl
  | 5, _ => rfl
  | 6, _ => rfl
  | 7, _ => rfl
theorem shifts_at (k : Nat) (h : k < 10) : shiftsC[k]? = some (.int .i64 (shf k)) :=
  match k, h with
  | 0, _ => rfl
  | 1, _ => rfl
  | 2, _ => rfl
  | 3, _ => rfl
  | 4, _ => rfl
  | 5, _ => rfl
  | 6, _ => rfl
  | 7, _ => rfl
  | 8, _ => rfl
  | 9, _ => rfl
theorem factorsL_at (k : Nat) (h : k < 8) : ([.int .i64 7, .int .i64 10, .int .i64 16, .int .i64 25, .int .i64 40, .int .i64 64, .int .i64 100, .int .i64 160] : List Value)[k]'(by simpa using h) = .int .i64 (fac k) :=
  match k, h with
  | 0, _ => rfl
  | 1, _ => rfl
  | 2, _ => rfl
  | 3, _ => rfl
  | 4, _ => rfl
  | 5, _ => rfl
  | 6, _ => rfl
  | 7, _ => rfl
theorem shiftsL_at (k : Nat) (h : k < 10) : ([.int .i64 50, .int .i64 31, .int .i64 16, .int .i64 6, .int .i64 0, .int .i64 0, .int .i64 2, .int .i64 9, .int .i64 15, .int .i64 22] : List Value)[k]'(by simpa using h) = .int .i64 (shf k) :=
  match k, h with
  | 0, _ => rfl
  | 1, _ => rfl
  | 2, _ => rfl
  | 3, _ => rfl
  | 4, _ => rfl
  | 5, _ => rfl
  | 6, _ => rfl
  | 7, _ => rfl
  | 8, _ => rfl
  | 9, _ => rfl
theorem stp_iff (n : Int) (k : Nat) (h : k < 7) : most k < n ↔ k < stp n := by
  have h7 : k = 0 ∨ k = 1 ∨ k = 2 ∨ k = 3 ∨ k = 4 ∨ k = 5 ∨ k = 6 := by omega
  unfold stp
  rcases h7 with rfl | rfl | rfl | rfl | rfl | rfl | rfl <;> simp only [most] <;> (repeat' split) <;> omega

set_option maxHeartbeats 1000000 in
theorem At_c (n : Int) (w : World) : Calls Tryz.prog 113 #[.int .i64 n] w fun e w' => e = .returned (.int .i64 (stp n)) ∧ Below w.heap.size w w' := by
  have h8 := stp_lt n
  go_enter Tryz.func113, Tryz.ntmps113
  go_wp2_with fail
  have hrow := Row.new w endsC 3
  go_loop [4, 5] (fun c i => ∃ k : Nat, k ≤ 7 ∧ i = .int .i64 k ∧ c = .int .i64 (min k (stp n) : Nat)) (fun _ i => 7 - (intOf i).toNat)
  case atStart => exact ⟨0, by omega, rfl, by simp⟩
  case round =>
    obtain ⟨k, hk, rfl, rfl⟩ := hrel
    by_cases h7 : k < 7
    · have hc := (hrow.cell k).trans (ends_at k h7)
      by_cases hlt : k < stp n
      · have hm := (stp_iff n k h7).2 hlt
        have e1 : min k (stp n) = k := by omega
        have e2 : min (k + 1) (stp n) = k + 1 := by omega
        rw [e1]
        have E2 := Lib.hid e2
        clear e1 e2
        go_wp2
        go_round
        case rel => exact ⟨k + 1, by omega, by go_num, by rw [E2.out]; go_num⟩
        case measure => simp [intOf]; omega
      · have hm : ¬ most k < n := fun h => hlt ((stp_iff n k h7).1 h)
        have e2 : min (k + 1) (stp n) = min k (stp n) := by omega
        have E2 := Lib.hid e2
        clear e2
        go_wp2
        go_round
        case rel => exact ⟨k + 1, by omega, by go_num, by rw [E2.out]⟩
        case measure => simp [intOf]; omega
    · obtain rfl : k = 7 := by omega
      go_wp2
      go_ret
      exact ⟨ret_int (by omega), (Below.refl _ w).alloc (Nat.le_refl _) _⟩
end Go.Proofs.YtldghloflegpmaaGreatDoor

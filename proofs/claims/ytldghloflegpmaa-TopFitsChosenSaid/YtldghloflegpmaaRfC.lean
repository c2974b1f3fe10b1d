/- Contracts of the reference for grades: the errors of sizes and classes, Away, Deviations, Limits. -/
import Derived.Test.YtldghloflegpmaaRfB
namespace Go.Proofs.Ytldghloflegpmaa
open Go.RowKit Pu Go.Lib

set_option maxHeartbeats 1000000 in
theorem rSize_c (n : Int) (w : World) : Calls Try.prog 4 #[.int .i64 n] w fun e w' => e = .returned (.int .i64 (zE n)) ∧ w = w' := by
  by_cases h1 : n < 1
  · have h : zE n = 2 := by unfold zE; rw [if_pos (Or.inl h1)]
    rw [h]; clear h
    go_enter Try.func4, Try.ntmps4
    go_wp2
    go_ret
    exact ⟨rfl, rfl⟩
  · by_cases h2 : 100000 < n
    · have h : zE n = 2 := by unfold zE; rw [if_pos (Or.inr h2)]
      rw [h]; clear h
      go_enter Try.func4, Try.ntmps4
      go_wp2
      go_ret
      exact ⟨rfl, rfl⟩
    · have h : zE n = 0 := by unfold zE; rw [if_neg (by omega)]
      rw [h]; clear h
      go_enter Try.func4, Try.ntmps4
      go_wp2
      go_ret
      exact ⟨rfl, rfl⟩

end Go.Proofs.Ytldghloflegpmaa

/- Contracts of package metrolabtop: a fit of a basic hole. -/
import Derived.Test.YtldghloflegpmaaFtB
import Derived.Test.YtldghloflegpmaaRfD
namespace Go.Proofs.Ytldghloflegpmaa
open Go.RowKit Pu Go.Lib

/-- The cells of a RunFit: the size, the letter, the grade of the hole, that of the shaft. -/
abbrev runC (n l h s : Int) : Array Value := #[.int .i64 n, .int .i64 l, .int .i64 h, .int .i64 s]

set_option maxRecDepth 100000 in
set_option maxHeartbeats 1000000 in
theorem rfit_c (n l h s : Int) (w : World) : Calls Try.prog 14 #[.agg (runC n l h s)] w fun e w' => e = .returned (.agg (fitC n true 4 h false l s)) ∧ Below w.heap.size w w' := by
  go_enter Try.func14, Try.ntmps14
  go_wp2
  exact bodyPost_ret (v := .agg (fitC n true 4 h false l s)) (by simp [results, Try.results14, go_sem]) rfl ⟨rfl, ((Below.refl _ w).alloc (Nat.le_refl _) _).alloc (by simp) _⟩
/-- Whether a fit of a basic hole is right. -/
def rightB (n l h s : Int) : Bool := fE n true 4 h false l s == 0

theorem ex_clear : pairV (pLow 25000 true 4 7 false 3 6) (pHigh 25000 true 4 7 false 3 6) (fE 25000 true 4 7 false 3 6) = pairV 7 41 0 := by
  have h1 : pLow 25000 true 4 7 false 3 6 = 7 := by decide +kernel
  have h2 : pHigh 25000 true 4 7 false 3 6 = 41 := by decide +kernel
  have h3 : fE 25000 true 4 7 false 3 6 = 0 := by decide +kernel
  rw [h1, h2, h3]

set_option maxHeartbeats 1000000 in
theorem runFits_c (w : World) : Calls Try.prog 6 #[] w fun e w' => e = .returned (.bool true) ∧ Below w.heap.size w w' := by
  have hc := Clearance_c 25000 true 4 7 false 3 6
  rw [ex_clear] at hc
  have HC := Lib.hid hc
  clear hc
  go_enter Try.func6, Try.ntmps6
  go_wp2_with fail
  refine (rfit_c _ _ _ _ _).mono ?_
  rintro e w2 ⟨rfl, hb2⟩
  go_wp2_with fail
  refine (HC.out _).mono ?_
  rintro e w3 ⟨rfl, hb3⟩
  simp only [pairV]
  go_wp2
  go_ret
  exact ⟨rfl, (bt hb2 hb3).alloc (bt hb2 hb3).size _⟩
end Go.Proofs.Ytldghloflegpmaa

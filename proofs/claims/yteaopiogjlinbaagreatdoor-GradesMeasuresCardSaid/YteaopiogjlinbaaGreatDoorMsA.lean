/- The walk of metrolablaw15.GradesMeasures. -/
import Derived.Test.YteaopiogjlinbaaGreatDoorAwk
import Derived.Test.YteaopiogjlinbaaGreatDoorRfE
namespace Go.Proofs.YteaopiogjlinbaaGreatDoor
open Go.RowKit Pu Go.Lib

theorem gradesMeasures_c (n g : Int) (w : World) (_ : (Lit.int .i64 n).wf = true) (_ : (Lit.int .i64 g).wf = true) : Calls Tryz.prog 6 #[.int .i64 n, .int .i64 g] w fun e w' => e = .returned (.bool true) ∧ Below w.heap.size w w' := by
  have A1 := fun W => Step_c n W
  have A2 := fun W => rStep_c n W
  have A3 := fun W => Tolerance_c n g W
  have A4 := fun W => rTolerance_c n g W
  obtain ⟨a, ha⟩ : ∃ a, (if zE n = 0 then (stp n : Int) else 0) = a := ⟨_, rfl⟩
  obtain ⟨b, hb⟩ : ∃ b, (if tE n g = 0 then tol n g else 0) = b := ⟨_, rfl⟩
  obtain ⟨x, hx⟩ : ∃ x, zE n = x := ⟨_, rfl⟩
  obtain ⟨y, hy⟩ : ∃ y, tE n g = y := ⟨_, rfl⟩
  simp only [ha, hb] at A1 A2 A3 A4
  rw [hx] at A1 A2
  rw [hy] at A3 A4
  unfold twoV at A1 A2 A3 A4
  clear ha hb hx hy
  have B1 := Lib.hid A1; have B2 := Lib.hid A2; have B3 := Lib.hid A3; have B4 := Lib.hid A4
  clear A1 A2 A3 A4
  go_enter Tryz.func6, Tryz.ntmps6
  go_wp2_with fail
  refine (B1.out _).mono ?_
  rintro e w1 ⟨rfl, hbb⟩
  have hb1 := hbb
  clear hbb
  go_wp2_with fail
  refine (B2.out _).mono ?_
  rintro e w2 ⟨rfl, hbb⟩
  have hb2 := hb1.trans (hbb.mono hb1.size)
  clear hbb
  go_wp2_with fail
  refine (B3.out _).mono ?_
  rintro e w3 ⟨rfl, hbb⟩
  have hb3 := hb2.trans (hbb.mono hb2.size)
  clear hbb
  go_wp2_with fail
  refine (B4.out _).mono ?_
  rintro e w4 ⟨rfl, hbb⟩
  have hb4 := hb3.trans (hbb.mono hb3.size)
  clear hbb
  go_wp2_with fail
  refine (awake_c _).mono ?_
  rintro e w5 ⟨rfl, hbb⟩
  have hb5 := hb4.trans (hbb.mono hb4.size)
  go_wp2
  go_ret
  exact ⟨rfl, hb5⟩
end Go.Proofs.YteaopiogjlinbaaGreatDoor

/- Contracts of the reference for grades: the base, the tolerance, the deviations of a shaft. -/
import Derived.Test.YtldghloflegpmaaGreatDoorRfA
namespace Go.Proofs.YtldghloflegpmaaGreatDoor
open Go.RowKit Pu Go.Lib

set_option maxHeartbeats 1000000 in
theorem Base_c (n : Int) (w : World) : Calls Tryz.prog 78 #[.int .i64 n] w fun e w' => e = .returned (.int .i64 (bs n)) ∧ Below w.heap.size w w' := by
  have h8 := stp_lt n
  have hb := bases_at (stp n) h8
  unfold bs
  go_enter Tryz.func78, Tryz.ntmps78
  go_wp2_with fail
  refine (At_c _ _).mono ?_
  rintro e w2 ⟨rfl, hbb⟩
  have hc := (((Row.new w basesC 3).next hbb).cell (stp n)).trans hb
  have hb2 := ((Below.refl _ w).alloc (Nat.le_refl _) (.cells basesC 3)).trans (hbb.mono (by simp))
  clear hbb
  go_wp2
  go_ret
  exact ⟨rfl, hb2⟩

theorem Row.drew {w : World} {b : Nat} {cs : Array Value} {T : TypeId} (h : Row w b cs T) : Row w.drew b cs T := h
theorem bel_a {w w' : World} {o : Obj} (h : Below w.drew.heap.size w.drew w') : Below w.heap.size w (w'.alloc o) := ((Below.refl _ w).drew.trans h).alloc h.size _
theorem bel_b {w w' : World} {o : Obj} (h : Below (w.alloc o).drew.heap.size (w.alloc o).drew w') : Below w.heap.size w w' := (((Below.refl _ w).alloc (Nat.le_refl _) o).drew).trans (h.mono (by simp))

set_option maxRecDepth 100000 in
set_option maxHeartbeats 4000000 in
theorem Wide_c (n g : Int) (w : World) (h5 : 5 ≤ g) (h12 : g ≤ 12) : Calls Tryz.prog 46 #[.int .i64 n, .int .i64 g] w fun e w' => e = .returned (.int .i64 (tol n g)) ∧ Below w.heap.size w w' := by
  obtain ⟨i, rfl⟩ : ∃ i : Nat, g = 5 + (i : Int) := ⟨(g - 5).toNat, by omega⟩
  have hi : i < 8 := by omega
  have hi0 : (0 : Int) ≤ (i : Int) := by omega
  have hi8 : (i : Int) < 8 := by omega
  have hf := factorsC_at i hi
  have hfl := factorsL_at i hi
  have hw : IntKind.i64.wrap (5 + (i : Int) - 5) = (i : Int) := by rw [IntWalk.i64_in _ (by omega)]; omega
  have hbn := Base_c n
  unfold bs at hbn
  have HB := Lib.hid hbn
  obtain ⟨k1, k2, k3⟩ := tol_run n i
  clear h12 h5 hbn
  go_enter Tryz.func46, Tryz.ntmps46
  go_wp2_with fail
  go_region_with (first | (go_at_call 78; refine (HB.out _).mono ?_; rintro e w' ⟨rfl, hbb⟩; (first | (have hRw := (Row.new _ _ _).next hbb; have hcl := (hRw.cell i).trans hf) | (have hRw := (Row.new _ _ _).drew.next hbb; have hcl := (hRw.cell i).trans hf) | skip)))
  all_goals (go_wp2; go_ret)
  all_goals first | exact ⟨rfl, bel_a hbb⟩ | exact ⟨rfl, bel_b hbb⟩

set_option maxRecDepth 100000 in
set_option maxHeartbeats 4000000 in
theorem shaft_c (n l g : Int) (w : World) (hl0 : 0 ≤ l) (hl9 : l ≤ 9) (h5 : 5 ≤ g) (h12 : g ≤ 12) : Calls Tryz.prog 76 #[.int .i64 n, .int .i64 l, .int .i64 g] w
    fun e w' => e = .returned (.agg #[.int .i64 (sLow n l g), .int .i64 (sHigh n l g)]) ∧ Below w.heap.size w w' := by
  obtain ⟨i, rfl⟩ : ∃ i : Nat, l = (i : Int) := ⟨l.toNat, by omega⟩
  have hi : i < 10 := by omega
  have hi8 : (i : Int) < 10 := by omega
  have hf := shifts_at i hi
  have hfl := shiftsL_at i hi
  have hbn := Base_c n
  unfold bs at hbn
  have HB := Lib.hid hbn
  obtain ⟨k1, k2⟩ := sh_run n i
  have hr := rule_is n i g
  have ht := tol_bd n g
  have hsb := sh_bd n i
  have HR := Lib.hid hr
  clear hbn hr
  go_enter Tryz.func76, Tryz.ntmps76
  go_wp2_with fail
  refine (Wide_c _ _ _ h5 h12).mono ?_
  rintro e w2 ⟨rfl, hbb⟩
  have hr1 := (Row.new w #[.int .i64 0, .int .i64 0] 23).next hbb
  have hb2 := ((Below.refl _ w).alloc (Nat.le_refl _) (.cells #[.int .i64 0, .int .i64 0] 23)).trans (hbb.mono (by simp))
  clear hbb h5 h12
  go_upto_region 2 with fail
  go_cut [8] (fun s8 wx => s8 = .int .i64 (sh n i) ∧ Below w2.heap.size w2 wx)
  case first =>
    go_region_with (first | (go_at_call 78; refine (HB.out _).mono ?_; rintro e w' ⟨rfl, hbb⟩; (first | (have hRw := (Row.new _ _ _).next hbb; have hcl := (hRw.cell i).trans hf) | (have hRw := (Row.new _ _ _).drew.next hbb; have hcl := (hRw.cell i).trans hf) | skip)))
    all_goals (go_wp2_with fail; go_meet)
    all_goals first | exact ⟨rfl, bel_a hbb⟩ | exact ⟨rfl, bel_b hbb⟩
  case rest =>
    obtain ⟨rfl, hbb⟩ := hcut
    have hr1 := hr1.next hbb
    have hb3 := hb2.trans (hbb.mono hb2.size)
    have hc1 := hr1.cell
    have hf1 := hr1.frozen
    clear hbb hf hfl k1 k2
    by_cases h5 : i = 5
    · subst h5
      have e1 : rLow 5 (tol n g) (sh n (5 : Nat)) = -(tol n g / 2) := rfl
      have e2 : rHigh 5 (tol n g) (sh n (5 : Nat)) = tol n g / 2 := rfl
      go_wp2
      exact bodyPost_ret (v := .agg #[.int .i64 (-(tol n g / 2)), .int .i64 (tol n g / 2)]) (by simp [results, Tryz.results76, go_sem, hc1]) rfl ⟨by rw [← HR.out.1, ← HR.out.2, e1, e2], (hb3.setCell (by simp) _).setCell (by simp) _⟩
    · have hne : ((i : Int) == 5) = false := by simp; omega
      by_cases hlt : i < 5
      · have hlt' : (i : Int) < 5 := by omega
        have e1 : rLow i (tol n g) (sh n i) = -sh n i - tol n g := by unfold rLow; rw [if_pos hlt]
        have e2 : rHigh i (tol n g) (sh n i) = -sh n i := by unfold rHigh; rw [if_pos hlt]
        have E1 := Lib.hid e1; have E2 := Lib.hid e2
        clear e1 e2
        go_wp2
        exact bodyPost_ret (v := .agg #[.int .i64 (-sh n i - tol n g), .int .i64 (-sh n i)]) (by simp [results, Tryz.results76, go_sem, hc1]) rfl ⟨by rw [← HR.out.1, ← HR.out.2, E1.out, E2.out], (hb3.setCell (by simp) _).setCell (by simp) _⟩
      · have hge : ¬ (i : Int) < 5 := by omega
        have e1 : rLow i (tol n g) (sh n i) = sh n i := by unfold rLow; rw [if_neg hlt, if_neg h5]
        have e2 : rHigh i (tol n g) (sh n i) = sh n i + tol n g := by unfold rHigh; rw [if_neg hlt, if_neg h5]
        have E1 := Lib.hid e1; have E2 := Lib.hid e2
        clear e1 e2
        go_wp2
        exact bodyPost_ret (v := .agg #[.int .i64 (sh n i), .int .i64 (sh n i + tol n g)]) (by simp [results, Tryz.results76, go_sem, hc1]) rfl ⟨by rw [← HR.out.1, ← HR.out.2, E1.out, E2.out], (hb3.setCell (by simp) _).setCell (by simp) _⟩
end Go.Proofs.YtldghloflegpmaaGreatDoor

/- The walk of metrolablaw15.GradesGrows. -/
import Derived.Test.YteaopiogjlinbaaDoorBdA
namespace Go.Proofs.YteaopiogjlinbaaDoor
open Go.RowKit Pu Go.Lib

theorem bas_all : ∀ j, j < 8 → ∀ i, i < 8 → i ≤ j → bas i ≤ bas j := by decide
theorem bas_mono {i j : Nat} (h : i ≤ j) (hj : j < 8) : bas i ≤ bas j := bas_all j hj i (by omega) h
theorem fac_lt (i : Nat) (h : i < 7) : fac i + 3 ≤ fac (i + 1) := by
  have h7 : i = 0 ∨ i = 1 ∨ i = 2 ∨ i = 3 ∨ i = 4 ∨ i = 5 ∨ i = 6 := by omega
  rcases h7 with rfl | rfl | rfl | rfl | rfl | rfl | rfl <;> decide
theorem stp_mono {n m : Int} (h : n ≤ m) : stp n ≤ stp m := by
  unfold stp; (repeat' split) <;> omega
theorem tol_mono {n m g : Int} (h : n ≤ m) : tol n g ≤ tol m g := by
  have h1 : bs n ≤ bs m := bas_mono (stp_mono h) (stp_lt _)
  have h2 := fac_bd (g - 5).toNat
  have h3 : bs n * fac (g - 5).toNat ≤ bs m * fac (g - 5).toNat := Int.mul_le_mul_of_nonneg_right h1 (by omega)
  unfold tol; omega
theorem tol_grows {n g : Int} (h5 : 5 ≤ g) (h11 : g < 12) : tol n g < tol n (g + 1) := by
  have h1 := bs_bd n
  have h2 := fac_lt (g - 5).toNat (by omega)
  have e : (g + 1 - 5).toNat = (g - 5).toNat + 1 := by omega
  have h3 : bs n * (fac (g - 5).toNat + 3) ≤ bs n * fac ((g - 5).toNat + 1) := Int.mul_le_mul_of_nonneg_left h2 (by omega)
  rw [Int.mul_add] at h3
  unfold tol
  rw [e]
  omega

theorem Step_ok (n : Int) (w : World) (hz : zE n = 0) : Calls Tryd.prog 9 #[.int .i64 n] w fun e w' => e = .returned (.tuple #[.int .i64 (stp n), .int .i64 0]) ∧ Below w.heap.size w w' := by
  have := Step_c n w
  unfold twoV at this
  rw [hz, if_pos rfl] at this
  exact this

set_option maxHeartbeats 4000000 in
theorem grows_out (n m u : Int) (w : World) (h : n < 1 ∨ 100000 < n ∨ m < 0 ∨ 100000 - n < m) : Calls Tryd.prog 4 #[.int .i64 n, .int .i64 m, .int .u8 u] w fun e w' => e = .returned (.bool true) ∧ Below w.heap.size w w' := by
  by_cases h1 : n < 1
  · go_enter Tryd.func4, Tryd.ntmps4
    go_wp2_with fail
    refine (awake_c _).mono ?_
    rintro e w4 ⟨rfl, hbb⟩
    go_wp2
    go_ret
    exact ⟨rfl, hbb⟩
  · by_cases h2 : 100000 < n
    · go_enter Tryd.func4, Tryd.ntmps4
      go_wp2_with fail
      refine (awake_c _).mono ?_
      rintro e w4 ⟨rfl, hbb⟩
      go_wp2
      go_ret
      exact ⟨rfl, hbb⟩
    · by_cases h3 : m < 0
      · go_enter Tryd.func4, Tryd.ntmps4
        go_wp2_with fail
        refine (awake_c _).mono ?_
        rintro e w4 ⟨rfl, hbb⟩
        go_wp2
        go_ret
        exact ⟨rfl, hbb⟩
      · have h4 : 100000 - n < m := by omega
        clear h
        go_enter Tryd.func4, Tryd.ntmps4
        go_wp2_with fail
        refine (awake_c _).mono ?_
        rintro e w4 ⟨rfl, hbb⟩
        go_wp2
        go_ret
        exact ⟨rfl, hbb⟩

set_option maxHeartbeats 4000000 in
theorem grows_in (n m u : Int) (w : World) (h1 : 1 ≤ n) (h2 : n ≤ 100000) (h3 : 0 ≤ m) (h4 : m ≤ 100000 - n) (hu0 : 0 ≤ u) (hu : u ≤ 255) : Calls Tryd.prog 4 #[.int .i64 n, .int .i64 m, .int .u8 u] w fun e w' => e = .returned (.bool true) ∧ Below w.heap.size w w' := by
  obtain ⟨g, hg⟩ : ∃ g, g = 5 + u % 7 := ⟨_, rfl⟩
  have hg5 : 5 ≤ g := by omega
  have hg11 : g < 12 := by omega
  have hm := u.tmod_eq_emod_of_nonneg (b := 7) hu0
  have hz : zE n = 0 := zE_ok.2 ⟨h1, h2⟩
  have hz2 : zE (n + m) = 0 := zE_ok.2 ⟨by omega, by omega⟩
  have A1 := fun W => Tolerance_ok n g W hz hg5 (by omega)
  have A2 := fun W => Tolerance_ok n (g + 1) W hz (by omega) (by omega)
  have A3 := fun W => Tolerance_ok (n + m) g W hz2 hg5 (by omega)
  have A4 := fun W => Step_ok n W hz
  have A5 := fun W => Step_ok (n + m) W hz2
  have t1 : 0 < tol n g := by have := tol_bd n g; omega
  have t2 : tol n g < tol n (g + 1) := tol_grows hg5 hg11
  have t3 : tol n g ≤ tol (n + m) g := tol_mono (by omega)
  have t4 : (stp n : Int) ≤ (stp (n + m) : Int) := by have := stp_mono (n := n) (m := n + m) (by omega); omega
  have B1 := Lib.hid A1; have B2 := Lib.hid A2; have B3 := Lib.hid A3; have B4 := Lib.hid A4; have B5 := Lib.hid A5
  clear hz hz2 A1 A2 A3 A4 A5
  go_enter Tryd.func4, Tryd.ntmps4
  go_wp2_with fail
  simp only [← hg]
  clear hm hg
  refine (B1.out _).mono ?_
  rintro e w1 ⟨rfl, hbb⟩
  have hb1 := hbb
  clear hbb
  go_wp2_with fail
  refine (B2.out _).mono ?_
  rintro e w2 ⟨rfl, hbb⟩
  have hb2 := hb1.trans (hbb.mono hb1.size)
  clear hbb
  go_wp2_with fail
  refine (B3.out _).mono ?_
  rintro e w3 ⟨rfl, hbb⟩
  have hb3 := hb2.trans (hbb.mono hb2.size)
  clear hbb
  go_wp2_with fail
  refine (B4.out _).mono ?_
  rintro e w4 ⟨rfl, hbb⟩
  have hb4 := hb3.trans (hbb.mono hb3.size)
  clear hbb
  go_wp2_with fail
  refine (B5.out _).mono ?_
  rintro e w5 ⟨rfl, hbb⟩
  have hb5 := hb4.trans (hbb.mono hb4.size)
  clear hbb
  go_wp2_with fail
  refine (awake_c _).mono ?_
  rintro e w6 ⟨rfl, hbb⟩
  have hb6 := hb5.trans (hbb.mono hb5.size)
  go_wp2
  go_ret
  exact ⟨rfl, hb6⟩

theorem gradesGrows_c (n m u : Int) (w : World) (_ : (Lit.int .i64 n).wf = true) (_ : (Lit.int .i64 m).wf = true) (hu : (Lit.int .u8 u).wf = true) : Calls Tryd.prog 4 #[.int .i64 n, .int .i64 m, .int .u8 u] w fun e w' => e = .returned (.bool true) ∧ Below w.heap.size w w' := by
  have hu' : 0 ≤ u ∧ u ≤ 255 := by simpa [Lit.wf, IntKind.min, IntKind.max, IntKind.bits, IntKind.signed] using hu
  by_cases h : n < 1 ∨ 100000 < n ∨ m < 0 ∨ 100000 - n < m
  · exact grows_out n m u w h
  · exact grows_in n m u w (by omega) (by omega) (by omega) (by omega) hu'.1 hu'.2
end Go.Proofs.YteaopiogjlinbaaDoor

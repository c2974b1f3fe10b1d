/- Contract of package lexer: a denominator that divides 1000 is finite. -/
import Derived.Test.YtldghloflegpmaaGreatDoorRqC
namespace Go.Proofs.YtldghloflegpmaaGreatDoor
open Go.RowKit Go.Shelf Pu Go.Lib

/-- The number that a text has: what grows less. -/
def mS : Value → Nat
  | .string s => (Lib.decFrom 0 s.data.toList).getD 0
  | _ => 0
theorem mS_n (d : Nat) : mS (.string (nT d)) = d := by
  show (Lib.decFrom 0 (Lib.decDigits d)).getD 0 = d
  rw [dD_read]
  rfl
theorem n2 : Num ⟨#[50]⟩ 2 := by
  have := Num.of (u := 2) (by omega)
  rwa [show nT 2 = ⟨#[50]⟩ by unfold nT; rw [Lib.decDigits_one (by omega)]; rfl] at this
theorem n5 : Num ⟨#[53]⟩ 5 := by
  have := Num.of (u := 5) (by omega)
  rwa [show nT 5 = ⟨#[53]⟩ by unfold nT; rw [Lib.decDigits_one (by omega)]; rfl] at this
theorem only_one : ∀ d : Fin 1001, d.1 ∣ 1000 → d.1 % 2 ≠ 0 → d.1 % 5 ≠ 0 → d.1 = 1 := by decide +kernel

set_option maxRecDepth 100000 in
set_option maxHeartbeats 4000000 in
theorem finite_c (v : Nat) (w : World) (hv : v ∣ 1000) (hG : Gw w) :
    Calls Tryz.prog 90 #[.string (nT v)] w fun e w' => e = .returned (.tuple #[.bool true, .int .i64 0]) ∧ Below w.heap.size w w' := by
  go_enter Tryz.func90, Tryz.ntmps90
  go_wp2_with fail
  obtain ⟨B, hBd⟩ : ∃ B, w.heap.size = B := ⟨_, rfl⟩
  have hr0 := Row.new w #[.string ⟨#[50]⟩, .string ⟨#[53]⟩] 153
  have hb0 := (Below.refl _ w).alloc (Nat.le_refl _) (.cells #[.string ⟨#[50]⟩, .string ⟨#[53]⟩] 153)
  rw [hBd] at hr0 ⊢
  generalize w.alloc (.cells #[.string ⟨#[50]⟩, .string ⟨#[53]⟩] 153) = w1 at *
  have hc := hr0.cell
  refine wp_loop_rounds 3 ?_
  rw [rounds_succ]
  go_wp2_with fail
  go_loopw [0] (fun p wr => ∃ d : Nat, p = .string (nT d) ∧ d ∣ 1000 ∧ Row wr B #[.string ⟨#[50]⟩, .string ⟨#[53]⟩] 153 ∧ Below w.heap.size w wr) (fun p _ => mS p)
  case atStart => exact ⟨v, rfl, hv, hr0, hBd ▸ hb0⟩
  case round =>
    obtain ⟨d, rfl, hd, hr, hb⟩ := hrel
    have hd0 : d ≠ 0 := by rintro rfl; simp at hd
    have hdl : d ≤ 1000 := Nat.le_of_dvd (by omega) hd
    have hGr := hG.next hb
    go_wp2_with fail
    refine (Rem_c (nT d) ⟨#[50]⟩ d 2 _ (Num.of (by omega)) n2 (by omega) hGr).mono ?_
    rintro e w3 ⟨rfl, hbb⟩
    have hr := hr.next hbb
    have hb3 := hb.trans (hbb.mono hb.size)
    clear hbb
    have hGr := hG.next hb3
    by_cases hz : d % 2 = 0
    · rw [hz, nT_zero]
      have hq : d / 2 ∣ 1000 := Nat.dvd_trans (Nat.div_dvd_of_dvd (Nat.dvd_of_mod_eq_zero hz)) hd
      have hlt : d / 2 < d := Nat.div_lt_self (by omega) (by omega)
      skip
      go_wp2_with fail
      refine (Quo_c (nT d) ⟨#[50]⟩ d 2 _ (Num.of (by omega)) n2 (by omega) hGr).mono ?_
      rintro e w4 ⟨rfl, hbb⟩
      have hr := hr.next hbb
      have hb4 := hb3.trans (hbb.mono hb3.size)
      clear hbb
      obtain ⟨q, eq⟩ : ∃ q, d / 2 = q := ⟨_, rfl⟩
      rw [eq] at hq hlt ⊢
      clear eq hz
      go_wp2
      go_roundw
      case rel => exact ⟨q, rfl, hq, hr, hb4⟩
      case measure => rw [mS_n, mS_n]; exact hlt
    · have nz := Num.of (u := d % 2) (by omega)
      have hne := mt nz.zero.1 hz
      have hbe : ((nT (d % 2)).toList == [48]) = false := by simpa using hne
      clear nz
      obtain ⟨r, er⟩ : ∃ r, nT (d % 2) = r := ⟨_, rfl⟩
      rw [er] at hne hbe ⊢
      clear er
      go_wp2_with fail
      rw [rounds_succ]
      have hc := hr.cell
      go_wp2_with fail
      go_loopw [0] (fun p wr => ∃ d : Nat, p = .string (nT d) ∧ d ∣ 1000 ∧ d % 2 ≠ 0 ∧ Row wr B #[.string ⟨#[50]⟩, .string ⟨#[53]⟩] 153 ∧ Below w.heap.size w wr) (fun p _ => mS p)
      case atStart => exact ⟨d, rfl, hd, hz, hr, hb3⟩
      case round =>
        obtain ⟨d, rfl, hd, h2, hr, hb⟩ := hrel
        have hd0 : d ≠ 0 := by rintro rfl; simp at hd
        have hdl : d ≤ 1000 := Nat.le_of_dvd (by omega) hd
        have hGr := hG.next hb
        go_wp2_with fail
        refine (Rem_c (nT d) ⟨#[53]⟩ d 5 _ (Num.of (by omega)) n5 (by omega) hGr).mono ?_
        rintro e w3 ⟨rfl, hbb⟩
        have hr := hr.next hbb
        have hb3 := hb.trans (hbb.mono hb.size)
        clear hbb
        have hGr := hG.next hb3
        by_cases hz : d % 5 = 0
        · rw [hz, nT_zero]
          have hq : d / 5 ∣ 1000 := Nat.dvd_trans (Nat.div_dvd_of_dvd (Nat.dvd_of_mod_eq_zero hz)) hd
          have hlt : d / 5 < d := Nat.div_lt_self (by omega) (by omega)
          have h2 : d / 5 % 2 ≠ 0 := by omega
          go_wp2_with fail
          refine (Quo_c (nT d) ⟨#[53]⟩ d 5 _ (Num.of (by omega)) n5 (by omega) hGr).mono ?_
          rintro e w4 ⟨rfl, hbb⟩
          have hr := hr.next hbb
          have hb4 := hb3.trans (hbb.mono hb3.size)
          clear hbb
          obtain ⟨q, eq⟩ : ∃ q, d / 5 = q := ⟨_, rfl⟩
          rw [eq] at hq hlt h2 ⊢
          clear eq hz
          go_wp2
          go_roundw
          case rel => exact ⟨q, rfl, hq, h2, hr, hb4⟩
          case measure => rw [mS_n, mS_n]; exact hlt
        · have nz := Num.of (u := d % 5) (by omega)
          have hne := mt nz.zero.1 hz
          have hbe : ((nT (d % 5)).toList == [48]) = false := by simpa using hne
          clear nz
          obtain ⟨r, er⟩ : ∃ r, nT (d % 5) = r := ⟨_, rfl⟩
          rw [er] at hne hbe ⊢
          clear er
          have d1 : d = 1 := only_one ⟨d, by omega⟩ hd h2 hz
          subst d1
          rw [nT_one] at *
          go_wp2_with fail
          rw [rounds_succ]
          go_wp2
          go_ret2
          exact ⟨rfl, hb3⟩
end Go.Proofs.YtldghloflegpmaaGreatDoor

/- Contracts of the reference for grades: digits, Format. -/
import Derived.Test.YtldghloflegpmaaGreatDoorRfC
import Derived.Test.YtldghloflegpmaaGreatDoorPaB
import Derived.Test.YtldghloflegpmaaGreatDoorRo2
import Derived.Deep.QuietTactic
import Derived.BigQuiet
namespace Go.Proofs.YtldghloflegpmaaGreatDoor
open Go.RowKit Pu Go.Lib

theorem dec_one (k : Nat) (h : k < 10) : (ByteArray.mk #[48, 49, 50, 51, 52, 53, 54, 55, 56, 57]).extract k (k + 1) = ⟨(Lib.decDigits k).toArray⟩ := by
  rw [Lib.decDigits, dif_pos h]
  match k, h with
  | 0, _ => rfl
  | 1, _ => rfl
  | 2, _ => rfl
  | 3, _ => rfl
  | 4, _ => rfl
  | 5, _ => rfl
  | 6, _ => rfl
  | 7, _ => rfl
  | 8, _ => rfl
  | 9, _ => rfl
theorem dig_at (k : Nat) (h : k < 10) : (ByteArray.mk #[48, 49, 50, 51, 52, 53, 54, 55, 56, 57]).extract k (k + 1) = ⟨#[UInt8.ofNat (48 + k)]⟩ := by
  rw [dec_one k h, Lib.decDigits, dif_pos h]
theorem dec_two (k : Nat) (h : k < 3) : Lib.decDigits (10 + k) = [49, UInt8.ofNat (48 + k)] := by
  rw [Lib.decDigits, dif_neg (by omega), show (10 + k) / 10 = 1 by omega, show (10 + k) % 10 = k by omega, Lib.decDigits, dif_pos (by omega)]
  rfl
theorem caps_at (i : Nat) (h : i < 10) : (ByteArray.mk #[68, 69, 70, 71, 72, 74, 75, 77, 78, 80]).extract i (i + 1) = ⟨#[cpL i]⟩ :=
  match i, h with
  | 0, _ => by decide
  | 1, _ => by decide
  | 2, _ => by decide
  | 3, _ => by decide
  | 4, _ => by decide
  | 5, _ => by decide
  | 6, _ => by decide
  | 7, _ => by decide
  | 8, _ => by decide
  | 9, _ => by decide
theorem two_bytes (r : Nat) (h : r < 3) : (⟨#[49]⟩ : ByteArray) ++ ⟨#[48 + UInt8.ofNat r]⟩ = ⟨[49, UInt8.ofNat (48 + r)].toArray⟩ :=
  match r, h with
  | 0, _ => rfl
  | 1, _ => rfl
  | 2, _ => rfl
theorem ret_one {a b : ByteArray} (h : a = b) : Ending.returned (.string a) = .returned (.string b) := by rw [h]

set_option maxHeartbeats 2000000 in
theorem digits_low (k : Nat) (w : World) (hk : k < 10) : Calls Tryz.prog 149 #[.int .i64 (k : Int)] w fun e w' => e = .returned (.string ⟨(Lib.decDigits k).toArray⟩) ∧ ∃ m, w' = w.drewN m := by
  have h1 : (k : Int) < 10 := by omega
  have h2 : (k : Int) ≤ (k : Int) + 1 := by omega
  have h3 : (k : Int) + 1 ≤ 10 := by omega
  have hx := Lib.hid (dec_one k hk)
  go_enter Tryz.func149, Tryz.ntmps149
  go_wp2
  go_ret
  exact ⟨ret_one hx.out, 0, rfl⟩
set_option maxHeartbeats 2000000 in
theorem digits_high (n : Int) (r : Nat) (w : World) (hk1 : 10 ≤ n) (hk : n < 13) (hr : n = 10 + r) : Calls Tryz.prog 149 #[.int .i64 n] w fun e w' => e = .returned (.string ⟨(Lib.decDigits (10 + r)).toArray⟩) ∧ ∃ m, w' = w.drewN m := by
  have h1 : ¬ n < 10 := by omega
  have q1 := Int.tdiv_eq_ediv_of_nonneg (a := n) (b := 10) (by omega)
  have q2 := Int.tmod_eq_emod_of_nonneg (a := n) (b := 10) (by omega)
  have h2 : n / 10 = 1 := by omega
  have h3 : n % 10 = (r : Int) := by omega
  have hr0 : (0 : Int) ≤ (r : Int) := by omega
  have hr1 : (r : Int) ≤ (r : Int) + 1 := by omega
  have hr2 : (r : Int) + 1 ≤ 10 := by omega
  have hx1 := dig_at r (by omega)
  have hx2 := dig_at 1 (by omega)
  have hd := Lib.hid (dec_two r (by omega))
  have hr3 : r < 3 := by omega
  clear hr
  go_enter Tryz.func149, Tryz.ntmps149
  go_wp2_with fail
  go_region
  go_wp2
  go_ret
  exact ⟨ret_one (by rw [hd.out]; exact two_bytes r hr3), 1, rfl⟩
/-- The digits of a grade. -/
theorem digits_c (g : Int) (w : World) (h5 : 5 ≤ g) (h12 : g ≤ 12) : Calls Tryz.prog 149 #[.int .i64 g] w fun e w' => e = .returned (.string ⟨(Lib.decDigits g.toNat).toArray⟩) ∧ ∃ m, w' = w.drewN m := by
  by_cases h : g < 10
  · obtain ⟨k, rfl⟩ : ∃ k : Nat, g = (k : Int) := ⟨g.toNat, by omega⟩
    exact digits_low k w (by omega)
  · obtain ⟨r, hr⟩ : ∃ r : Nat, g = 10 + (r : Int) := ⟨(g - 10).toNat, by omega⟩
    have := digits_high g r w (by omega) (by omega) hr
    rw [show g.toNat = 10 + r by omega]
    exact this

set_option maxRecDepth 100000 in
set_option maxHeartbeats 2000000 in
theorem rFormat_ok (h : Bool) (l g : Int) (w : World) (hl0 : 0 ≤ l) (hl9 : l ≤ 9) (h5 : 5 ≤ g) (h12 : g ≤ 12) : Calls Tryz.prog 100 #[.agg #[.bool h, .int .i64 l, .int .i64 g]] w
    fun e w' => e = .returned (.tuple #[.string ⟨(fmtL h l g).toArray⟩, .int .i64 0]) ∧ Below w.heap.size w w' := by
  obtain ⟨i, rfl⟩ : ∃ i : Nat, l = (i : Int) := ⟨l.toNat, by omega⟩
  have hi : i < 10 := by omega
  have hsm := small_at i hi
  have hcp := caps_at i hi
  have hdg := fun W => digits_c g W h5 h12
  have hd2 := dec_len (show g.toNat < 100 by omega)
  have hd9 : ¬ 9223372036854775807 < 1 + (Lib.decDigits g.toNat).length := by omega
  have hfm : fmtL h (i : Int) g = (if h then cpL i else smL i) :: Lib.decDigits g.toNat := rfl
  have HF := Lib.hid hfm
  generalize Lib.decDigits g.toNat = D at *
  have HG := Lib.hid hdg
  have hz : cE (i : Int) g = 0 := cE_ok.2 ⟨⟨hl0, hl9⟩, h5, h12⟩
  have Hz := Lib.hid hz
  have hi1 : (i : Int) ≤ (i : Int) + 1 := by omega
  have hi2 : (i : Int) + 1 ≤ 10 := by omega
  have hi3 : (0 : Int) ≤ (i : Int) + 1 := by omega
  have hw : IntKind.i64.wrap ((i : Int) + 1) = (i : Int) + 1 := by rw [IntWalk.i64_in _ (by omega)]
  clear hdg hz hd2 hfm
  cases h
  · go_enter Tryz.func100, Tryz.ntmps100
    go_wp2_with fail
    refine (rCheck_c _ _ _ _).mono ?_
    rintro e w2 ⟨rfl, hbb⟩
    rw [Hz.out]
    have hr0 := (Row.new w #[.bool false, .int .i64 i, .int .i64 g] 47).next hbb
    have hb2 := ((Below.refl _ w).alloc (Nat.le_refl _) (.cells #[.bool false, .int .i64 i, .int .i64 g] 47)).trans (hbb.mono (by simp))
    clear hbb
    have hc0 := hr0.cell
    go_wp2_with fail
    go_quiet ((go_at_call 149; exact Calls.quiet_of (HG.out _)))
    go_wp2
    go_ret2
    exact ⟨ret_str (by rw [cons_bytes, HF.out]; rfl), hb2.trans ⟨rfl, rfl, rfl, Nat.le_refl _, fun _ _ => rfl⟩⟩
  · go_enter Tryz.func100, Tryz.ntmps100
    go_wp2_with fail
    refine (rCheck_c _ _ _ _).mono ?_
    rintro e w2 ⟨rfl, hbb⟩
    rw [Hz.out]
    have hr0 := (Row.new w #[.bool true, .int .i64 i, .int .i64 g] 47).next hbb
    have hb2 := ((Below.refl _ w).alloc (Nat.le_refl _) (.cells #[.bool true, .int .i64 i, .int .i64 g] 47)).trans (hbb.mono (by simp))
    clear hbb
    have hc0 := hr0.cell
    go_wp2_with fail
    go_quiet ((go_at_call 149; exact Calls.quiet_of (HG.out _)))
    go_wp2
    go_ret2
    exact ⟨ret_str (by rw [cons_bytes, HF.out]; rfl), hb2.trans ⟨rfl, rfl, rfl, Nat.le_refl _, fun _ _ => rfl⟩⟩

set_option maxHeartbeats 1000000 in
theorem rFormat_err (h : Bool) (l g x : Int) (w : World) (hc : cE l g = x) (hx : (x == 0) = false) : Calls Tryz.prog 100 #[.agg #[.bool h, .int .i64 l, .int .i64 g]] w
    fun e w' => e = .returned (.tuple #[.string ⟨#[]⟩, .int .i64 x]) ∧ Below w.heap.size w w' := by
  have Hc := Lib.hid hc
  clear hc
  go_enter Tryz.func100, Tryz.ntmps100
  go_wp2_with fail
  refine (rCheck_c _ _ _ _).mono ?_
  rintro e w2 ⟨rfl, hbb⟩
  rw [Hc.out]
  have hb2 := ((Below.refl _ w).alloc (Nat.le_refl _) (.cells #[.bool h, .int .i64 l, .int .i64 g] 47)).trans (hbb.mono (by simp))
  go_wp2
  go_ret2
  exact ⟨rfl, hb2⟩
theorem rFormat_c (h : Bool) (l g : Int) (w : World) : Calls Tryz.prog 100 #[.agg #[.bool h, .int .i64 l, .int .i64 g]] w fun e w' => e = .returned (fmtV h l g) ∧ Below w.heap.size w w' := by
  unfold fmtV
  by_cases hc : cE l g = 0
  · rw [if_pos hc]
    obtain ⟨⟨a, b⟩, c, d⟩ := cE_ok.1 hc
    exact rFormat_ok h l g w a b c d
  · rw [if_neg hc]
    exact rFormat_err h l g _ w rfl (cE_ne hc)
end Go.Proofs.YtldghloflegpmaaGreatDoor

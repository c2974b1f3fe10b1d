/- The walk of metrolablaw15.GradesReturns. -/
import Derived.Test.YteaopiogjlinbaaGreatDoorIx
import Derived.Test.YteaopiogjlinbaaGreatDoorMiA
namespace Go.Proofs.YteaopiogjlinbaaGreatDoor
open Go.RowKit Pu Go.Lib

set_option maxHeartbeats 2000000 in
theorem returns_out (n : Int) (h : Bool) (l g : Int) (w : World) (hd : rgt n l g = false) : Calls Tryz.prog 8 #[.int .i64 n, .agg #[.bool h, .int .i64 l, .int .i64 g]] w fun e w' => e = .returned (.bool true) ∧ Below w.heap.size w w' := by
  have HD := Lib.hid hd
  clear hd
  go_enter Tryz.func8, Tryz.ntmps8
  go_wp2_with fail
  refine (right_c _ _ _ _ _).mono ?_
  rintro e w1 ⟨rfl, hbb⟩
  rw [HD.out]
  have hb1 := ((Below.refl _ w).alloc (Nat.le_refl _) (.cells #[.bool h, .int .i64 l, .int .i64 g] 23)).trans (hbb.mono (by simp))
  clear hbb
  go_wp2_with fail
  refine (awake_c _).mono ?_
  rintro e w2 ⟨rfl, hbb⟩
  go_wp2
  go_ret
  exact ⟨rfl, hb1.trans (hbb.mono hb1.size)⟩

theorem Parse_back (k : Fin 160) (t : ByteArray) (ht : t = ⟨(fmtL (kH k) (kL k) (kG k)).toArray⟩) (w : World) : Calls Tryz.prog 18 #[.string t] w fun e w' => e = .returned (.tuple #[.agg #[.bool (kH k), .int .i64 (kL k), .int .i64 (kG k)], .int .i64 0]) ∧ Below w.heap.size w w' := by
  subst ht
  have hl : (fmtL (kH k) (kL k) (kG k)).length ≤ 3 := by
    have hb := k_bd k
    have := dec_len (show (kG k).toNat < 100 by omega)
    unfold fmtL; simp; omega
  have := Parse_c ⟨(fmtL (kH k) (kL k) (kG k)).toArray⟩ w (by simp [ByteArray.size]; omega)
  rw [show (ByteArray.mk (fmtL (kH k) (kL k) (kG k)).toArray).data.toList = fmtL (kH k) (kL k) (kG k) from rfl, back_k] at this
  exact this

set_option maxHeartbeats 4000000 in
theorem returns_in (n : Int) (k : Fin 160) (w : World) (hz : zE n = 0) : Calls Tryz.prog 8 #[.int .i64 n, .agg #[.bool (kH k), .int .i64 (kL k), .int .i64 (kG k)]] w fun e w' => e = .returned (.bool true) ∧ Below w.heap.size w w' := by
  obtain ⟨l0, l9, g5, g12⟩ := k_bd k
  have hc : cE (kL k) (kG k) = 0 := cE_ok.2 ⟨⟨l0, l9⟩, g5, g12⟩
  have hd : dE n (kL k) (kG k) = 0 := by unfold dE; rw [if_pos hz, hc]
  have hr : rgt n (kL k) (kG k) = true := by unfold rgt; rw [hd]; rfl
  obtain ⟨t, ht⟩ : ∃ t : ByteArray, t = ⟨(fmtL (kH k) (kL k) (kG k)).toArray⟩ := ⟨_, rfl⟩
  have A1 := fun W => Format_ok (kH k) (kL k) (kG k) W l0 l9 g5 g12
  rw [← ht] at A1
  have A2 := fun W => Parse_back k t ht W
  have A3 := fun W => Deviations_ok' n (kL k) (kG k) (kH k) W hd
  have A4 := fun W => Find_ok n (dLow n (kH k) (kL k) (kG k)) (dHigh n (kH k) (kL k) (kG k)) W hz
  have hm := mem_fnd n k
  have hln := fnd_len n (dLow n (kH k) (kL k) (kG k)) (dHigh n (kH k) (kL k) (kG k))
  generalize dLow n (kH k) (kL k) (kG k) = a at *
  generalize dHigh n (kH k) (kL k) (kG k) = b at *
  generalize fndK n a b allK = ks at *
  have A5 := fun B v W ho => Contains_c B v ks k W hln hm ho
  have HR := Lib.hid hr
  have B1 := Lib.hid A1; have B2 := Lib.hid A2; have B3 := Lib.hid A3; have B4 := Lib.hid A4; have B5 := Lib.hid A5
  clear hz hc hd hr ht A1 A2 A3 A4 A5 hm hln l0 l9 g5 g12
  generalize kH k = xh at *
  generalize kL k = xl at *
  generalize kG k = xg at *
  go_enter Tryz.func8, Tryz.ntmps8
  go_wp2_with fail
  refine (right_c _ _ _ _ _).mono ?_
  rintro e w1 ⟨rfl, hbb⟩
  rw [HR.out]
  have hr0 := (Row.new w #[.bool xh, .int .i64 xl, .int .i64 xg] 23).next hbb
  have hb1 := ((Below.refl _ w).alloc (Nat.le_refl _) (.cells #[.bool xh, .int .i64 xl, .int .i64 xg] 23)).trans (hbb.mono (by simp))
  clear hbb
  have hc0 := hr0.cell
  go_wp2_with fail
  refine (B1.out _).mono ?_
  rintro e w2 ⟨rfl, hbb⟩
  have hr0 := hr0.next hbb
  have hb2 := hb1.trans (hbb.mono hb1.size)
  clear hbb hc0
  go_wp2_with fail
  refine (B2.out _).mono ?_
  rintro e w3 ⟨rfl, hbb⟩
  have hr0 := hr0.next hbb
  have hb3 := hb2.trans (hbb.mono hb2.size)
  clear hbb
  have hcA := hr0.cellA
  go_wp2_with fail
  refine (B3.out _).mono ?_
  rintro e w4 ⟨rfl, hbb⟩
  clear hcA
  have hr0 := (hr0.alloc _).next hbb
  have hr1 := (Row.new w3 #[.bool xh, .int .i64 xl, .int .i64 xg] 23).next hbb
  have hb4 := (hb3.alloc hb3.size (.cells #[.bool xh, .int .i64 xl, .int .i64 xg] 23)).trans (hbb.mono (by simp; have := hb3.size; omega))
  clear hbb
  go_wp2_with fail
  refine (B4.out _).mono ?_
  rintro e w5 ⟨v, rfl, ho, hbb⟩
  have hr0 := (hr0.alloc _).next hbb
  have hr1 := (hr1.alloc _).next hbb
  have hb5 := (hb4.alloc hb4.size (.cells #[.int .i64 a, .int .i64 b] 39)).trans (hbb.mono (by simp; have := hb4.size; omega))
  clear hbb
  have hc0 := hr0.cell
  have hc1 := hr1.cell
  go_wp2_with fail
  refine (B5.out _ _ _ ho).mono ?_
  rintro e w6 ⟨rfl, hbb⟩
  have hb6 := hb5.trans (hbb.mono hb5.size)
  clear hbb hc0 hc1
  go_wp2_with fail
  refine (awake_c _).mono ?_
  rintro e w7 ⟨rfl, hbb⟩
  have hb7 := hb6.trans (hbb.mono hb6.size)
  go_wp2
  go_ret
  exact ⟨rfl, hb7⟩

theorem gradesReturns_c (n : Int) (h : Bool) (l g : Int) (w : World) (_ : (Lit.int .i64 n).wf = true) (_ : (Lit.int .i64 l).wf = true) (_ : (Lit.int .i64 g).wf = true) : Calls Tryz.prog 8 #[.int .i64 n, .agg #[.bool h, .int .i64 l, .int .i64 g]] w fun e w' => e = .returned (.bool true) ∧ Below w.heap.size w w' := by
  by_cases hd : dE n l g = 0
  · obtain ⟨hn, ⟨l0, l9⟩, g5, g12⟩ := dE_ok.1 hd
    obtain ⟨k, rfl, rfl, rfl⟩ := k_of (h := h) l0 l9 g5 g12
    exact returns_in n k w (zE_ok.2 hn)
  · exact returns_out n h l g w (by unfold rgt; simpa using hd)
end Go.Proofs.YteaopiogjlinbaaGreatDoor

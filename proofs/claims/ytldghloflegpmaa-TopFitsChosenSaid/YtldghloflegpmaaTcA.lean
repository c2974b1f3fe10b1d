/- The walk of TopFitsChosen. -/
import Derived.Test.YtldghloflegpmaaTcP
import Derived.Test.YtldghloflegpmaaTpA
import Derived.Test.YtldghloflegpmaaDmA
namespace Go.Proofs.Ytldghloflegpmaa
open Go.RowKit Pu Go.Lib

theorem Size_c (n : Int) (w : World) : Calls Try.prog 4 #[.int .i64 n] w fun e w' => e = .returned (.int .i64 (zE n)) ∧ w = w' := by
  by_cases h1 : n < 1
  · have h : zE n = 2 := by unfold zE; rw [if_pos (Or.inl h1)]
    rw [h]; clear h
    go_enter Try.func4, Try.ntmps4
    go_wp2
    go_ret
    exact ⟨rfl, rfl⟩
  · by_cases h2 : 100000 < n
    · have h : zE n = 2 := by unfold zE; rw [if_pos (Or.inr h2)]
      rw [h]; clear h
      go_enter Try.func4, Try.ntmps4
      go_wp2
      go_ret
      exact ⟨rfl, rfl⟩
    · have h : zE n = 0 := by unfold zE; rw [if_neg (by omega)]
      rw [h]; clear h
      go_enter Try.func4, Try.ntmps4
      go_wp2
      go_ret
      exact ⟨rfl, rfl⟩


abbrev limC (a b : Int) : Array Value := #[.int .i64 a, .int .i64 b]
set_option maxRecDepth 100000 in
set_option maxHeartbeats 4000000 in
theorem topFitsChosen_c (n lo hi a0 a1 : Int) (w : World) (_h0 : 0 ≤ a0 ∧ a0 ≤ 65535) (_h1 : 0 ≤ a1 ∧ a1 ≤ 65535) :
    Calls Try.prog 3 #[.int .i64 n, .agg (limC lo hi), .agg #[.int .u16 a0, .int .u16 a1]] w fun e w' => e = .returned (.bool true) ∧ Below w.heap.size w w' := by
  obtain ⟨V, hV⟩ : ∃ V, (w.alloc (.cells (limC lo hi) 23)).alloc (.cells #[.int .u16 a0, .int .u16 a1] 25) = V := ⟨_, rfl⟩
  have rL : Row V w.heap.size (limC lo hi) 23 := by rw [← hV]; exact (Row.new w _ _).alloc _
  have rA : Row V (w.heap.size + 1) #[.int .u16 a0, .int .u16 a1] 25 := by
    rw [← hV]
    have := Row.new (w.alloc (.cells (limC lo hi) 23)) #[.int .u16 a0, .int .u16 a1] 25
    simpa using this
  have hB : Below w.heap.size w V := by rw [← hV]; exact ((Below.refl _ w).alloc (Nat.le_refl _) _).alloc (by simp) _
  have cL := rL.cell
  by_cases hz : zE n = 0
  case neg =>
    have h2 := zE_two hz
    have Hz := Lib.hid h2
    clear hz h2
    go_enter Try.func3, Try.ntmps3
    go_wp2_with fail
    refine (Size_c _ _).mono ?_
    rintro e w2 ⟨rfl, rfl⟩
    rw [Hz.out]
    go_wp2_with fail
    refine (runFits_c _).mono ?_
    rintro e w3 ⟨rfl, hb3⟩
    go_wp2
    go_ret
    exact ⟨rfl, hB.trans (hb3.mono hB.size)⟩
  have Hz := Lib.hid hz
  by_cases hl : lim17 lo hi = 0
  case neg =>
    have Hl : (lim17 lo hi == 0) = false := by simpa using hl
    clear hz hl
    go_enter Try.func3, Try.ntmps3
    go_wp2_with fail
    refine (Size_c _ _).mono ?_
    rintro e w2 ⟨rfl, rfl⟩
    rw [Hz.out]
    go_wp2_with fail
    refine (rCheck17_c _ _ _).mono ?_
    rintro e w2 ⟨rfl, hb2⟩
    go_wp2_with fail
    refine (runFits_c _).mono ?_
    rintro e w3 ⟨rfl, hb3⟩
    go_wp2
    go_ret
    exact ⟨rfl, hB.trans ((bt hb2 hb3).mono hB.size)⟩
  obtain ⟨⟨l1, l2⟩, ⟨l3, l4⟩, l5⟩ := lim17_ok.1 hl
  have Hl := Lib.hid hl
  clear hz hl
  go_enter Try.func3, Try.ntmps3
  go_wp2_with fail
  refine (Size_c _ _).mono ?_
  rintro e w2 ⟨rfl, rfl⟩
  rw [Hz.out]
  go_wp2_with fail
  refine (rCheck17_c _ _ _).mono ?_
  rintro e w2 ⟨rfl, hbb⟩
  rw [Hl.out]
  have rL := rL.next hbb
  have rA := rA.next hbb
  have hB := hB.trans (hbb.mono hB.size)
  clear hbb cL hV
  have cL := rL.cell
  go_wp2_with fail
  refine (Choose_ok n lo hi _ Hz.out l1 l2 l3 l4 l5).mono ?_
  rintro e w3 ⟨rfl, hbb⟩
  have rL := rL.next hbb
  have rA := rA.next hbb
  have hB := hB.trans (hbb.mono hB.size)
  clear hbb cL
  by_cases hc : (chC n lo hi (allB.filter (okB n))).2 < 0
  case pos =>
    rw [chosen_not hc]
    clear hc
    go_wp2_with fail
    refine (runFits_c _).mono ?_
    rintro e w4 ⟨rfl, hbb⟩
    go_wp2
    go_ret
    exact ⟨rfl, (hB.alloc hB.size _).trans (hbb.mono (hB.alloc hB.size _).size)⟩
  obtain ⟨h, l, g, mH, sL, sH, hv, hf, c1, c2, c3, c4, b1, b2, b3, b4, b5, b6, b7, b8, p1, p2⟩ := chosen_is hc
  rw [hv]
  have vL : fLimV n true 4 h false l g = .tuple #[.agg #[.int .i64 n, .int .i64 mH], .agg #[.int .i64 sL, .int .i64 sH], .int .i64 0] := by unfold fLimV twoL; rw [if_pos hf, c1, c2, c3, c4]
  have vC : pairV (pLow n true 4 h false l g) (pHigh n true 4 h false l g) (fE n true 4 h false l g) = .tuple #[.agg #[.int .i64 (n - sH), .int .i64 (mH - sL)], .int .i64 0] := by rw [p1, p2, hf]; rfl
  have VL := Lib.hid vL
  have VC := Lib.hid vC
  have HF := Lib.hid hf
  have HC := Lib.hid (And.intro c1 (And.intro c2 (And.intro c3 c4)))
  clear hc hv vL vC p1 p2 hf c1 c2 c3 c4
  have rF := Row.new w3 (fitC n true 4 h false l g) 32
  have rL := rL.alloc (.cells (fitC n true 4 h false l g) 32)
  have rA := rA.alloc (.cells (fitC n true 4 h false l g) 32)
  have hB := hB.alloc hB.size (.cells (fitC n true 4 h false l g) 32)
  have cF := rF.cell
  go_wp2_with fail
  refine (fLimits_c n true 4 h false l g _).mono ?_
  rintro e w4 ⟨rfl, hbb⟩
  rw [VL.out]
  obtain ⟨Bf, hBf⟩ : ∃ Bf, w3.heap.size = Bf := ⟨_, rfl⟩
  rw [hBf] at rF
  have hfb : w.heap.size ≤ Bf := by rw [← hBf]; have := rL.lt; have := hB.size; simp at *; omega
  rw [hBf]
  have rF := rF.next hbb
  have rL := rL.next hbb
  have rA := rA.next hbb
  have hB := hB.trans (hbb.mono hB.size)
  clear hbb cF hBf
  have rH := (Row.new w4 #[.int .i64 n, .int .i64 mH] 23).alloc (.cells #[.int .i64 sL, .int .i64 sH] 23)
  have rS := Row.new (w4.alloc (.cells #[.int .i64 n, .int .i64 mH] 23)) #[.int .i64 sL, .int .i64 sH] 23
  simp only [World.size_alloc] at rS
  have rF := (rF.alloc (.cells #[.int .i64 n, .int .i64 mH] 23)).alloc (.cells #[.int .i64 sL, .int .i64 sH] 23)
  have rL := (rL.alloc (.cells #[.int .i64 n, .int .i64 mH] 23)).alloc (.cells #[.int .i64 sL, .int .i64 sH] 23)
  have rA := (rA.alloc (.cells #[.int .i64 n, .int .i64 mH] 23)).alloc (.cells #[.int .i64 sL, .int .i64 sH] 23)
  have hB := hB.alloc hB.size (.cells #[.int .i64 n, .int .i64 mH] 23)
  have hB := hB.alloc hB.size (.cells #[.int .i64 sL, .int .i64 sH] 23)
  have cF := rF.cell
  go_wp2_with fail
  refine (Clearance_c n true 4 h false l g _).mono ?_
  rintro e w5 ⟨rfl, hbb⟩
  rw [VC.out]
  have rF := (rF.next hbb).alloc (.cells #[.int .i64 (n - sH), .int .i64 (mH - sL)] 23)
  have rL := (rL.next hbb).alloc (.cells #[.int .i64 (n - sH), .int .i64 (mH - sL)] 23)
  have rA := (rA.next hbb).alloc (.cells #[.int .i64 (n - sH), .int .i64 (mH - sL)] 23)
  have rH := (rH.next hbb).alloc (.cells #[.int .i64 (n - sH), .int .i64 (mH - sL)] 23)
  have rS := (rS.next hbb).alloc (.cells #[.int .i64 (n - sH), .int .i64 (mH - sL)] 23)
  have hB := hB.trans (hbb.mono hB.size)
  have hB := hB.alloc hB.size (.cells #[.int .i64 (n - sH), .int .i64 (mH - sL)] 23)
  clear hbb cF
  have cL := rL.cell
  go_wp2_with fail
  refine (Inside_ok (n - sH) (mH - sL) lo hi _ (by omega) (by omega) (by omega) l1 l5 l4 (by omega) (by omega)).mono ?_
  rintro e w6 ⟨rfl, hbb⟩
  have rF := rF.next hbb
  have rL := rL.next hbb
  have rA := rA.next hbb
  have rH := rH.next hbb
  have rS := rS.next hbb
  have hB := hB.trans (hbb.mono hB.size)
  clear hbb cL
  have cF := rF.cell
  have cH := rH.cell
  have cS := rS.cell
  have H1 := Lib.hid (lim17_ok.2 ⟨⟨(by omega : -100000 ≤ n), (by omega : n ≤ 100000)⟩, ⟨(by omega : -100000 ≤ mH), b3⟩, b2⟩)
  have H2 := Lib.hid (lim17_ok.2 ⟨⟨(by omega : -100000 ≤ sL), (by omega : sL ≤ 100000)⟩, ⟨(by omega : -100000 ≤ sH), b6⟩, b5⟩)
  go_wp2_with fail
  refine (rCheck17_c n mH _).mono ?_
  rintro e w7 ⟨rfl, hbb⟩
  rw [H1.out]
  have rF := rF.next hbb
  have rL := rL.next hbb
  have rA := rA.next hbb
  have rH := rH.next hbb
  have rS := rS.next hbb
  have hB := hB.trans (hbb.mono hB.size)
  clear hbb cF cH cS
  have cS := rS.cell
  go_wp2_with fail
  refine (rCheck17_c sL sH _).mono ?_
  rintro e w8 ⟨rfl, hbb⟩
  rw [H2.out]
  have rF := rF.next hbb
  have rL := rL.next hbb
  have rA := rA.next hbb
  have rH := rH.next hbb
  have rS := rS.next hbb
  have hB := hB.trans (hbb.mono hB.size)
  clear hbb cS
  have cH := rH.cell
  have cS := rS.cell
  have cA := rA.cell
  obtain ⟨q0, e0, k0, k1⟩ : ∃ q, a0.tmod (mH - n + 1) = q ∧ 0 ≤ q ∧ q ≤ mH - n := ⟨_, rfl, Int.tmod_nonneg _ _h0.1, by have := Int.tmod_lt_of_pos a0 (show 0 < mH - n + 1 by omega); omega⟩
  obtain ⟨q1, e1, k2, k3⟩ : ∃ q, a1.tmod (sH - sL + 1) = q ∧ 0 ≤ q ∧ q ≤ sH - sL := ⟨_, rfl, Int.tmod_nonneg _ _h1.1, by have := Int.tmod_lt_of_pos a1 (show 0 < sH - sL + 1 by omega); omega⟩
  have d0 : ¬ mH - n + 1 = 0 := by omega
  have d1 : ¬ sH - sL + 1 = 0 := by omega
  go_wp2_with fail
  go_quiet (fail)
  have rF : Row (w8.drewN nq) Bf (fitC n true 4 h false l g) 32 := rF
  have rL : Row (w8.drewN nq) w.heap.size (limC lo hi) 23 := rL
  have hB : Below w.heap.size w (w8.drewN nq) := hB.trans ⟨rfl, rfl, rfl, Nat.le_refl _, fun _ _ => rfl⟩
  have vP : prV ((n + q0) - (sL + q1)) ((decide (mLow n true 4 h ≤ n + q0) && decide (n + q0 ≤ mHigh n true 4 h)) && (decide (mLow n false l g ≤ sL + q1) && decide (sL + q1 ≤ mHigh n false l g))) 0 = .tuple #[.int .i64 ((n + q0) - (sL + q1)), .bool true, .int .i64 0] := by
    obtain ⟨c1, c2, c3, c4⟩ := HC.out
    rw [c1, c2, c3, c4, decide_eq_true (show n ≤ n + q0 by omega), decide_eq_true (show n + q0 ≤ mH by omega), decide_eq_true (show sL ≤ sL + q1 by omega), decide_eq_true (show sL + q1 ≤ sH by omega)]
    rfl
  have VP := Lib.hid vP
  have vH : (decide (lo ≤ (n + q0) - (sL + q1)) && decide ((n + q0) - (sL + q1) ≤ hi)) = true := by
    rw [decide_eq_true (show lo ≤ (n + q0) - (sL + q1) by omega), decide_eq_true (show (n + q0) - (sL + q1) ≤ hi by omega)]
    rfl
  have VH := Lib.hid vH
  clear vP vH cH cS cA e0 e1 d0 d1
  have cF := rF.cell
  generalize w8.drewN nq = w9 at *
  go_wp2_with fail
  refine (Pair_ok n true 4 h false l g (n + q0) (sL + q1) _ HF.out (by omega) (by omega) (by omega) (by omega)).mono ?_
  rintro e w10 ⟨rfl, hbb⟩
  rw [VP.out]
  have rL := rL.next hbb
  have hB := hB.trans (hbb.mono hB.size)
  clear hbb cF
  have cL := rL.cell
  go_wp2_with fail
  refine (rHas_c lo hi ((n + q0) - (sL + q1)) _).mono ?_
  rintro e w11 ⟨rfl, hbb⟩
  rw [VH.out]
  have hB := hB.trans (hbb.mono hB.size)
  clear hbb cL
  go_wp2_with fail
  refine (runFits_c _).mono ?_
  rintro e w12 ⟨rfl, hbb⟩
  go_wp2
  go_ret
  exact ⟨rfl, hB.trans (hbb.mono hB.size)⟩
end Go.Proofs.Ytldghloflegpmaa

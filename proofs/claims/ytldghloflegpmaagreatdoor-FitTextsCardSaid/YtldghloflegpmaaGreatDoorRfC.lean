/- Contracts of the reference for grades: the errors of sizes and classes, Away, Deviations, Limits. -/
import Derived.Test.YtldghloflegpmaaGreatDoorRfB
namespace Go.Proofs.YtldghloflegpmaaGreatDoor
open Go.RowKit Pu Go.Lib

set_option maxHeartbeats 1000000 in
theorem rSize_c (n : Int) (w : World) : Calls Tryz.prog 42 #[.int .i64 n] w fun e w' => e = .returned (.int .i64 (zE n)) ∧ w = w' := by
  by_cases h1 : n < 1
  · have h : zE n = 2 := by unfold zE; rw [if_pos (Or.inl h1)]
    rw [h]; clear h
    go_enter Tryz.func42, Tryz.ntmps42
    go_wp2
    go_ret
    exact ⟨rfl, rfl⟩
  · by_cases h2 : 100000 < n
    · have h : zE n = 2 := by unfold zE; rw [if_pos (Or.inr h2)]
      rw [h]; clear h
      go_enter Tryz.func42, Tryz.ntmps42
      go_wp2
      go_ret
      exact ⟨rfl, rfl⟩
    · have h : zE n = 0 := by unfold zE; rw [if_neg (by omega)]
      rw [h]; clear h
      go_enter Tryz.func42, Tryz.ntmps42
      go_wp2
      go_ret
      exact ⟨rfl, rfl⟩

set_option maxHeartbeats 1000000 in
theorem rCheck_c (h : Bool) (l g : Int) (w : World) : Calls Tryz.prog 53 #[.agg #[.bool h, .int .i64 l, .int .i64 g]] w fun e w' => e = .returned (.int .i64 (cE l g)) ∧ Below w.heap.size w w' := by
  by_cases k1 : l < 0
  · have h : cE l g = 1 := by unfold cE; rw [if_pos (Or.inl k1)]
    rw [h]; clear h
    go_enter Tryz.func53, Tryz.ntmps53
    go_wp2
    go_ret
    exact ⟨rfl, (Below.refl _ _).alloc (Nat.le_refl _) _⟩
  by_cases k2 : 9 < l
  · have h : cE l g = 1 := by unfold cE; rw [if_pos (Or.inr (by omega))]
    rw [h]; clear h
    go_enter Tryz.func53, Tryz.ntmps53
    go_wp2
    go_ret
    exact ⟨rfl, (Below.refl _ _).alloc (Nat.le_refl _) _⟩
  by_cases k3 : g < 5
  · have h : cE l g = 2 := by unfold cE gE; rw [if_neg (by omega), if_pos (Or.inl k3)]
    rw [h]; clear h
    go_enter Tryz.func53, Tryz.ntmps53
    go_wp2
    go_ret
    exact ⟨rfl, (Below.refl _ _).alloc (Nat.le_refl _) _⟩
  by_cases k4 : 12 < g
  · have h : cE l g = 2 := by unfold cE gE; rw [if_neg (by omega), if_pos (Or.inr k4)]
    rw [h]; clear h
    go_enter Tryz.func53, Tryz.ntmps53
    go_wp2
    go_ret
    exact ⟨rfl, (Below.refl _ _).alloc (Nat.le_refl _) _⟩
  have h : cE l g = 0 := by unfold cE gE; rw [if_neg (by omega), if_neg (by omega)]
  rw [h]; clear h
  go_enter Tryz.func53, Tryz.ntmps53
  go_wp2
  go_ret
  exact ⟨rfl, (Below.refl _ _).alloc (Nat.le_refl _) _⟩

set_option maxHeartbeats 1000000 in
theorem Away_c (n l g : Int) (h : Bool) (w : World) (_hn : n ≤ 100000) (h5 : 5 ≤ g) (h12 : g ≤ 12) (hl0 : 0 ≤ l) (hl9 : l ≤ 9) :
    Calls Tryz.prog 44 #[.int .i64 n, .agg #[.bool h, .int .i64 l, .int .i64 g]] w fun e w' => e = .returned (.agg #[.int .i64 (dLow n h l g), .int .i64 (dHigh n h l g)]) ∧ Below w.heap.size w w' := by
  have hb := s_bd n l g
  go_enter Tryz.func44, Tryz.ntmps44
  go_wp2_with fail
  refine (shaft_c _ _ _ _ hl0 hl9 h5 h12).mono ?_
  rintro e w2 ⟨rfl, hbb⟩
  obtain ⟨c0, _, _, r0, r1, f0, f1, hb2, hz, hy⟩ := (Pro.mk0 w _ _ _ _ _ _ _).next hbb
  clear hbb h5 h12 hl0 hl9
  cases h
  · go_wp2
    exact bodyPost_ret (v := .agg #[.int .i64 (sLow n l g), .int .i64 (sHigh n l g)]) (by simp [results, Tryz.results44, go_sem, r0, r1, hz]) rfl ⟨by simp [dLow, dHigh], ((hb2.setCell (by simp) _).setCell (by simp) _).alloc (by simp; omega) _⟩
  · go_wp2
    exact bodyPost_ret (v := .agg #[.int .i64 (-sHigh n l g), .int .i64 (-sLow n l g)]) (by simp [results, Tryz.results44, go_sem, r0, r1, hz]) rfl ⟨by simp [dLow, dHigh], ((hb2.setCell (by simp) _).setCell (by simp) _).alloc (by simp; omega) _⟩

set_option maxHeartbeats 1000000 in
theorem rDeviations_ok (n l g : Int) (h : Bool) (w : World) (hz : zE n = 0) (hc : cE l g = 0) : Calls Tryz.prog 86 #[.int .i64 n, .agg #[.bool h, .int .i64 l, .int .i64 g]] w
    fun e w' => e = .returned (pairV (dLow n h l g) (dHigh n h l g) 0) ∧ Below w.heap.size w w' := by
  obtain ⟨z1, z2⟩ := zE_ok.1 hz
  obtain ⟨⟨l0, l9⟩, g5, g12⟩ := cE_ok.1 hc
  have Hz := Lib.hid hz; have Hc := Lib.hid hc
  clear hz hc
  go_enter Tryz.func86, Tryz.ntmps86
  go_wp2_with fail
  refine (rSize_c _ _).mono ?_
  rintro e w1 ⟨rfl, rfl⟩
  rw [Hz.out]
  go_wp2_with fail
  refine (rCheck_c _ _ _ _).mono ?_
  rintro e w2 ⟨rfl, hb2⟩
  rw [Hc.out]
  have P2 := (Pro.mk0 w _ _ _ _ _ _ _).next hb2
  obtain ⟨c0, c1, c2, _, _, _, _, _, _, _⟩ := id P2
  go_wp2_with fail
  refine (Away_c _ _ _ _ _ z2 g5 g12 l0 l9).mono ?_
  rintro e w3 ⟨rfl, hb3⟩
  obtain ⟨_, _, _, r0, r1, f0, f1, hb, hz, hy⟩ := P2.next hb3
  clear c0 c1 c2
  go_wp2
  exact bodyPost_ret (v := pairV (dLow n h l g) (dHigh n h l g) 0) (by simp [results, Tryz.results86, go_sem, r0, r1, pairV]) rfl ⟨rfl, (hb.setCell (by simp) _).setCell (by simp) _⟩
set_option maxHeartbeats 1000000 in
theorem rDeviations_size (n l g : Int) (h : Bool) (w : World) (hz : zE n = 2) : Calls Tryz.prog 86 #[.int .i64 n, .agg #[.bool h, .int .i64 l, .int .i64 g]] w
    fun e w' => e = .returned (pairV 0 0 2) ∧ Below w.heap.size w w' := by
  have Hz := Lib.hid hz
  clear hz
  go_enter Tryz.func86, Tryz.ntmps86
  go_wp2_with fail
  refine (rSize_c _ _).mono ?_
  rintro e w1 ⟨rfl, rfl⟩
  rw [Hz.out]
  go_wp2
  exact bodyPost_ret (v := pairV 0 0 2) (by simp [results, Tryz.results86, go_sem, pairV]) rfl ⟨rfl, ((Below.refl _ w).alloc (Nat.le_refl _) _).alloc (by simp) _⟩
set_option maxHeartbeats 1000000 in
theorem rDeviations_class (n l g x : Int) (h : Bool) (w : World) (hz : zE n = 0) (hc : cE l g = x) (hx : (x == 0) = false) : Calls Tryz.prog 86 #[.int .i64 n, .agg #[.bool h, .int .i64 l, .int .i64 g]] w
    fun e w' => e = .returned (pairV 0 0 x) ∧ Below w.heap.size w w' := by
  have Hz := Lib.hid hz; have Hc := Lib.hid hc
  clear hz hc
  go_enter Tryz.func86, Tryz.ntmps86
  go_wp2_with fail
  refine (rSize_c _ _).mono ?_
  rintro e w1 ⟨rfl, rfl⟩
  rw [Hz.out]
  go_wp2_with fail
  refine (rCheck_c _ _ _ _).mono ?_
  rintro e w2 ⟨rfl, hb2⟩
  rw [Hc.out]
  obtain ⟨_, _, _, r0, r1, f0, f1, hb, hz, hy⟩ := (Pro.mk0 w _ _ _ _ _ _ _).next hb2
  go_wp2
  exact bodyPost_ret (v := pairV 0 0 x) (by simp [results, Tryz.results86, go_sem, r0, r1, pairV]) rfl ⟨rfl, (hb.setCell (by simp) _).setCell (by simp) _⟩
theorem rDeviations_c (n l g : Int) (h : Bool) (w : World) : Calls Tryz.prog 86 #[.int .i64 n, .agg #[.bool h, .int .i64 l, .int .i64 g]] w
    fun e w' => e = .returned (pairV (vLow n h l g) (vHigh n h l g) (dE n l g)) ∧ Below w.heap.size w w' := by
  unfold vLow vHigh
  by_cases hz : zE n = 0
  · by_cases hc : cE l g = 0
    · have hd : dE n l g = 0 := by unfold dE; rw [if_pos hz, hc]
      rw [if_pos hd, if_pos hd, hd]
      exact rDeviations_ok n l g h w hz hc
    · have hd : dE n l g = cE l g := by unfold dE; rw [if_pos hz]
      rw [hd, if_neg hc, if_neg hc]
      exact rDeviations_class n l g _ h w hz rfl (cE_ne hc)
  · have h2 := zE_two hz
    have hd : dE n l g = 2 := by unfold dE; rw [if_neg hz, h2]
    rw [hd, if_neg (by omega), if_neg (by omega)]
    exact rDeviations_size n l g h w h2

set_option maxHeartbeats 1000000 in
theorem rLimits_err (n l g x : Int) (h : Bool) (w : World) (hd : dE n l g = x) (hx : (x == 0) = false) : Calls Tryz.prog 54 #[.int .i64 n, .agg #[.bool h, .int .i64 l, .int .i64 g]] w
    fun e w' => e = .returned (pairV 0 0 x) ∧ Below w.heap.size w w' := by
  have hv := rDeviations_c n l g h
  have h0 : ¬ x = 0 := by simpa using hx
  unfold vLow vHigh at hv
  rw [hd, if_neg h0, if_neg h0] at hv
  have Hv := Lib.hid hv
  clear hv hd h0
  go_enter Tryz.func54, Tryz.ntmps54
  go_wp2_with fail
  refine (Hv.out _).mono ?_
  rintro e w2 ⟨rfl, hb2⟩
  obtain ⟨_, _, _, r0, r1, f0, f1, hb, hz, hy⟩ := (Pro.mk0 w _ _ _ _ _ _ _).next hb2
  simp only [pairV]
  clear hb2
  go_wp2
  exact bodyPost_ret (v := pairV 0 0 x) (by simp [results, Tryz.results54, go_sem, r0, r1, hz, pairV]) rfl ⟨rfl, ((hb.setCell (by simp) _).setCell (by simp) _).alloc (by simp; omega) _⟩

set_option maxHeartbeats 1000000 in
theorem rLimits_ok (n l g : Int) (h : Bool) (w : World) (hd : dE n l g = 0) (h1 : 1 ≤ n + dLow n h l g) (h2 : n + dHigh n h l g ≤ 100000) : Calls Tryz.prog 54 #[.int .i64 n, .agg #[.bool h, .int .i64 l, .int .i64 g]] w
    fun e w' => e = .returned (pairV (n + dLow n h l g) (n + dHigh n h l g) 0) ∧ Below w.heap.size w w' := by
  have hv := rDeviations_c n l g h
  unfold vLow vHigh at hv
  rw [hd, if_pos rfl, if_pos rfl] at hv
  have Hv := Lib.hid hv
  have hr := (dE_ok.1 hd).1
  have hb := d_bd n h l g
  clear hv hd
  go_enter Tryz.func54, Tryz.ntmps54
  go_wp2_with fail
  refine (Hv.out _).mono ?_
  rintro e w2 ⟨rfl, hb2⟩
  obtain ⟨_, _, _, r0, r1, f0, f1, hb, hz, hy⟩ := (Pro.mk0 w _ _ _ _ _ _ _).next hb2
  simp only [pairV]
  clear hb2
  go_wp2
  exact bodyPost_ret (v := pairV (n + dLow n h l g) (n + dHigh n h l g) 0) (by simp [results, Tryz.results54, go_sem, r0, r1, hz, pairV]) rfl ⟨rfl, ((hb.setCell (by simp) _).setCell (by simp) _).alloc (by simp; omega) _⟩

set_option maxHeartbeats 1000000 in
theorem rLimits_low (n l g : Int) (h : Bool) (w : World) (hd : dE n l g = 0) (h1 : n + dLow n h l g < 1) : Calls Tryz.prog 54 #[.int .i64 n, .agg #[.bool h, .int .i64 l, .int .i64 g]] w
    fun e w' => e = .returned (pairV 0 0 2) ∧ Below w.heap.size w w' := by
  have hv := rDeviations_c n l g h
  unfold vLow vHigh at hv
  rw [hd, if_pos rfl, if_pos rfl] at hv
  have Hv := Lib.hid hv
  have hr := (dE_ok.1 hd).1
  have hb := d_bd n h l g
  clear hv hd
  go_enter Tryz.func54, Tryz.ntmps54
  go_wp2_with fail
  refine (Hv.out _).mono ?_
  rintro e w2 ⟨rfl, hb2⟩
  obtain ⟨_, _, _, r0, r1, f0, f1, hb, hz, hy⟩ := (Pro.mk0 w _ _ _ _ _ _ _).next hb2
  simp only [pairV]
  clear hb2
  go_wp2
  exact bodyPost_ret (v := pairV 0 0 2) (by simp [results, Tryz.results54, go_sem, r0, r1, hz, pairV]) rfl ⟨rfl, ((hb.setCell (by simp) _).setCell (by simp) _).alloc (by simp; omega) _⟩

set_option maxHeartbeats 1000000 in
theorem rLimits_high (n l g : Int) (h : Bool) (w : World) (hd : dE n l g = 0) (h1 : 1 ≤ n + dLow n h l g) (h2 : 100000 < n + dHigh n h l g) : Calls Tryz.prog 54 #[.int .i64 n, .agg #[.bool h, .int .i64 l, .int .i64 g]] w
    fun e w' => e = .returned (pairV 0 0 2) ∧ Below w.heap.size w w' := by
  have hv := rDeviations_c n l g h
  unfold vLow vHigh at hv
  rw [hd, if_pos rfl, if_pos rfl] at hv
  have Hv := Lib.hid hv
  have hr := (dE_ok.1 hd).1
  have hb := d_bd n h l g
  clear hv hd
  go_enter Tryz.func54, Tryz.ntmps54
  go_wp2_with fail
  refine (Hv.out _).mono ?_
  rintro e w2 ⟨rfl, hb2⟩
  obtain ⟨_, _, _, r0, r1, f0, f1, hb, hz, hy⟩ := (Pro.mk0 w _ _ _ _ _ _ _).next hb2
  simp only [pairV]
  clear hb2
  go_wp2
  exact bodyPost_ret (v := pairV 0 0 2) (by simp [results, Tryz.results54, go_sem, r0, r1, hz, pairV]) rfl ⟨rfl, ((hb.setCell (by simp) _).setCell (by simp) _).alloc (by simp; omega) _⟩

theorem rLimits_c (n l g : Int) (h : Bool) (w : World) : Calls Tryz.prog 54 #[.int .i64 n, .agg #[.bool h, .int .i64 l, .int .i64 g]] w
    fun e w' => e = .returned (pairV (mLow n h l g) (mHigh n h l g) (lE n h l g)) ∧ Below w.heap.size w w' := by
  unfold mLow mHigh
  by_cases hd : dE n l g = 0
  · by_cases h1 : n + dLow n h l g < 1
    · have e : lE n h l g = 2 := by unfold lE; rw [if_pos hd, if_pos (Or.inl h1)]
      rw [e, if_neg (by omega), if_neg (by omega)]
      exact rLimits_low n l g h w hd h1
    · by_cases h2 : 100000 < n + dHigh n h l g
      · have e : lE n h l g = 2 := by unfold lE; rw [if_pos hd, if_pos (Or.inr h2)]
        rw [e, if_neg (by omega), if_neg (by omega)]
        exact rLimits_high n l g h w hd (by omega) h2
      · have e : lE n h l g = 0 := by unfold lE; rw [if_pos hd, if_neg (by omega)]
        rw [e, if_pos rfl, if_pos rfl]
        exact rLimits_ok n l g h w hd (by omega) (by omega)
  · have e : lE n h l g = dE n l g := by unfold lE; rw [if_neg hd]
    rw [e, if_neg hd, if_neg hd]
    exact rLimits_err n l g _ h w rfl (by simpa using hd)
end Go.Proofs.YtldghloflegpmaaGreatDoor

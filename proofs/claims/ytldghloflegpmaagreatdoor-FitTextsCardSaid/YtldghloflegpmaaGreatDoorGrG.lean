/- Contracts of package grades: Limits. -/
import Derived.Test.YtldghloflegpmaaGreatDoorGrF
namespace Go.Proofs.YtldghloflegpmaaGreatDoor
open Go.RowKit Pu Go.Lib

set_option maxHeartbeats 1000000 in
theorem Limits_err (n l g x : Int) (h : Bool) (w : World) (hd : dE n l g = x) (hx : (x == 0) = false) : Calls Tryz.prog 48 #[.int .i64 n, .agg #[.bool h, .int .i64 l, .int .i64 g]] w
    fun e w' => e = .returned (pairV 0 0 x) ∧ Below w.heap.size w w' := by
  have hv := Deviations_c n l g h
  have h0 : ¬ x = 0 := by simpa using hx
  unfold vLow vHigh at hv
  rw [hd, if_neg h0, if_neg h0] at hv
  have Hv := Lib.hid hv
  clear hv hd h0
  go_enter Tryz.func48, Tryz.ntmps48
  go_wp2_with fail
  refine (Hv.out _).mono ?_
  rintro e w2 ⟨rfl, hb2⟩
  obtain ⟨_, _, _, r0, r1, f0, f1, hb, hz, hy⟩ := (Pro.mk0 w _ _ _ _ _ _ _).next hb2
  simp only [pairV]
  clear hb2
  go_wp2
  exact bodyPost_ret (v := pairV 0 0 x) (by simp [results, Tryz.results48, go_sem, r0, r1, hz, pairV]) rfl ⟨rfl, ((hb.setCell (by simp) _).setCell (by simp) _).alloc (by simp; omega) _⟩

set_option maxHeartbeats 1000000 in
theorem Limits_ok (n l g : Int) (h : Bool) (w : World) (hd : dE n l g = 0) (h1 : 1 ≤ n + dLow n h l g) (h2 : n + dHigh n h l g ≤ 100000) : Calls Tryz.prog 48 #[.int .i64 n, .agg #[.bool h, .int .i64 l, .int .i64 g]] w
    fun e w' => e = .returned (pairV (n + dLow n h l g) (n + dHigh n h l g) 0) ∧ Below w.heap.size w w' := by
  have hv := Deviations_c n l g h
  unfold vLow vHigh at hv
  rw [hd, if_pos rfl, if_pos rfl] at hv
  have Hv := Lib.hid hv
  have hr := (dE_ok.1 hd).1
  have hb := d_bd n h l g
  clear hv hd
  go_enter Tryz.func48, Tryz.ntmps48
  go_wp2_with fail
  refine (Hv.out _).mono ?_
  rintro e w2 ⟨rfl, hb2⟩
  obtain ⟨_, _, _, r0, r1, f0, f1, hb, hz, hy⟩ := (Pro.mk0 w _ _ _ _ _ _ _).next hb2
  simp only [pairV]
  clear hb2
  go_wp2
  exact bodyPost_ret (v := pairV (n + dLow n h l g) (n + dHigh n h l g) 0) (by simp [results, Tryz.results48, go_sem, r0, r1, hz, pairV]) rfl ⟨rfl, ((hb.setCell (by simp) _).setCell (by simp) _).alloc (by simp; omega) _⟩

set_option maxHeartbeats 1000000 in
theorem Limits_low (n l g : Int) (h : Bool) (w : World) (hd : dE n l g = 0) (h1 : n + dLow n h l g < 1) : Calls Tryz.prog 48 #[.int .i64 n, .agg #[.bool h, .int .i64 l, .int .i64 g]] w
    fun e w' => e = .returned (pairV 0 0 2) ∧ Below w.heap.size w w' := by
  have hv := Deviations_c n l g h
  unfold vLow vHigh at hv
  rw [hd, if_pos rfl, if_pos rfl] at hv
  have Hv := Lib.hid hv
  have hr := (dE_ok.1 hd).1
  have hb := d_bd n h l g
  clear hv hd
  go_enter Tryz.func48, Tryz.ntmps48
  go_wp2_with fail
  refine (Hv.out _).mono ?_
  rintro e w2 ⟨rfl, hb2⟩
  obtain ⟨_, _, _, r0, r1, f0, f1, hb, hz, hy⟩ := (Pro.mk0 w _ _ _ _ _ _ _).next hb2
  simp only [pairV]
  clear hb2
  go_wp2
  exact bodyPost_ret (v := pairV 0 0 2) (by simp [results, Tryz.results48, go_sem, r0, r1, hz, pairV]) rfl ⟨rfl, ((hb.setCell (by simp) _).setCell (by simp) _).alloc (by simp; omega) _⟩

set_option maxHeartbeats 1000000 in
theorem Limits_high (n l g : Int) (h : Bool) (w : World) (hd : dE n l g = 0) (h1 : 1 ≤ n + dLow n h l g) (h2 : 100000 < n + dHigh n h l g) : Calls Tryz.prog 48 #[.int .i64 n, .agg #[.bool h, .int .i64 l, .int .i64 g]] w
    fun e w' => e = .returned (pairV 0 0 2) ∧ Below w.heap.size w w' := by
  have hv := Deviations_c n l g h
  unfold vLow vHigh at hv
  rw [hd, if_pos rfl, if_pos rfl] at hv
  have Hv := Lib.hid hv
  have hr := (dE_ok.1 hd).1
  have hb := d_bd n h l g
  clear hv hd
  go_enter Tryz.func48, Tryz.ntmps48
  go_wp2_with fail
  refine (Hv.out _).mono ?_
  rintro e w2 ⟨rfl, hb2⟩
  obtain ⟨_, _, _, r0, r1, f0, f1, hb, hz, hy⟩ := (Pro.mk0 w _ _ _ _ _ _ _).next hb2
  simp only [pairV]
  clear hb2
  go_wp2
  exact bodyPost_ret (v := pairV 0 0 2) (by simp [results, Tryz.results48, go_sem, r0, r1, hz, pairV]) rfl ⟨rfl, ((hb.setCell (by simp) _).setCell (by simp) _).alloc (by simp; omega) _⟩

theorem Limits_c (n l g : Int) (h : Bool) (w : World) : Calls Tryz.prog 48 #[.int .i64 n, .agg #[.bool h, .int .i64 l, .int .i64 g]] w
    fun e w' => e = .returned (pairV (mLow n h l g) (mHigh n h l g) (lE n h l g)) ∧ Below w.heap.size w w' := by
  unfold mLow mHigh
  by_cases hd : dE n l g = 0
  · by_cases h1 : n + dLow n h l g < 1
    · have e : lE n h l g = 2 := by unfold lE; rw [if_pos hd, if_pos (Or.inl h1)]
      rw [e, if_neg (by omega), if_neg (by omega)]
      exact Limits_low n l g h w hd h1
    · by_cases h2 : 100000 < n + dHigh n h l g
      · have e : lE n h l g = 2 := by unfold lE; rw [if_pos hd, if_pos (Or.inr h2)]
        rw [e, if_neg (by omega), if_neg (by omega)]
        exact Limits_high n l g h w hd (by omega) h2
      · have e : lE n h l g = 0 := by unfold lE; rw [if_pos hd, if_neg (by omega)]
        rw [e, if_pos rfl, if_pos rfl]
        exact Limits_ok n l g h w hd (by omega) (by omega)
  · have e : lE n h l g = dE n l g := by unfold lE; rw [if_neg hd]
    rw [e, if_neg hd, if_neg hd]
    exact Limits_err n l g _ h w rfl (by simpa using hd)
end Go.Proofs.YtldghloflegpmaaGreatDoor

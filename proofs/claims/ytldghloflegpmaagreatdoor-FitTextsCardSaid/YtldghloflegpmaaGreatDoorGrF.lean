/- Contracts of package grades: the errors of a grade, a size, a class; Deviations and Limits. -/
import Derived.Test.YtldghloflegpmaaGreatDoorGrE
namespace Go.Proofs.YtldghloflegpmaaGreatDoor
open Go.RowKit Pu Go.Lib

set_option maxHeartbeats 1000000 in
theorem graded_c (g : Int) (w : World) : Calls Tryz.prog 83 #[.int .i64 g] w fun e w' => e = .returned (.int .i64 (gE g)) ∧ w = w' := by
  by_cases h1 : g < 5
  · have h : gE g = 2 := by unfold gE; rw [if_pos (Or.inl h1)]
    rw [h]; clear h
    go_enter Tryz.func83, Tryz.ntmps83
    go_wp2
    go_ret
    exact ⟨rfl, rfl⟩
  · by_cases h2 : 12 < g
    · have h : gE g = 2 := by unfold gE; rw [if_pos (Or.inr h2)]
      rw [h]; clear h
      go_enter Tryz.func83, Tryz.ntmps83
      go_wp2
      go_ret
      exact ⟨rfl, rfl⟩
    · have h : gE g = 0 := by unfold gE; rw [if_neg (by omega)]
      rw [h]; clear h
      go_enter Tryz.func83, Tryz.ntmps83
      go_wp2
      go_ret
      exact ⟨rfl, rfl⟩

set_option maxHeartbeats 1000000 in
theorem sized_c (n : Int) (w : World) : Calls Tryz.prog 39 #[.int .i64 n] w fun e w' => e = .returned (.int .i64 (zE n)) ∧ w = w' := by
  by_cases h1 : n < 1
  · have h : zE n = 2 := by unfold zE; rw [if_pos (Or.inl h1)]
    rw [h]; clear h
    go_enter Tryz.func39, Tryz.ntmps39
    go_wp2
    go_ret
    exact ⟨rfl, rfl⟩
  · by_cases h2 : 100000 < n
    · have h : zE n = 2 := by unfold zE; rw [if_pos (Or.inr h2)]
      rw [h]; clear h
      go_enter Tryz.func39, Tryz.ntmps39
      go_wp2
      go_ret
      exact ⟨rfl, rfl⟩
    · have h : zE n = 0 := by unfold zE; rw [if_neg (by omega)]
      rw [h]; clear h
      go_enter Tryz.func39, Tryz.ntmps39
      go_wp2
      go_ret
      exact ⟨rfl, rfl⟩

set_option maxHeartbeats 1000000 in
theorem check_c (h : Bool) (l g : Int) (w : World) : Calls Tryz.prog 84 #[.agg #[.bool h, .int .i64 l, .int .i64 g]] w fun e w' => e = .returned (.int .i64 (cE l g)) ∧ Below w.heap.size w w' := by
  by_cases h1 : l < 0
  · have h : cE l g = 1 := by unfold cE; rw [if_pos (Or.inl h1)]
    rw [h]; clear h
    go_enter Tryz.func84, Tryz.ntmps84
    go_wp2
    go_ret
    exact ⟨rfl, (Below.refl _ _).alloc (Nat.le_refl _) _⟩
  · by_cases h2 : 10 ≤ l
    · have h : cE l g = 1 := by unfold cE; rw [if_pos (Or.inr h2)]
      rw [h]; clear h
      go_enter Tryz.func84, Tryz.ntmps84
      go_wp2
      go_ret
      exact ⟨rfl, (Below.refl _ _).alloc (Nat.le_refl _) _⟩
    · have h : cE l g = gE g := by unfold cE; rw [if_neg (by omega)]
      rw [h]; clear h
      go_enter Tryz.func84, Tryz.ntmps84
      go_wp2_with fail
      refine (graded_c _ _).mono ?_
      rintro e w' ⟨rfl, rfl⟩
      go_wp2
      go_ret
      exact ⟨rfl, (Below.refl _ _).alloc (Nat.le_refl _) _⟩

/-- Two results: a pair of limits, and an error. -/
def pairV (a b e : Int) : Value := .tuple #[.agg #[.int .i64 a, .int .i64 b], .int .i64 e]

/-- What stands of two blocks that the call has laid, behind a callee. -/
structure Pro (w w2 : World) (a b c d e : Value) : Prop where
  c0 : w2.cell? ⟨w.heap.size, 0, none⟩ = some a
  c1 : w2.cell? ⟨w.heap.size, 1, none⟩ = some b
  c2 : w2.cell? ⟨w.heap.size, 2, none⟩ = some c
  r0 : w2.cell? ⟨w.heap.size + 1, 0, none⟩ = some d
  r1 : w2.cell? ⟨w.heap.size + 1, 1, none⟩ = some e
  f0 : w2.frozen? ⟨w.heap.size + 1, 0, none⟩ = false
  f1 : w2.frozen? ⟨w.heap.size + 1, 1, none⟩ = false
  hb : Below w.heap.size w w2
  hz : w.heap.size + 1 < w2.heap.size
  hy : w.heap.size < w2.heap.size
theorem Pro.next {w w2 w3 : World} {a b c d e : Value} (h : Pro w w2 a b c d e) (hb : Below w2.heap.size w2 w3) : Pro w w3 a b c d e :=
  ⟨cell_call hb h.c0, cell_call hb h.c1, cell_call hb h.c2, cell_call hb h.r0, cell_call hb h.r1, (hb.frozen (p := ⟨w.heap.size + 1, 0, none⟩) (World.block_lt_of_cell? _ _ h.r0)).trans h.f0,
    (hb.frozen (p := ⟨w.heap.size + 1, 1, none⟩) (World.block_lt_of_cell? _ _ h.r1)).trans h.f1, bt h.hb hb, Nat.lt_of_lt_of_le h.hz hb.size, Nat.lt_of_lt_of_le h.hy hb.size⟩
theorem Pro.mk0 (w : World) (a b c d e : Value) (T T' : TypeId) : Pro w ((w.alloc (.cells #[a, b, c] T)).alloc (.cells #[d, e] T')) a b c d e :=
  ⟨by simp, by simp, by simp, by simp, by simp, by simp, by simp, ((Below.refl _ w).alloc (Nat.le_refl _) _).alloc (by simp) _, by simp, by simp; omega⟩

set_option maxHeartbeats 1000000 in
theorem Deviations_ok (n l g : Int) (h : Bool) (w : World) (hz : zE n = 0) (hc : cE l g = 0) : Calls Tryz.prog 49 #[.int .i64 n, .agg #[.bool h, .int .i64 l, .int .i64 g]] w
    fun e w' => e = .returned (pairV (dLow n h l g) (dHigh n h l g) 0) ∧ Below w.heap.size w w' := by
  obtain ⟨z1, z2⟩ := zE_ok.1 hz
  obtain ⟨⟨l0, l9⟩, g5, g12⟩ := cE_ok.1 hc
  have Hz := Lib.hid hz; have Hc := Lib.hid hc
  clear hz hc
  go_enter Tryz.func49, Tryz.ntmps49
  go_wp2_with fail
  refine (sized_c _ _).mono ?_
  rintro e w1 ⟨rfl, rfl⟩
  rw [Hz.out]
  go_wp2_with fail
  refine (check_c _ _ _ _).mono ?_
  rintro e w2 ⟨rfl, hb2⟩
  rw [Hc.out]
  have P2 := (Pro.mk0 w _ _ _ _ _ _ _).next hb2
  obtain ⟨c0, c1, c2, _, _, _, _, _, _, _⟩ := id P2
  go_wp2_with fail
  refine (deviations_c _ _ _ _ _ z2 g5 g12 l0 l9).mono ?_
  rintro e w3 ⟨rfl, hb3⟩
  obtain ⟨_, _, _, r0, r1, f0, f1, hb, hz, hy⟩ := P2.next hb3
  clear c0 c1 c2
  go_wp2
  exact bodyPost_ret (v := pairV (dLow n h l g) (dHigh n h l g) 0) (by simp [results, Tryz.results49, go_sem, r0, r1, pairV]) rfl ⟨rfl, (hb.setCell (by simp) _).setCell (by simp) _⟩
set_option maxHeartbeats 1000000 in
theorem Deviations_size (n l g : Int) (h : Bool) (w : World) (hz : zE n = 2) : Calls Tryz.prog 49 #[.int .i64 n, .agg #[.bool h, .int .i64 l, .int .i64 g]] w
    fun e w' => e = .returned (pairV 0 0 2) ∧ Below w.heap.size w w' := by
  have Hz := Lib.hid hz
  clear hz
  go_enter Tryz.func49, Tryz.ntmps49
  go_wp2_with fail
  refine (sized_c _ _).mono ?_
  rintro e w1 ⟨rfl, rfl⟩
  rw [Hz.out]
  go_wp2
  exact bodyPost_ret (v := pairV 0 0 2) (by simp [results, Tryz.results49, go_sem, pairV]) rfl ⟨rfl, ((Below.refl _ w).alloc (Nat.le_refl _) _).alloc (by simp) _⟩
set_option maxHeartbeats 1000000 in
theorem Deviations_class (n l g x : Int) (h : Bool) (w : World) (hz : zE n = 0) (hc : cE l g = x) (hx : (x == 0) = false) : Calls Tryz.prog 49 #[.int .i64 n, .agg #[.bool h, .int .i64 l, .int .i64 g]] w
    fun e w' => e = .returned (pairV 0 0 x) ∧ Below w.heap.size w w' := by
  have Hz := Lib.hid hz; have Hc := Lib.hid hc
  clear hz hc
  go_enter Tryz.func49, Tryz.ntmps49
  go_wp2_with fail
  refine (sized_c _ _).mono ?_
  rintro e w1 ⟨rfl, rfl⟩
  rw [Hz.out]
  go_wp2_with fail
  refine (check_c _ _ _ _).mono ?_
  rintro e w2 ⟨rfl, hb2⟩
  rw [Hc.out]
  obtain ⟨_, _, _, r0, r1, f0, f1, hb, hz, hy⟩ := (Pro.mk0 w _ _ _ _ _ _ _).next hb2
  go_wp2
  exact bodyPost_ret (v := pairV 0 0 x) (by simp [results, Tryz.results49, go_sem, r0, r1, pairV]) rfl ⟨rfl, (hb.setCell (by simp) _).setCell (by simp) _⟩
theorem cE_ne {l g : Int} (h : ¬ cE l g = 0) : (cE l g == 0) = false := by simpa using h
theorem zE_two {n : Int} (h : ¬ zE n = 0) : zE n = 2 := by unfold zE at *; split at h <;> simp_all
theorem Deviations_c (n l g : Int) (h : Bool) (w : World) : Calls Tryz.prog 49 #[.int .i64 n, .agg #[.bool h, .int .i64 l, .int .i64 g]] w
    fun e w' => e = .returned (pairV (vLow n h l g) (vHigh n h l g) (dE n l g)) ∧ Below w.heap.size w w' := by
  unfold vLow vHigh
  by_cases hz : zE n = 0
  · by_cases hc : cE l g = 0
    · have hd : dE n l g = 0 := by unfold dE; rw [if_pos hz, hc]
      rw [if_pos hd, if_pos hd, hd]
      exact Deviations_ok n l g h w hz hc
    · have hd : dE n l g = cE l g := by unfold dE; rw [if_pos hz]
      rw [hd, if_neg hc, if_neg hc]
      exact Deviations_class n l g _ h w hz rfl (cE_ne hc)
  · have h2 := zE_two hz
    have hd : dE n l g = 2 := by unfold dE; rw [if_neg hz, h2]
    rw [hd, if_neg (by omega), if_neg (by omega)]
    exact Deviations_size n l g h w h2
end Go.Proofs.YtldghloflegpmaaGreatDoor

/- Contracts: Same; own at every list; the errors of Find. -/
import Derived.Test.YtldghloflegpmaaGreatDoorFdC
namespace Go.Proofs.YtldghloflegpmaaGreatDoor
open Go.RowKit Pu Go.Lib

set_option maxRecDepth 100000 in
set_option maxHeartbeats 4000000 in
theorem Same_slices (A B g h ca cb : Nat) (ks : List (Fin 160)) (w : World) (hlen : ks.length ≤ 160)
    (h1 : w.ownsRow A 47 3 (.slice (some ⟨g, 0, none⟩) ks.length ca) ks.length (ks.flatMap cellsK)) (h2 : w.ownsRow B 47 3 (.slice (some ⟨h, 0, none⟩) ks.length cb) ks.length (ks.flatMap cellsK)) :
    Calls Tryz.prog 17 #[.slice (some ⟨g, 0, none⟩) ks.length ca, .slice (some ⟨h, 0, none⟩) ks.length cb] w fun e w' => e = .returned (.bool true) ∧ Below w.heap.size w w' := by
  have hn1 : (ks.length : Int) ≤ 160 := by omega
  go_enter Tryz.func17, Tryz.ntmps17
  go_wp2_with fail
  go_loopw [5] (fun p wr => ∃ i : Nat, i ≤ ks.length ∧ p = .int .i64 (i : Int) ∧ Hid (wr.heap = w.heap) ∧ Below w.heap.size w wr) (fun p _ => ks.length - (intOf p).toNat)
  case atStart => exact ⟨0, by omega, rfl, Lib.hid rfl, Below.refl _ _⟩
  case round =>
    obtain ⟨i, hile, rfl, hh, hb⟩ := hrel
    by_cases hlt : i < ks.length
    · have cx : ∀ j, j < 3 → wr.cell? ⟨g, i * 3 + j, none⟩ = (cellsK ks[i])[j]? := fun j hj => by
        have := own_cells h1 i hlt j hj
        simpa [World.cell?, hh.out] using this
      have dx : ∀ j, j < 3 → wr.cell? ⟨h, i * 3 + j, none⟩ = (cellsK ks[i])[j]? := fun j hj => by
        have := own_cells h2 i hlt j hj
        simpa [World.cell?, hh.out] using this
      have c0 := cx 0 (by omega)
      have c1 := cx 1 (by omega)
      have c2 := cx 2 (by omega)
      have d0 := dx 0 (by omega)
      have d1 := dx 1 (by omega)
      have d2 := dx 2 (by omega)
      simp only [cellsK, Nat.add_zero] at c0 c1 c2 d0 d1 d2
      clear cx dx
      generalize kH ks[i] = xh at *
      generalize kL ks[i] = xl at *
      generalize kG ks[i] = xg at *
      go_wp2_with fail
      go_region
      go_wp2
      go_roundw
      case rel => exact ⟨i + 1, by omega, by go_num, hh, hb.drew⟩
      case measure => simp [intOf]; omega
    · obtain rfl : i = ks.length := by omega
      go_wp2
      go_ret
      exact ⟨rfl, hb⟩
set_option maxHeartbeats 1000000 in
theorem Same_nn (w : World) : Calls Tryz.prog 17 #[.slice none 0 0, .slice none 0 0] w fun e w' => e = .returned (.bool true) ∧ Below w.heap.size w w' := by
  go_enter Tryz.func17, Tryz.ntmps17
  go_wp2_with fail
  refine wp_loop_rounds 1 ?_
  rw [rounds_succ]
  go_wp2
  go_ret
  exact ⟨rfl, Below.refl _ _⟩
set_option maxHeartbeats 1000000 in
theorem Same_ns (h cb : Nat) (w : World) : Calls Tryz.prog 17 #[.slice none 0 0, .slice (some ⟨h, 0, none⟩) 0 cb] w fun e w' => e = .returned (.bool true) ∧ Below w.heap.size w w' := by
  go_enter Tryz.func17, Tryz.ntmps17
  go_wp2_with fail
  refine wp_loop_rounds 1 ?_
  rw [rounds_succ]
  go_wp2
  go_ret
  exact ⟨rfl, Below.refl _ _⟩
set_option maxHeartbeats 1000000 in
theorem Same_sn (h cb : Nat) (w : World) : Calls Tryz.prog 17 #[.slice (some ⟨h, 0, none⟩) 0 cb, .slice none 0 0] w fun e w' => e = .returned (.bool true) ∧ Below w.heap.size w w' := by
  go_enter Tryz.func17, Tryz.ntmps17
  go_wp2_with fail
  refine wp_loop_rounds 1 ?_
  rw [rounds_succ]
  go_wp2
  go_ret
  exact ⟨rfl, Below.refl _ _⟩
theorem Same_c (A B : Nat) (u v : Value) (ks : List (Fin 160)) (w : World) (hlen : ks.length ≤ 160) (h1 : w.ownsRow A 47 3 u ks.length (ks.flatMap cellsK)) (h2 : w.ownsRow B 47 3 v ks.length (ks.flatMap cellsK)) :
    Calls Tryz.prog 17 #[u, v] w fun e w' => e = .returned (.bool true) ∧ Below w.heap.size w w' := by
  rcases id h1.2 with ⟨rfl, e1⟩ | ⟨g, ca, _, rfl, _⟩
  · rcases id h2.2 with ⟨rfl, _⟩ | ⟨h, cb, _, rfl, _⟩
    · exact Same_nn w
    · rw [e1]; exact Same_ns h cb w
  · rcases id h2.2 with ⟨rfl, e2⟩ | ⟨h, cb, _, rfl, _⟩
    · rw [e2]; exact Same_sn g ca w
    · exact Same_slices A B g h ca cb ks w hlen h1 h2
set_option maxHeartbeats 1000000 in
theorem own_nil (w : World) : Calls Tryz.prog 18 #[.slice none 0 0] w fun e w' => e = .returned (.slice none 0 0) ∧ Below w.heap.size w w' := by
  go_enter Tryz.func18, Tryz.ntmps18
  go_wp2_with fail
  refine wp_loop_rounds 1 ?_
  rw [rounds_succ]
  go_wp2
  go_ret
  exact ⟨rfl, Below.refl _ _⟩
theorem own_all (B : Nat) (v : Value) (ks : List (Fin 160)) (w : World) (hlen : ks.length ≤ 160) (ho : w.ownsRow B 40 3 v ks.length (ks.flatMap cellsK)) :
    Calls Tryz.prog 18 #[v] w fun e w' => ∃ u, e = .returned u ∧ w'.ownsRow w.heap.size 47 3 u ks.length (ks.flatMap cellsK) ∧ Below w.heap.size w w' := by
  rcases id ho.2 with ⟨rfl, e1⟩ | ⟨g, ca, cur, rfl, _, hg, _⟩
  · have : ks = [] := List.eq_nil_of_length_eq_zero e1
    subst this
    exact (own_nil w).mono fun e w' ⟨a, b⟩ => ⟨_, a, World.ownsRow_nil _ _ _ _, b⟩
  · exact own_c B g ca ks w hlen ho (Array.getElem?_eq_some_iff.1 hg).1
set_option maxHeartbeats 1000000 in
theorem Find_err (nn lo hi : Int) (w : World) (hz : zE nn = 2) : Calls Tryz.prog 12 #[.int .i64 nn, .agg #[.int .i64 lo, .int .i64 hi]] w fun e w' => e = .returned (.tuple #[.slice none 0 0, .int .i64 2]) ∧ Below w.heap.size w w' := by
  have Hz := Lib.hid hz
  clear hz
  go_enter Tryz.func12, Tryz.ntmps12
  go_wp2_with fail
  refine (sized_c _ _).mono ?_
  rintro e w1 ⟨rfl, rfl⟩
  rw [Hz.out]
  go_wp2
  go_ret2
  exact ⟨rfl, ((Below.refl _ w).alloc (Nat.le_refl _) _).alloc (by simp) _⟩
set_option maxHeartbeats 1000000 in
theorem rFind_err (nn lo hi : Int) (w : World) (hz : zE nn = 2) : Calls Tryz.prog 13 #[.int .i64 nn, .agg #[.int .i64 lo, .int .i64 hi]] w fun e w' => e = .returned (.tuple #[.slice none 0 0, .int .i64 2]) ∧ Below w.heap.size w w' := by
  have Hz := Lib.hid hz
  clear hz
  go_enter Tryz.func13, Tryz.ntmps13
  go_wp2_with fail
  refine (rSize_c _ _).mono ?_
  rintro e w1 ⟨rfl, rfl⟩
  rw [Hz.out]
  go_wp2
  go_ret2
  exact ⟨rfl, (Below.refl _ w).alloc (Nat.le_refl _) _⟩
/-- The classes that Find finds; none at a wrong size. -/
def fAll (nn lo hi : Int) : List (Fin 160) := if zE nn = 0 then fndK nn lo hi allK else []
theorem fAll_len (nn lo hi : Int) : (fAll nn lo hi).length ≤ 160 := by
  unfold fAll; split
  · exact fnd_len nn lo hi
  · simp
theorem Find_c (nn lo hi : Int) (w : World) : Calls Tryz.prog 12 #[.int .i64 nn, .agg #[.int .i64 lo, .int .i64 hi]] w fun e w' => ∃ v, e = .returned (.tuple #[v, .int .i64 (zE nn)]) ∧
    w'.ownsRow w.heap.size 40 3 v (fAll nn lo hi).length ((fAll nn lo hi).flatMap cellsK) ∧ Below w.heap.size w w' := by
  unfold fAll
  by_cases hz : zE nn = 0
  · rw [if_pos hz, hz]; exact Find_ok nn lo hi w hz
  · rw [if_neg hz, zE_two hz]; exact (Find_err nn lo hi w (zE_two hz)).mono fun e w' ⟨a, b⟩ => ⟨_, a, World.ownsRow_nil _ _ _ _, b⟩
theorem rFind_c (nn lo hi : Int) (w : World) : Calls Tryz.prog 13 #[.int .i64 nn, .agg #[.int .i64 lo, .int .i64 hi]] w fun e w' => ∃ v, e = .returned (.tuple #[v, .int .i64 (zE nn)]) ∧
    w'.ownsRow w.heap.size 47 3 v (fAll nn lo hi).length ((fAll nn lo hi).flatMap cellsK) ∧ Below w.heap.size w w' := by
  unfold fAll
  by_cases hz : zE nn = 0
  · rw [if_pos hz, hz]; exact rFind_ok nn lo hi w hz
  · rw [if_neg hz, zE_two hz]; exact (rFind_err nn lo hi w (zE_two hz)).mono fun e w' ⟨a, b⟩ => ⟨_, a, World.ownsRow_nil _ _ _ _, b⟩
end Go.Proofs.YtldghloflegpmaaGreatDoor

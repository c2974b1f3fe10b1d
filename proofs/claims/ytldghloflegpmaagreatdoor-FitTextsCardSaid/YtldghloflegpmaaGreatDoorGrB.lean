/- Contracts of package grades: the search for a size step, the index of a size step. -/
import Derived.Test.YtldghloflegpmaaGreatDoorGrA
namespace Go.Proofs.YtldghloflegpmaaGreatDoor
open Go.RowKit Pu Go.Lib

set_option maxHeartbeats 1000000 in
theorem indexFunc_c (n : Int) (b B : Nat) (w : World) (hn : n ≤ 100000) (hB : B < w.heap.size) (hb : b < w.heap.size) (hc : w.cell? ⟨B, 0, none⟩ = some (.int .i64 n))
    (hcs : ∀ k, k < 8 → w.cell? ⟨b, k * 2, none⟩ = some (.int .i64 (most k)) ∧ w.cell? ⟨b, k * 2 + 1, none⟩ = some (.int .i64 (bas k))) :
    Calls Tryz.prog 111 #[.slice (some ⟨b, 0, none⟩) 8 8, .func (.func 112) #[] #[.pointer (some ⟨B, 0, none⟩)]] w fun e w' => e = .returned (.int .i64 (stp n)) ∧ Below w.heap.size w w' := by
  have hlt := stp_lt n
  have hcs' := Lib.hid hcs
  have hc' := Lib.hid hc
  clear hcs hc
  go_enter Tryz.func111, Tryz.ntmps111
  go_wp2_with fail
  go_loopw [5, 8] (fun _ i wr => ∃ k : Nat, k ≤ stp n ∧ i = .int .i64 k ∧ Below w.heap.size w wr) (fun _ i _ => 8 - (intOf i).toNat)
  case atStart => exact ⟨0, Nat.zero_le _, rfl, Below.refl _ _⟩
  case round =>
    obtain ⟨k, hk, rfl, hbe⟩ := hrel
    have hk8 : k < 8 := by omega
    have hca : wr.cell? ⟨b, k * 2, none⟩ = some (.int .i64 (most k)) := (hbe.cell (p := ⟨b, k * 2, none⟩) hb).trans (hcs'.out k hk8).1
    have hcb : wr.cell? ⟨b, k * 2 + 1, none⟩ = some (.int .i64 (bas k)) := (hbe.cell (p := ⟨b, k * 2 + 1, none⟩) hb).trans (hcs'.out k hk8).2
    have hcc : wr.cell? ⟨B, 0, none⟩ = some (.int .i64 n) := (hbe.cell (p := ⟨B, 0, none⟩) hB).trans hc'.out
    have hsz := hbe.size
    have hcon := index1_c n (most k) (bas k) B wr (by omega) hcc
    clear hcc
    by_cases hlk : k < stp n
    · have hm := stp_gt n k hlk
      have hd : decide (n ≤ most k) = false := decide_eq_false (by omega)
      rw [hd] at hcon
      have Hcon := Lib.hid hcon
      clear hcon hd
      go_wp2_with fail
      refine Hcon.out.mono ?_
      rintro e w2 ⟨rfl, hb2⟩
      go_wp2
      go_roundw
      case rel => exact ⟨k + 1, by omega, by go_num, hbe.trans (hb2.mono hsz)⟩
      case measure => simp [intOf]; omega
    · obtain rfl : k = stp n := by omega
      have hm := stp_le n hn
      have hd : decide (n ≤ most (stp n)) = true := decide_eq_true hm
      rw [hd] at hcon
      have Hcon := Lib.hid hcon
      clear hcon hd
      go_wp2_with fail
      refine Hcon.out.mono ?_
      rintro e w2 ⟨rfl, hb2⟩
      go_wp2
      go_ret
      exact ⟨rfl, hbe.trans (hb2.mono hsz)⟩

set_option maxHeartbeats 1000000 in
theorem index_c (n : Int) (w : World) (hn : n ≤ 100000) : Calls Tryz.prog 75 #[.int .i64 n] w fun e w' => e = .returned (.int .i64 (stp n)) ∧ Below w.heap.size w w' := by
  go_enter Tryz.func75, Tryz.ntmps75
  go_wp2_with fail
  refine (steps_c _).mono ?_
  rintro e w1 ⟨rfl, hb1⟩
  have hsz := hb1.size
  simp only [World.size_alloc] at hsz hb1
  have hc1 : w1.cell? ⟨w.heap.size, 0, none⟩ = some (.int .i64 n) := (hb1.cell (p := ⟨w.heap.size, 0, none⟩) (by simp)).trans (by simp)
  go_wp2_with (refine wpList_store_row rfl 136 (.tmp 3) (.tmp 4) rfl w1.heap.size stepsC rfl rfl 136 _ (heap_alloc_last w1 _) info_steps rfl one_steps ?_; rw [World.setRow_alloc_new])
  refine (indexFunc_c n w1.heap.size w.heap.size _ hn (by simp; omega) (by simp) ?_ ?_).mono ?_
  · exact (World.cell?_alloc_lt _ _ _ (by simp; omega)).trans hc1
  · intro k hk
    have h8 : k = 0 ∨ k = 1 ∨ k = 2 ∨ k = 3 ∨ k = 4 ∨ k = 5 ∨ k = 6 ∨ k = 7 := by omega
    rcases h8 with rfl | rfl | rfl | rfl | rfl | rfl | rfl | rfl <;> simp [most, bas, stepsC]
  · rintro e w2 ⟨rfl, hb2⟩
    go_wp2
    go_ret
    exact ⟨rfl, ((Below.refl _ w).alloc (Nat.le_refl _) _).trans ((hb1.mono (by omega)).trans (((Below.refl _ w1).alloc (Nat.le_refl _) _).trans (hb2.mono (by simp)) |>.mono (by omega)))⟩

theorem steps_at (i : Nat) (hi : i < 8) (w : World) : (Instr.index 136 stepsV (.int .i64 i)).run Tryz.prog w = .ok (.agg #[.int .i64 (most i), .int .i64 (bas i)]) w :=
  match i, hi with
  | 0, _ => by kernel_rfl
  | 1, _ => by kernel_rfl
  | 2, _ => by kernel_rfl
  | 3, _ => by kernel_rfl
  | 4, _ => by kernel_rfl
  | 5, _ => by kernel_rfl
  | 6, _ => by kernel_rfl
  | 7, _ => by kernel_rfl
theorem factors_at (i : Nat) (hi : i < 8) (w : World) : (Instr.index 139 factorsV (.int .i64 i)).run Tryz.prog w = .ok (.int .i64 (fac i)) w :=
  match i, hi with
  | 0, _ => by kernel_rfl
  | 1, _ => by kernel_rfl
  | 2, _ => by kernel_rfl
  | 3, _ => by kernel_rfl
  | 4, _ => by kernel_rfl
  | 5, _ => by kernel_rfl
  | 6, _ => by kernel_rfl
  | 7, _ => by kernel_rfl
end Go.Proofs.YtldghloflegpmaaGreatDoor

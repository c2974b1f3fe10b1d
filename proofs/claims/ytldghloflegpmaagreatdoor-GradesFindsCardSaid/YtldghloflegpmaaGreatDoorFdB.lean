/- Contract of the reference's All. -/
import Derived.Test.YtldghloflegpmaaGreatDoorFdA
namespace Go.Proofs.YtldghloflegpmaaGreatDoor
open Go.RowKit Pu Go.Lib

theorem cells_at (a i g : Nat) (ha : a < 2) (hi : i < 10) (hg : g < 8) : (allK.take (80 * a + 8 * i + g + 1)).flatMap cellsK = (allK.take (80 * a + 8 * i + g)).flatMap cellsK ++ [.bool (decide (a = 1)), .int .i64 (i : Int), .int .i64 (5 + (g : Int))] := by
  have h : 80 * a + 8 * i + g < 160 := by omega
  rw [allK_take _ h, List.flatMap_append]
  congr 1
  have h1 : decide (80 ≤ 80 * a + 8 * i + g) = decide (a = 1) := decide_eq_decide.2 (by omega)
  have h2 : (80 * a + 8 * i + g) / 8 % 10 = i := by omega
  have h3 : (80 * a + 8 * i + g) % 8 = g := by omega
  simp only [List.flatMap_cons, List.flatMap_nil, List.append_nil, cellsK, kH, kL, kG, h1, h2, h3]
  congr 4

set_option maxRecDepth 100000 in
set_option maxHeartbeats 4000000 in
theorem All_c (w : World) : Calls Tryz.prog 43 #[] w fun e w' => ∃ v, e = .returned v ∧ w'.ownsRow w.heap.size 47 3 v 160 (allK.flatMap cellsK) ∧ Below w.heap.size w w' := by
  obtain ⟨i0, hi0, hz0, hz1, hz2⟩ := info_parts infoR
  go_enter Tryz.func43, Tryz.ntmps43
  go_wp2_with fail
  go_loopw [1, 2] (fun v p wr => ∃ a : Nat, a ≤ 2 ∧ p = .int .i64 (a : Int) ∧ wr.ownsRow w.heap.size 47 3 v (80 * a) ((allK.take (80 * a)).flatMap cellsK) ∧ Below w.heap.size w wr) (fun _ p _ => 2 - (intOf p).toNat)
  case atStart => exact ⟨0, by omega, rfl, World.ownsRow_nil _ _ _ _, Below.refl _ _⟩
  case round =>
    obtain ⟨a, ha, rfl, hr, hb⟩ := hrel
    by_cases ha2 : a < 2
    · have hda : decide ((a : Int) < 2) = true := by simp; omega
      go_wp2_with fail
      go_loopw [1, 3] (fun v p wr => ∃ i : Nat, i ≤ 10 ∧ p = .int .i64 (i : Int) ∧ wr.ownsRow w.heap.size 47 3 v (80 * a + 8 * i) ((allK.take (80 * a + 8 * i)).flatMap cellsK) ∧ Below w.heap.size w wr) (fun _ p _ => 10 - (intOf p).toNat)
      case atStart => exact ⟨0, by omega, rfl, hr, hb⟩
      case round =>
        obtain ⟨i, hi, rfl, hr, hb⟩ := hrel
        by_cases hi2 : i < 10
        · have hdi : decide ((i : Int) < 10) = true := by simp; omega
          go_wp2_with fail
          go_loopw [1, 4] (fun v p wr => ∃ g : Nat, g ≤ 8 ∧ p = .int .i64 (5 + (g : Int)) ∧ wr.ownsRow w.heap.size 47 3 v (80 * a + 8 * i + g) ((allK.take (80 * a + 8 * i + g)).flatMap cellsK) ∧ Below w.heap.size w wr) (fun _ p _ => 13 - (intOf p).toNat)
          case atStart => exact ⟨0, by omega, rfl, hr, hb⟩
          case round =>
            obtain ⟨g, hg, rfl, hr, hb⟩ := hrel
            by_cases hg2 : g < 8
            · have hcl := cells_at a i g ha2 hi2 hg2
              have HC := Lib.hid hcl
              have hsz := hb.size
              have ha1 : ((a : Int) == 1) = decide (a = 1) := by
                rcases (show a = 0 ∨ a = 1 by omega) with rfl | rfl <;> rfl
              clear hcl
              go_wp2_with (at_builtin; refine wpList_append_own _ rfl _ _ 28 rfl w.heap.size 47 i0 (.agg #[.bool false, .int .i64 0, .int .i64 0]) 3 24 Tryz.underlying28 hi0 hz0 hz1 hz2 rfl (by decide) _ _ _ rfl (hr.alloc _) ⟨wr.heap.size, 0, none⟩ 1 1 [.bool (decide (a = 1)), .int .i64 (i : Int), .int .i64 (5 + (g : Int))] rfl rfl (cells3_new _ _ _ _ _) (by simp [Value.oneCell']) (by unfold maxLen; omega) (by omega) (by simp; omega) ?_; intro v1 w1 hown1 hgrow1 _)
              go_roundw
              case rel => exact ⟨g + 1, by omega, by first | (congr 1; omega) | go_num, by show World.ownsRow _ _ _ _ _ (80 * a + 8 * i + g + 1) ((allK.take (80 * a + 8 * i + g + 1)).flatMap cellsK); rw [HC.out]; exact hown1, (hb.alloc hsz _).grown hgrow1 (by simp; omega) (own_base hr)⟩
              case measure => simp [intOf]; omega
            · obtain rfl : g = 8 := by omega
              go_wp2
              go_roundw
              case rel => exact ⟨i + 1, by omega, by go_num, hr, hb⟩
              case measure => simp [intOf]; omega
        · obtain rfl : i = 10 := by omega
          go_wp2
          go_roundw
          case rel => exact ⟨a + 1, by omega, by go_num, hr, hb⟩
          case measure => simp [intOf]; omega
    · obtain rfl : a = 2 := by omega
      have ht : allK.take (80 * 2) = allK := List.take_of_length_le (by rw [allK_len]; omega)
      rw [ht] at hr
      go_wp2
      go_ret
      exact ⟨_, rfl, hr, hb⟩
theorem All_len (w : World) : Calls Tryz.prog 43 #[] w fun e w' => ∃ g cap, e = .returned (.slice (some ⟨g, 0, none⟩) allK.length cap) ∧ g < w'.heap.size ∧
    w'.ownsRow w.heap.size 47 3 (.slice (some ⟨g, 0, none⟩) allK.length cap) allK.length (allK.flatMap cellsK) ∧ Below w.heap.size w w' := by
  refine (All_c w).mono ?_
  rintro e w' ⟨v, rfl, ho, hb⟩
  simp only [allK_len]
  rcases id ho.2 with ⟨_, h0⟩ | ⟨g, cap, cur, rfl, _, hg, _⟩
  · exact absurd h0 (by decide)
  · exact ⟨g, cap, rfl, (Array.getElem?_eq_some_iff.1 hg).1, ho, hb⟩
end Go.Proofs.YtldghloflegpmaaGreatDoor

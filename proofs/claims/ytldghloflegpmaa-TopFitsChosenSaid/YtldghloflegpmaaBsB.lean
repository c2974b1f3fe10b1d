/- The iterator over the right fits of the basic hole: its contract. -/
import Derived.RangeFuncNested
import Derived.RangeFuncBound
import Derived.RangeFuncCalls
import Derived.RangeFuncLeaves
import Derived.Shelf.Abstract
import Derived.Shelf.RegionOpen
import Derived.WalkKit
import Derived.OwnWalkIn
import Derived.TacticsInMore
import Derived.LoopNIn
import Derived.LoopIn
import Derived.Maps.AppendAt
import Derived.RangeFuncBox
import Derived.Test.YtldghloflegpmaaBs
namespace Go.Proofs.Ytldghloflegpmaa
open Go.RowKit Go.Shelf Pu Go.Lib
attribute [local go_sem] Oper.semAt_some

theorem grown_of {W W' : World} (h : Below W.heap.size W W') : W.grownBy W' none := ⟨h.os, h.tape, h.output, h.size, fun k hk _ => h.block k hk⟩
theorem index_h (w : World) : Calls Try.prog 23 #[.string ⟨#[100, 101, 102, 103, 104, 106, 107, 109, 110, 112]⟩, .int .u8 104] w fun e w' => e = .returned (.int .i64 4) ∧ w' = w :=
  Try.strings_IndexByte ⟨#[100, 101, 102, 103, 104, 106, 107, 109, 110, 112]⟩ 104 w

set_option maxRecDepth 100000 in
set_option maxHeartbeats 4000000 in
theorem basic_stops (n : Int) (m Bn : Nat) (hm : 1 ≤ m) (w : World) (hB : Row w Bn #[.int .i64 n] 3) :
    SeqStopsK Fence.wide m Try.prog 22 #[.pointer (some ⟨Bn, 0, none⟩)] (encB n) (K1 Bn #[.int .i64 n] 3) (fun xs => xs = allB.filter (okB n)) (fun pre => pre <+: allB.filter (okB n)) 640 w := fun l J Jx W hW hJ hJx hY h0 => by
  refine callsIn_of_wp Try.func22 rfl trivial ?_ rfl
  simp only [Try.ntmps22, List.size_toArray, List.length_cons, List.length_nil, Nat.reduceAdd, Nat.reduceSub, Array.replicate_succ, Array.replicate_zero, List.push_toArray, List.append_toArray, List.nil_append, List.cons_append]
  have hBW := hB.next hW
  gi_wp2_with (refine ⟨trivial, ?_⟩; gi_at_call 23; refine (callsIn_wide.2 (index_h _)).mono ?_; rintro e w' ⟨rfl, rfl⟩)
  gi_loopw [4] (fun p wr => ∃ a : Nat, a ≤ 8 ∧ p = .int .i64 (5 + (a : Int)) ∧ J ((allB.take (80 * a)).filter (okB n)) wr ∧ Row wr Bn #[.int .i64 n] 3) (fun p _ => 13 - (RowKit.intOf p).toNat)
  case atStart => exact ⟨0, by omega, rfl, h0, hBW⟩
  case round =>
    obtain ⟨a, ha, rfl, hj, hr⟩ := hrel
    by_cases ha2 : a < 8
    · have hda : decide (5 + (a : Int) ≤ 12) = true := by simp; omega
      gi_wp2
      gi_loopw [14] (fun p wr => ∃ i : Nat, i ≤ 10 ∧ p = .int .i64 (i : Int) ∧ J ((allB.take (80 * a + 8 * i)).filter (okB n)) wr ∧ Row wr Bn #[.int .i64 n] 3) (fun p _ => 10 - (RowKit.intOf p).toNat)
      case atStart => exact ⟨0, by omega, rfl, hj, hr⟩
      case round =>
        obtain ⟨i, hi, rfl, hj, hr⟩ := hrel
        by_cases hi2 : i < 10
        · have hdi : decide ((i : Int) < 10) = true := by simp; omega
          gi_wp2
          gi_loopw [6] (fun p wr => ∃ g : Nat, g ≤ 8 ∧ p = .int .i64 (5 + (g : Int)) ∧ J ((allB.take (80 * a + 8 * i + g)).filter (okB n)) wr ∧ Row wr Bn #[.int .i64 n] 3) (fun p _ => 13 - (RowKit.intOf p).toNat)
          case atStart => exact ⟨0, by omega, rfl, hj, hr⟩
          case round =>
            obtain ⟨g, hg, rfl, hj, hr⟩ := hrel
            by_cases hg2 : g < 8
            · have hk : 80 * a + 8 * i + g < 640 := by omega
              have hc := hr.cell
              obtain ⟨e1, e2, e3⟩ := b_at a i g ha2 hi2 hg2 hk
              have hdg : decide (5 + (g : Int) ≤ 12) = true := by simp; omega
              by_cases hf : fE n true 4 (5 + (a : Int)) false (i : Int) (5 + (g : Int)) = 0
              · obtain ⟨A, B, C, D, hv, hen⟩ : ∃ A B C D, chkV n true 4 (5 + (a : Int)) false (i : Int) (5 + (g : Int)) = .tuple #[.agg (chkC n true 4 (5 + (a : Int)) false (i : Int) (5 + (g : Int)) A B C D), .int .i64 0] ∧
                    encB n ⟨80 * a + 8 * i + g, hk⟩ = #[.agg (chkC n true 4 (5 + (a : Int)) false (i : Int) (5 + (g : Int)) A B C D)] :=
                  ⟨_, _, _, _, by unfold chkV; rw [if_pos hf], by unfold encB; rw [e1, e2, e3]⟩
                have hok : okB n ⟨80 * a + 8 * i + g, hk⟩ = true := by unfold okB; rw [e1, e2, e3]; exact decide_eq_true hf
                have htk : (allB.take (80 * a + 8 * i + (g + 1))).filter (okB n) = (allB.take (80 * a + 8 * i + g)).filter (okB n) ++ [⟨80 * a + 8 * i + g, hk⟩] := by
                  rw [show 80 * a + 8 * i + (g + 1) = 80 * a + 8 * i + g + 1 by omega, allB_take _ hk, List.filter_append]; simp [hok]
                have hlen : ((allB.take (80 * a + 8 * i + g)).filter (okB n)).length < 640 := Nat.lt_of_le_of_lt (List.length_filter_le _ _) (by rw [List.length_take, allB_len]; omega)
                have Hv := Lib.hid hv
                clear hv hf hok e1 e2 e3
                gi_wp2_with (refine ⟨trivial, ?_⟩; gi_at_call 18; refine (callsIn_wide.2 (fcheck_c n true 4 (5 + (a : Int)) false (i : Int) (5 + (g : Int)) _)).mono ?_; rintro e w2 ⟨rfl, hbb⟩; rw [Hv.out])
                have hr2 := (hr.next hbb).alloc (.cells (chkC n true 4 (5 + (a : Int)) false (i : Int) (5 + (g : Int)) A B C D) 58)
                have hj3 := hJ _ _ _ none (hJ _ _ _ none hj (grown_of hbb) (fun r e => by cases e)) (World.grownBy_alloc w2 (.cells (chkC n true 4 (5 + (a : Int)) false (i : Int) (5 + (g : Int)) A B C D) 58) none) (fun r e => by cases e)
                have hy0 := hY _ ⟨80 * a + 8 * i + g, hk⟩ _ hj3 hlen
                rw [hen, ← htk] at hy0
                clear hen htk
                obtain ⟨fn, tmps, assign, body, hy, hR⟩ := hy0
                rw [hy]
                gi_wp2
                refine hR.mono ?_
                rintro e W3 (⟨rfl, hJ3, hk3⟩ | ⟨rfl, hx3⟩)
                · gi_wp2
                  go_roundw
                  case rel => exact ⟨g + 1, by omega, by first | (congr 1; omega) | go_num, hJ3, hk3 hr2⟩
                  case measure => simp [RowKit.intOf]; omega
                · gi_wp2
                  refine bodyPost_ret (results_none rfl _ _ _) rfl ?_
                  exact ⟨⟨_, rfl⟩, .inr ⟨_, (List.take_prefix _ _).filter _, hx3⟩⟩
              · have hv : chkV n true 4 (5 + (a : Int)) false (i : Int) (5 + (g : Int)) = .tuple #[.agg (chkC 0 false 0 0 false 0 0 0 0 0 0), .int .i64 (fE n true 4 (5 + (a : Int)) false (i : Int) (5 + (g : Int)))] := by unfold chkV; rw [if_neg hf]
                have hok : okB n ⟨80 * a + 8 * i + g, hk⟩ = false := by unfold okB; rw [e1, e2, e3]; exact decide_eq_false hf
                have htk : (allB.take (80 * a + 8 * i + (g + 1))).filter (okB n) = (allB.take (80 * a + 8 * i + g)).filter (okB n) := by
                  rw [show 80 * a + 8 * i + (g + 1) = 80 * a + 8 * i + g + 1 by omega, allB_take _ hk, List.filter_append]; simp [hok]
                have hx : (fE n true 4 (5 + (a : Int)) false (i : Int) (5 + (g : Int)) == 0) = false := by simpa using hf
                generalize fE n true 4 (5 + (a : Int)) false (i : Int) (5 + (g : Int)) = x at *
                have Hv := Lib.hid hv
                clear hv hf hok e1 e2 e3
                gi_wp2_with (refine ⟨trivial, ?_⟩; gi_at_call 18; refine (callsIn_wide.2 (fcheck_c n true 4 (5 + (a : Int)) false (i : Int) (5 + (g : Int)) _)).mono ?_; rintro e w2 ⟨rfl, hbb⟩; rw [Hv.out])
                have hr2 := (hr.next hbb).alloc (.cells (chkC 0 false 0 0 false 0 0 0 0 0 0) 58)
                have hj3 := hJ _ _ _ none (hJ _ _ _ none hj (grown_of hbb) (fun r e => by cases e)) (World.grownBy_alloc w2 (.cells (chkC 0 false 0 0 false 0 0 0 0 0 0) 58) none) (fun r e => by cases e)
                rw [← htk] at hj3
                gi_wp2
                refine ⟨(fun f hf => by cases hf), ?_⟩
                gi_wp2
                go_roundw
                case rel => exact ⟨g + 1, by omega, by first | (congr 1; omega) | go_num, hj3, hr2⟩
                case measure => simp [RowKit.intOf]; omega
            · obtain rfl : g = 8 := by omega
              gi_wp2
              go_roundw
              case rel => exact ⟨i + 1, by omega, by go_num, hj, hr⟩
              case measure => simp [RowKit.intOf]; omega
        · obtain rfl : i = 10 := by omega
          gi_wp2
          go_roundw
          case rel => exact ⟨a + 1, by omega, by first | (congr 1; omega) | go_num, hj, hr⟩
          case measure => simp [RowKit.intOf]; omega
    · obtain rfl : a = 8 := by omega
      gi_wp2
      go_end0
      exact ⟨⟨_, rfl⟩, .inl ⟨_, by rw [List.take_of_length_le (by rw [allB_len]; omega)], hj⟩⟩
end Go.Proofs.Ytldghloflegpmaa

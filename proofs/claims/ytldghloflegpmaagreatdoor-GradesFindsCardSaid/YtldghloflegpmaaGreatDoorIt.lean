/- The iterator over all classes: its contract. -/
import Derived.RangeFuncNested
import Derived.RangeFuncBound
import Derived.RangeFuncCalls
import Derived.RangeFuncLeaves
import Derived.Shelf.Abstract
import Derived.Shelf.RegionOpen
import Derived.WalkKit
import Derived.OwnWalkIn
import Derived.TacticsInMore
import Derived.LoopNIn
import Derived.LoopIn
import Derived.Maps.AppendAt
import Derived.RangeFuncBox
import Derived.Test.YtldghloflegpmaaGreatDoorRo2
namespace Go.Proofs.YtldghloflegpmaaGreatDoor
open Go.RowKit Go.Shelf Pu Go.Lib
attribute [local go_sem] Oper.semAt_some

/-- Rows of one type are kept. -/
def KT (T : TypeId) (W W' : World) : Prop := ∀ b cs, Row W b cs T → Row W' b cs T
theorem KT.t {T : TypeId} {A B C : World} (h : KT T A B) (k : KT T B C) : KT T A C := fun b cs r => k b cs (h b cs r)
theorem KT.refl (T : TypeId) (W : World) : KT T W W := fun _ _ h => h
theorem KT.grown {T : TypeId} {W W' : World} {row : Option Nat} (hg : W.grownBy W' row) (hr : ∀ r, row = some r → ∀ cs, ¬ Row W r cs T) : KT T W W' := fun b cs h =>
  (hg.block b h.lt (fun e => hr b e.symm cs h)).trans h
theorem KT.alloc (T : TypeId) (W : World) (o : Obj) : KT T W (W.alloc o) := fun _ _ h => h.alloc o
theorem KT.below {T : TypeId} {W W' : World} (h : Below W.heap.size W W') : KT T W W' := fun _ _ r => r.next h
theorem KT.b {T : TypeId} (W : World) (l : Nat) (o o' : Obj) (h : W.heap[l]? = some o) (ho : o.isCells = false) : KT T W (W.putObj l o') :=
  KT.grown (grownBy_putObj' W l o') fun r e cs hr => by
    cases e
    unfold Row at hr
    rw [h] at hr
    cases hr
    cases ho

/-- The k-th class. -/
def encK (k : Fin 160) : Array Value := #[.agg #[.bool (decide (80 ≤ k.1)), .int .i64 ((k.1 / 8 % 10 : Nat) : Int), .int .i64 ((5 + k.1 % 8 : Nat) : Int)]]
def allK : List (Fin 160) := List.finRange 160
theorem allK_len : allK.length = 160 := List.length_finRange
theorem allK_take (k : Nat) (h : k < 160) : allK.take (k + 1) = allK.take k ++ [⟨k, h⟩] := by
  rw [List.take_succ_eq_append_getElem (by rw [allK_len]; exact h)]
  congr 2
  unfold allK
  simp
theorem enc_at (a i g : Nat) (ha : a < 2) (hi : i < 10) (hg : g < 8) (h : 80 * a + 8 * i + g < 160) :
    encK ⟨80 * a + 8 * i + g, h⟩ = #[.agg #[.bool (decide (a = 1)), .int .i64 (i : Int), .int .i64 (5 + (g : Int))]] := by
  unfold encK
  have h1 : decide (80 ≤ 80 * a + 8 * i + g) = decide (a = 1) := decide_eq_decide.2 (by omega)
  have h2 : (80 * a + 8 * i + g) / 8 % 10 = i := by omega
  have h3 : (80 * a + 8 * i + g) % 8 = g := by omega
  simp only [h1, h2, h3]
  congr 5

set_option maxRecDepth 100000 in
set_option maxHeartbeats 4000000 in
theorem classes_stops (F : Fence) (n : Nat) (h6 : F.fn 72) (hro : F.round = none) (hn : 1 ≤ n) (w : World) :
    SeqStopsK F n Tryz.prog 72 #[] encK (KT 4) (fun xs => xs = allK) (fun pre => pre <+: allK) 160 w := fun l J Jx W hW hJ hJx hY h0 => by
  refine callsIn_of_wp Tryz.func72 rfl h6 ?_ hro
  simp only [Tryz.ntmps72, List.size_toArray, List.length_cons, List.length_nil, Nat.reduceAdd, Nat.reduceSub, Array.replicate_succ, Array.replicate_zero, List.push_toArray, List.append_toArray, List.nil_append, List.cons_append]
  gi_wp2
  gi_loopw [8] (fun p wr => ∃ a : Nat, a ≤ 2 ∧ p = .int .i64 (a : Int) ∧ J (allK.take (80 * a)) wr ∧ Row wr W.heap.size #[.bool false, .bool true] 4) (fun p _ => 2 - (intOf p).toNat)
  case atStart =>
    exact ⟨0, by omega, rfl, hJ _ _ _ none h0 (World.grownBy_alloc W _ none) (fun r e => by cases e), Row.new W _ _⟩
  case round =>
    obtain ⟨a, ha, rfl, hj, hr⟩ := hrel
    by_cases ha2 : a < 2
    · have hc := hr.cell
      have hbit : (#[Value.bool false, Value.bool true] : Array Value)[a]? = some (.bool (decide (a = 1))) := by
        rcases (show a = 0 ∨ a = 1 by omega) with rfl | rfl <;> rfl
      have hca := (hc a).trans hbit
      have hda : decide ((a : Int) < 2) = true := by simp; omega
      clear hc hbit
      gi_wp2
      gi_loopw [12] (fun p wr => ∃ i : Nat, i ≤ 10 ∧ p = .int .i64 (i : Int) ∧ J (allK.take (80 * a + 8 * i)) wr ∧ Row wr W.heap.size #[.bool false, .bool true] 4) (fun p _ => 10 - (intOf p).toNat)
      case atStart =>
        exact ⟨0, by omega, rfl, hj, hr⟩
      case round =>
        obtain ⟨i, hi, rfl, hj, hr⟩ := hrel
        by_cases hi2 : i < 10
        · have hdi : decide ((i : Int) < 10) = true := by simp; omega
          gi_wp2
          gi_loopw [5] (fun p wr => ∃ g : Nat, g ≤ 8 ∧ p = .int .i64 (5 + (g : Int)) ∧ J (allK.take (80 * a + 8 * i + g)) wr ∧ Row wr W.heap.size #[.bool false, .bool true] 4) (fun p _ => 13 - (intOf p).toNat)
          case atStart =>
            exact ⟨0, by omega, rfl, hj, hr⟩
          case round =>
            obtain ⟨g, hg, rfl, hj, hr⟩ := hrel
            by_cases hg2 : g < 8
            · have hk : 80 * a + 8 * i + g < 160 := by omega
              have hlen : (allK.take (80 * a + 8 * i + g)).length < 160 := by rw [List.length_take, allK_len]; omega
              have hy0 := hY (allK.take (80 * a + 8 * i + g)) ⟨80 * a + 8 * i + g, hk⟩ wr hj hlen
              rw [enc_at a i g ha2 hi2 hg2, ← allK_take _ hk] at hy0
              obtain ⟨fn, tmps, assign, body, hy, hR⟩ := hy0
              gi_wp2
              refine hR.mono ?_
              rintro e W3 (⟨rfl, hJ3, hk3⟩ | ⟨rfl, hx3⟩)
              · gi_wp2
                go_roundw
                case rel => exact ⟨g + 1, by omega, by first | (congr 1; omega) | go_num, hJ3, hk3 _ _ hr⟩
                case measure => simp [intOf]; omega
              · gi_wp2
                refine bodyPost_ret (results_none rfl _ _ _) rfl ?_
                exact ⟨⟨_, rfl⟩, .inr ⟨_, List.take_prefix _ _, hx3⟩⟩
            · obtain rfl : g = 8 := by omega
              gi_wp2
              go_roundw
              case rel => exact ⟨i + 1, by omega, by go_num, hj, hr⟩
              case measure => simp [intOf]; omega
        · obtain rfl : i = 10 := by omega
          gi_wp2
          go_roundw
          case rel => exact ⟨a + 1, by omega, by go_num, hj, hr⟩
          case measure => simp [intOf]; omega
    · obtain rfl : a = 2 := by omega
      gi_wp2
      go_end0
      exact ⟨⟨_, rfl⟩, .inl ⟨_, List.take_of_length_le (by rw [allK_len]; omega), hj⟩⟩
end Go.Proofs.YtldghloflegpmaaGreatDoor

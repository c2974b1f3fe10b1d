/- The iterator over the right fits of the basic hole: its contract. The iterator over the right fits of the basic hole: its contract. Contract of package fit: Choose, at right arguments. Plain: the fit that is chosen is wanted, and no wanted one is wider. No program in sight. Contract of package fit: Choose, at any arguments. -/
import Derived.RangeFuncNested
import Derived.RangeFuncBound
import Derived.RangeFuncCalls
import Derived.RangeFuncLeaves
import Derived.Shelf.Abstract
import Derived.Shelf.RegionOpen
import Derived.WalkKit
import Derived.OwnWalkIn
import Derived.TacticsInMore
import Derived.LoopNIn
import Derived.LoopIn
import Derived.Maps.AppendAt
import Derived.RangeFuncBox
import Derived.Test.YtldghloflegpmaaGreatDoorFtB
import Derived.Test.YtldghloflegpmaaGreatDoorShi
import Derived.Test.YtldghloflegpmaaGreatDoorFtD
namespace Go.Proofs.YtldghloflegpmaaGreatDoor
open Go.RowKit Go.Shelf Pu Go.Lib
attribute [local go_sem] Oper.semAt_some

/-- One row is kept. -/
def K1 (b : Nat) (cs : Array Value) (T : TypeId) (W W' : World) : Prop := Row W b cs T → Row W' b cs T
theorem K1.t {b : Nat} {cs : Array Value} {T : TypeId} {A B C : World} (h : K1 b cs T A B) (k : K1 b cs T B C) : K1 b cs T A C := fun r => k (h r)
theorem K1.b {b : Nat} {cs : Array Value} {T : TypeId} (W : World) (l : Nat) (o o' : Obj) (h : W.heap[l]? = some o) (ho : o.isCells = false) : K1 b cs T W (W.putObj l o') := fun r => by
  refine ((grownBy_putObj' W l o').block b r.lt (fun e => ?_)).trans r
  cases e
  unfold Row at r
  rw [h] at r
  cases r
  cases ho

def bH (k : Fin 640) : Int := ((5 + k.1 / 80 : Nat) : Int)
def bL (k : Fin 640) : Int := ((k.1 / 8 % 10 : Nat) : Int)
def bG (k : Fin 640) : Int := ((5 + k.1 % 8 : Nat) : Int)
def okB (n : Int) (k : Fin 640) : Bool := decide (fE n true 4 (bH k) false (bL k) (bG k) = 0)
def encB (n : Int) (k : Fin 640) : Array Value := #[.agg (chkC n true 4 (bH k) false (bL k) (bG k) (mLow n true 4 (bH k)) (mHigh n true 4 (bH k)) (mLow n false (bL k) (bG k)) (mHigh n false (bL k) (bG k)))]
def allB : List (Fin 640) := List.finRange 640
theorem allB_len : allB.length = 640 := List.length_finRange
set_option maxRecDepth 100000 in
theorem allB_take (k : Nat) (h : k < 640) : allB.take (k + 1) = allB.take k ++ [⟨k, h⟩] := by
  rw [List.take_succ_eq_append_getElem (by rw [allB_len]; exact h)]
  congr 2
  unfold allB
  simp
theorem b_at (a i g : Nat) (_ha : a < 8) (hi : i < 10) (hg : g < 8) (h : 80 * a + 8 * i + g < 640) :
    bH ⟨80 * a + 8 * i + g, h⟩ = 5 + (a : Int) ∧ bL ⟨80 * a + 8 * i + g, h⟩ = (i : Int) ∧ bG ⟨80 * a + 8 * i + g, h⟩ = 5 + (g : Int) := by
  unfold bH bL bG
  simp only
  omega
end Go.Proofs.YtldghloflegpmaaGreatDoor

namespace Go.Proofs.YtldghloflegpmaaGreatDoor
open Go.RowKit Go.Shelf Pu Go.Lib
attribute [local go_sem] Oper.semAt_some

theorem grown_of {W W' : World} (h : Below W.heap.size W W') : W.grownBy W' none := ⟨h.os, h.tape, h.output, h.size, fun k hk _ => h.block k hk⟩
theorem index_h (w : World) : Calls Tryz.prog 107 #[.string ⟨#[100, 101, 102, 103, 104, 106, 107, 109, 110, 112]⟩, .int .u8 104] w fun e w' => e = .returned (.int .i64 4) ∧ w' = w :=
  Tryz.strings_IndexByte ⟨#[100, 101, 102, 103, 104, 106, 107, 109, 110, 112]⟩ 104 w

set_option maxRecDepth 100000 in
set_option maxHeartbeats 4000000 in
theorem basic_stops (n : Int) (m Bn : Nat) (hm : 1 ≤ m) (w : World) (hB : Row w Bn #[.int .i64 n] 3) :
    SeqStopsK Fence.wide m Tryz.prog 106 #[.pointer (some ⟨Bn, 0, none⟩)] (encB n) (K1 Bn #[.int .i64 n] 3) (fun xs => xs = allB.filter (okB n)) (fun pre => pre <+: allB.filter (okB n)) 640 w := fun l J Jx W hW hJ hJx hY h0 => by
  refine callsIn_of_wp Tryz.func106 rfl trivial ?_ rfl
  simp only [Tryz.ntmps106, List.size_toArray, List.length_cons, List.length_nil, Nat.reduceAdd, Nat.reduceSub, Array.replicate_succ, Array.replicate_zero, List.push_toArray, List.append_toArray, List.nil_append, List.cons_append]
  have hBW := hB.next hW
  gi_wp2_with (refine ⟨trivial, ?_⟩; gi_at_call 107; refine (callsIn_wide.2 (index_h _)).mono ?_; rintro e w' ⟨rfl, rfl⟩)
  gi_loopw [4] (fun p wr => ∃ a : Nat, a ≤ 8 ∧ p = .int .i64 (5 + (a : Int)) ∧ J ((allB.take (80 * a)).filter (okB n)) wr ∧ Row wr Bn #[.int .i64 n] 3) (fun p _ => 13 - (RowKit.intOf p).toNat)
  case atStart => exact ⟨0, by omega, rfl, h0, hBW⟩
  case round =>
    obtain ⟨a, ha, rfl, hj, hr⟩ := hrel
    by_cases ha2 : a < 8
    · have hda : decide (5 + (a : Int) ≤ 12) = true := by simp; omega
      gi_wp2
      gi_loopw [14] (fun p wr => ∃ i : Nat, i ≤ 10 ∧ p = .int .i64 (i : Int) ∧ J ((allB.take (80 * a + 8 * i)).filter (okB n)) wr ∧ Row wr Bn #[.int .i64 n] 3) (fun p _ => 10 - (RowKit.intOf p).toNat)
      case atStart => exact ⟨0, by omega, rfl, hj, hr⟩
      case round =>
        obtain ⟨i, hi, rfl, hj, hr⟩ := hrel
        by_cases hi2 : i < 10
        · have hdi : decide ((i : Int) < 10) = true := by simp; omega
          gi_wp2
          gi_loopw [6] (fun p wr => ∃ g : Nat, g ≤ 8 ∧ p = .int .i64 (5 + (g : Int)) ∧ J ((allB.take (80 * a + 8 * i + g)).filter (okB n)) wr ∧ Row wr Bn #[.int .i64 n] 3) (fun p _ => 13 - (RowKit.intOf p).toNat)
          case atStart => exact ⟨0, by omega, rfl, hj, hr⟩
          case round =>
            obtain ⟨g, hg, rfl, hj, hr⟩ := hrel
            by_cases hg2 : g < 8
            · have hk : 80 * a + 8 * i + g < 640 := by omega
              have hc := hr.cell
              obtain ⟨e1, e2, e3⟩ := b_at a i g ha2 hi2 hg2 hk
              have hdg : decide (5 + (g : Int) ≤ 12) = true := by simp; omega
              by_cases hf : fE n true 4 (5 + (a : Int)) false (i : Int) (5 + (g : Int)) = 0
              · obtain ⟨A, B, C, D, hv, hen⟩ : ∃ A B C D, chkV n true 4 (5 + (a : Int)) false (i : Int) (5 + (g : Int)) = .tuple #[.agg (chkC n true 4 (5 + (a : Int)) false (i : Int) (5 + (g : Int)) A B C D), .int .i64 0] ∧
                    encB n ⟨80 * a + 8 * i + g, hk⟩ = #[.agg (chkC n true 4 (5 + (a : Int)) false (i : Int) (5 + (g : Int)) A B C D)] :=
                  ⟨_, _, _, _, by unfold chkV; rw [if_pos hf], by unfold encB; rw [e1, e2, e3]⟩
                have hok : okB n ⟨80 * a + 8 * i + g, hk⟩ = true := by unfold okB; rw [e1, e2, e3]; exact decide_eq_true hf
                have htk : (allB.take (80 * a + 8 * i + (g + 1))).filter (okB n) = (allB.take (80 * a + 8 * i + g)).filter (okB n) ++ [⟨80 * a + 8 * i + g, hk⟩] := by
                  rw [show 80 * a + 8 * i + (g + 1) = 80 * a + 8 * i + g + 1 by omega, allB_take _ hk, List.filter_append]; simp [hok]
                have hlen : ((allB.take (80 * a + 8 * i + g)).filter (okB n)).length < 640 := Nat.lt_of_le_of_lt (List.length_filter_le _ _) (by rw [List.length_take, allB_len]; omega)
                have Hv := Lib.hid hv
                clear hv hf hok e1 e2 e3
                gi_wp2_with (refine ⟨trivial, ?_⟩; gi_at_call 51; refine (callsIn_wide.2 (fcheck_c n true 4 (5 + (a : Int)) false (i : Int) (5 + (g : Int)) _)).mono ?_; rintro e w2 ⟨rfl, hbb⟩; rw [Hv.out])
                have hr2 := (hr.next hbb).alloc (.cells (chkC n true 4 (5 + (a : Int)) false (i : Int) (5 + (g : Int)) A B C D) 96)
                have hj3 := hJ _ _ _ none (hJ _ _ _ none hj (grown_of hbb) (fun r e => by cases e)) (World.grownBy_alloc w2 (.cells (chkC n true 4 (5 + (a : Int)) false (i : Int) (5 + (g : Int)) A B C D) 96) none) (fun r e => by cases e)
                have hy0 := hY _ ⟨80 * a + 8 * i + g, hk⟩ _ hj3 hlen
                rw [hen, ← htk] at hy0
                clear hen htk
                obtain ⟨fn, tmps, assign, body, hy, hR⟩ := hy0
                rw [hy]
                gi_wp2
                refine hR.mono ?_
                rintro e W3 (⟨rfl, hJ3, hk3⟩ | ⟨rfl, hx3⟩)
                · gi_wp2
                  go_roundw
                  case rel => exact ⟨g + 1, by omega, by first | (congr 1; omega) | go_num, hJ3, hk3 hr2⟩
                  case measure => simp [RowKit.intOf]; omega
                · gi_wp2
                  refine bodyPost_ret (results_none rfl _ _ _) rfl ?_
                  exact ⟨⟨_, rfl⟩, .inr ⟨_, (List.take_prefix _ _).filter _, hx3⟩⟩
              · have hv : chkV n true 4 (5 + (a : Int)) false (i : Int) (5 + (g : Int)) = .tuple #[.agg (chkC 0 false 0 0 false 0 0 0 0 0 0), .int .i64 (fE n true 4 (5 + (a : Int)) false (i : Int) (5 + (g : Int)))] := by unfold chkV; rw [if_neg hf]
                have hok : okB n ⟨80 * a + 8 * i + g, hk⟩ = false := by unfold okB; rw [e1, e2, e3]; exact decide_eq_false hf
                have htk : (allB.take (80 * a + 8 * i + (g + 1))).filter (okB n) = (allB.take (80 * a + 8 * i + g)).filter (okB n) := by
                  rw [show 80 * a + 8 * i + (g + 1) = 80 * a + 8 * i + g + 1 by omega, allB_take _ hk, List.filter_append]; simp [hok]
                have hx : (fE n true 4 (5 + (a : Int)) false (i : Int) (5 + (g : Int)) == 0) = false := by simpa using hf
                generalize fE n true 4 (5 + (a : Int)) false (i : Int) (5 + (g : Int)) = x at *
                have Hv := Lib.hid hv
                clear hv hf hok e1 e2 e3
                gi_wp2_with (refine ⟨trivial, ?_⟩; gi_at_call 51; refine (callsIn_wide.2 (fcheck_c n true 4 (5 + (a : Int)) false (i : Int) (5 + (g : Int)) _)).mono ?_; rintro e w2 ⟨rfl, hbb⟩; rw [Hv.out])
                have hr2 := (hr.next hbb).alloc (.cells (chkC 0 false 0 0 false 0 0 0 0 0 0) 96)
                have hj3 := hJ _ _ _ none (hJ _ _ _ none hj (grown_of hbb) (fun r e => by cases e)) (World.grownBy_alloc w2 (.cells (chkC 0 false 0 0 false 0 0 0 0 0 0) 96) none) (fun r e => by cases e)
                rw [← htk] at hj3
                gi_wp2
                refine ⟨(fun f hf => by cases hf), ?_⟩
                gi_wp2
                go_roundw
                case rel => exact ⟨g + 1, by omega, by first | (congr 1; omega) | go_num, hj3, hr2⟩
                case measure => simp [RowKit.intOf]; omega
            · obtain rfl : g = 8 := by omega
              gi_wp2
              go_roundw
              case rel => exact ⟨i + 1, by omega, by go_num, hj, hr⟩
              case measure => simp [RowKit.intOf]; omega
        · obtain rfl : i = 10 := by omega
          gi_wp2
          go_roundw
          case rel => exact ⟨a + 1, by omega, by first | (congr 1; omega) | go_num, hj, hr⟩
          case measure => simp [RowKit.intOf]; omega
    · obtain rfl : a = 8 := by omega
      gi_wp2
      go_end0
      exact ⟨⟨_, rfl⟩, .inl ⟨_, by rw [List.take_of_length_le (by rw [allB_len]; omega)], hj⟩⟩
end Go.Proofs.YtldghloflegpmaaGreatDoor

namespace Go.Proofs.YtldghloflegpmaaGreatDoor
open Go.RowKit Go.Shelf Pu Go.Lib
attribute [local go_sem] Oper.semAt_some

/-- The least and the greatest clearance of a fit of the basic hole. -/
def cLo (n : Int) (k : Fin 640) : Int := mLow n true 4 (bH k) - mHigh n false (bL k) (bG k)
def cHi (n : Int) (k : Fin 640) : Int := mHigh n true 4 (bH k) - mLow n false (bL k) (bG k)
/-- The fit that is best so far, and how wide it is. -/
def stepC (n lo hi : Int) (s : Option (Fin 640) × Int) (k : Fin 640) : Option (Fin 640) × Int := if lo ≤ cLo n k ∧ cHi n k ≤ hi ∧ s.2 < cHi n k - cLo n k then (some k, cHi n k - cLo n k) else s
def chC (n lo hi : Int) (l : List (Fin 640)) : Option (Fin 640) × Int := l.foldl (stepC n lo hi) (none, -1)
def fitO (n : Int) : Option (Fin 640) → Array Value
  | none => fitC 0 false 0 0 false 0 0
  | some k => fitC n true 4 (bH k) false (bL k) (bG k)
theorem chC_snoc (n lo hi : Int) (pre : List (Fin 640)) (x : Fin 640) : chC n lo hi (pre ++ [x]) = stepC n lo hi (chC n lo hi pre) x := by simp [chC]
theorem chC_hit {n lo hi : Int} {pre : List (Fin 640)} {x : Fin 640} (h1 : lo ≤ cLo n x) (h2 : cHi n x ≤ hi) (h3 : (chC n lo hi pre).2 < cHi n x - cLo n x) : chC n lo hi (pre ++ [x]) = (some x, cHi n x - cLo n x) := by
  rw [chC_snoc]; unfold stepC; rw [if_pos ⟨h1, h2, h3⟩]
theorem chC_miss {n lo hi : Int} {pre : List (Fin 640)} {x : Fin 640} (h : ¬ (lo ≤ cLo n x ∧ cHi n x ≤ hi ∧ (chC n lo hi pre).2 < cHi n x - cLo n x)) : chC n lo hi (pre ++ [x]) = chC n lo hi pre := by
  rw [chC_snoc]; unfold stepC; rw [if_neg h]
/-- What Choose returns at right arguments. -/
def chV (n lo hi : Int) : Value :=
  if (chC n lo hi (allB.filter (okB n))).2 < 0 then .tuple #[.agg (fitC 0 false 0 0 false 0 0), .int .i64 6] else .tuple #[.agg (fitO n (chC n lo hi (allB.filter (okB n))).1), .int .i64 0]

theorem basic_in (F : Fence) (m : Nat) (h5 : F.fn 70) (hro : F.round = none) (n : Int) (w : World) :
    CallsIn F m Tryz.prog 70 #[.int .i64 n] w fun e w' => e = .returned (.func (.func 106) #[] #[.pointer (some ⟨w.heap.size, 0, none⟩)]) ∧ w' = w.alloc (.cells #[.int .i64 n] 3) := by
  refine callsIn_of_wp Tryz.func70 rfl h5 ?_ hro
  simp only [Tryz.ntmps70, List.size_toArray, List.length_nil, List.length_cons, Nat.reduceAdd, Nat.reduceSub, Array.replicate_succ, Array.replicate_zero, List.push_toArray, List.append_toArray, List.nil_append, List.cons_append]
  gi_wp2
  go_ret
  exact ⟨rfl, rfl⟩

theorem basic_stops' (n : Int) (m Bn : Nat) (hm : 1 ≤ m) (w : World) (hB : Row w Bn #[.int .i64 n] 3) :
    SeqStopsK Fence.wide m Tryz.prog 106 #[.pointer (some ⟨Bn, 0, none⟩)] (fun k : Fin 640 => #[Value.agg (chkC n true 4 (bH k) false (bL k) (bG k) (mLow n true 4 (bH k)) (mHigh n true 4 (bH k)) (mLow n false (bL k) (bG k)) (mHigh n false (bL k) (bG k)))])
      (K1 Bn #[.int .i64 n] 3) (fun xs => xs = allB.filter (okB n)) (fun pre => pre <+: allB.filter (okB n)) 640 w := basic_stops n m Bn hm w hB
/-- An operation that defers nothing does in a round what it does outside. -/
def noDefer (o : Oper) : Bool := match o.op with
  | .defer _ => false
  | _ => true
theorem noDefer_of {o : Oper} (h : noDefer o = true) : ∀ d, o.op ≠ .defer d := by
  intro d e
  unfold noDefer at h
  rw [e] at h
  cases h
theorem wpAnyIn_round {n : Nat} {P : Program} {md : Region.Mode} {ops : Array Oper} {Q : Exit → Act → World → Prop} (l : Nat) (hnd : ops.all noDefer = true) :
    ∀ (fuel : Nat) (listed : Array Bool) (a : Act) (w : World), wpAnyIn Fence.wide n P md ops Q fuel listed a w → wpAnyIn (Fence.wide.inRound l) n P md ops Q fuel listed a w
  | 0, _, _, _, h => h
  | fuel + 1, listed, a, w, h => by
    refine ⟨h.1, fun i hi => ?_⟩
    have h2 := h.2 i hi
    unfold wpOpIn at h2 ⊢
    cases ho : ops[i]? with
    | none => rw [ho] at h2; exact wpAnyIn_round l hnd fuel _ _ _ h2
    | some o =>
      rw [ho] at h2
      dsimp only at h2 ⊢
      have hd : noDefer o = true := Array.all_eq_true_iff_forall_mem.1 hnd o (Array.mem_of_getElem? ho)
      by_cases hw : Region.wanted o (yielded ops a.tmps) = true
      · rw [if_pos hw] at h2 ⊢
        have h3 := Oper.wpIn_mono (fun a w => wpAnyIn_round l hnd fuel _ a w) h2
        unfold Oper.wpIn at h3 ⊢
        rw [Oper.semAt_eq _ _ _ (noDefer_of hd)] at h3 ⊢
        refine ⟨h3.1, ?_⟩
        have h4 := h3.2
        generalize Sem.run P (execOp a.eval o) w = r at h4 ⊢
        exact h4
      · rw [if_neg hw] at h2 ⊢
        exact ⟨h2.1, wpAnyIn_round l hnd fuel _ _ _ h2.2⟩
theorem wrap_in {x : Int} (h0 : -1000000 ≤ x) (h1 : x ≤ 1000000) : IntKind.i64.wrap x = x := by
  simp [IntKind.wrap, IntKind.bits, IntKind.signed]; omega
theorem Row.aside {w : World} {b g : Nat} {cs : Array Value} {T : TypeId} (h : Row w b cs T) (hne : b ≠ g) (ds : Array Value) : Row (w.setRow g ds) b cs T := (setRow_other w g b ds hne).trans h
theorem infoFit : (Tryz.prog.info? 42).map (·.size) = some 7 := by kernel_rfl
theorem one_fit (n : Int) (hh : Bool) (hl hg : Int) (sh : Bool) (sl sg : Int) : (fitC n hh hl hg sh sl sg).all (·.oneCell') = true := by kernel_rfl
theorem cho_results {tmps : Array Value} {w : World} {b : Nat} {cs : Array Value} {e : Int} (h4 : tmps.getD 4 undef = .pointer (some ⟨b, 0, none⟩)) (h5 : tmps.getD 5 undef = .int .i64 e) (hr : Row w b cs 42) (hs : (Tryz.prog.info? 42).map (·.size) = some cs.size) :
    (results Tryz.f37 tmps).run Tryz.prog w = .ok (.tuple #[.agg cs, .int .i64 e]) w := by
  have h4' : tmps[4]?.getD undef = .pointer (some ⟨b, 0, none⟩) := by simpa using h4
  have h5' : tmps[5]?.getD undef = .int .i64 e := by simpa using h5
  simp [results, Tryz.results37, h4', h5', asAddr, run_loadVar_row (P := Tryz.prog) w b 42 42 cs (0, 0) _ hr Tryz.underlying42 rfl hs]
theorem Row.held {W W' : World} {row : Option Nat} {b : Nat} {cs : Array Value} {T : TypeId} (h : Row W b cs T) (hg : W.grownBy W' row) (hne : some b ≠ row) : Row W' b cs T := (hg.block b h.lt hne).trans h
theorem row_ownf {β : Type} (b : Nat) (f : β → Array Value) (T : TypeId) : Own (fun (s : β) W => Row W b (f s) T) := fun s X Y row hs hg hrow =>
  hs.held hg (fun e' => by obtain ⟨o, ho, hc⟩ := hrow b e'.symm; rw [show X.heap[b]? = _ from hs] at ho; cases ho; cases hc)
theorem keeps_of {W W' : World} (h : Below W.heap.size W W') : KeepsOthers W W' := KeepsOthers.of_grownBy (grown_of h) (fun _ _ e => by cases e)

set_option maxRecDepth 100000 in
set_option maxHeartbeats 4000000 in
theorem Choose_in (n lo hi : Int) (w : World) (hz : zE n = 0) (h1 : -100000 ≤ lo) (h2 : lo ≤ 100000) (h3 : -100000 ≤ hi) (h4 : hi ≤ 100000) (h5 : lo ≤ hi) :
    CallsIn Fence.wide 3 Tryz.prog 37 #[.int .i64 n, .agg #[.int .i64 lo, .int .i64 hi]] w fun e W' => e = .returned (chV n lo hi) ∧ Below w.heap.size w W' := by
  have Hz := Lib.hid hz
  clear hz
  refine callsIn_of_wp_marks Tryz.func37 rfl trivial ?_ rfl
  simp only [Tryz.ntmps37, List.size_toArray, List.length_cons, List.length_nil, Nat.reduceAdd, Nat.reduceSub, Array.replicate_succ, Array.replicate_zero, List.push_toArray, List.append_toArray, List.nil_append, List.cons_append]
  have t0 := fun w => ints_at0 (.int .i64 lo) (.int .i64 hi) w
  have t1 := fun w => ints_at1 (.int .i64 lo) (.int .i64 hi) w
  gi_wp2_with (refine ⟨trivial, ?_⟩; gi_at_call 69; refine (callsIn_wide.2 (fsized_c _ _)).mono ?_; rintro e w' ⟨rfl, rfl⟩; rw [Hz.out])
  refine wpIn_loop_rounds 3 ?_
  rw [roundsIn_succ]
  gi_wp2
  rw [roundsIn_succ]
  gi_wp2
  rw [roundsIn_succ]
  gi_wp2_with (refine ⟨trivial, ?_⟩; gi_at_call 70; refine (basic_in Fence.wide 2 trivial rfl n _).mono ?_; rintro e w' ⟨rfl, rfl⟩)
  obtain ⟨W0, hW0⟩ : ∃ W0, ((((w.alloc (.cells #[.int .i64 lo, .int .i64 hi] 23)).alloc (.cells (fitC 0 false 0 0 false 0 0) 42)).alloc (.cells (fitC 0 false 0 0 false 0 0) 42)).alloc (.cells #[.int .i64 (-1)] 3)).alloc (.cells #[.int .i64 n] 3) = W0 := ⟨_, rfl⟩
  have hsz : W0.heap.size = w.heap.size + 5 := by rw [← hW0]; simp
  have rL0 : Row W0 w.heap.size #[.int .i64 lo, .int .i64 hi] 23 := by rw [← hW0]; exact ((((Row.new w _ _).alloc _).alloc _).alloc _).alloc _
  have rZ0 : Row W0 (w.heap.size + 1) (fitC 0 false 0 0 false 0 0) 42 := by
    rw [← hW0]
    have := (((Row.new (w.alloc (.cells #[.int .i64 lo, .int .i64 hi] 23)) (fitC 0 false 0 0 false 0 0) 42).alloc (.cells (fitC 0 false 0 0 false 0 0) 42)).alloc (.cells #[.int .i64 (-1)] 3)).alloc (.cells #[.int .i64 n] 3)
    simpa using this
  have rB0 : Row W0 (w.heap.size + 1 + 1) (fitC 0 false 0 0 false 0 0) 42 := by
    rw [← hW0]
    have := ((Row.new ((w.alloc (.cells #[.int .i64 lo, .int .i64 hi] 23)).alloc (.cells (fitC 0 false 0 0 false 0 0) 42)) (fitC 0 false 0 0 false 0 0) 42).alloc (.cells #[.int .i64 (-1)] 3)).alloc (.cells #[.int .i64 n] 3)
    simpa using this
  have rW0 : Row W0 (w.heap.size + 1 + 1 + 1) #[.int .i64 (-1)] 3 := by
    rw [← hW0]
    have := (Row.new (((w.alloc (.cells #[.int .i64 lo, .int .i64 hi] 23)).alloc (.cells (fitC 0 false 0 0 false 0 0) 42)).alloc (.cells (fitC 0 false 0 0 false 0 0) 42)) #[.int .i64 (-1)] 3).alloc (.cells #[.int .i64 n] 3)
    simpa using this
  have rN0 : Row W0 (w.heap.size + 1 + 1 + 1 + 1) #[.int .i64 n] 3 := by
    rw [← hW0]
    have := Row.new ((((w.alloc (.cells #[.int .i64 lo, .int .i64 hi] 23)).alloc (.cells (fitC 0 false 0 0 false 0 0) 42)).alloc (.cells (fitC 0 false 0 0 false 0 0) 42)).alloc (.cells #[.int .i64 (-1)] 3)) #[.int .i64 n] 3
    simpa using this
  have hB0 : Below w.heap.size w W0 := by rw [← hW0]; exact (((((Below.refl _ w).alloc (Nat.le_refl _) _).alloc (by simp) _).alloc (by simp; omega) _).alloc (by simp; omega) _).alloc (by simp; omega) _
  rw [hW0]
  clear hW0 t0 t1
  refine wpIn_rangeFunc_ownH rfl (by omega) (gf := 106) (lb := #[.pointer (some ⟨w.heap.size + 1 + 1 + 1 + 1, 0, none⟩)]) rfl trivial (enters_of Tryz.func106 (by kernel_rfl) rfl)
    (basic_stops' n 2 (w.heap.size + 1 + 1 + 1 + 1) (by omega) W0 rN0) K1.t (fun W l o o' _ h ho _ => K1.b W l o o' h ho) (Below.refl _ _) (fun _ => rfl)
    (fun pre W => ((Row W (w.heap.size + 1 + 1) (fitO n (chC n lo hi pre).1) 42 ∧ Row W (w.heap.size + 1 + 1 + 1) #[.int .i64 (chC n lo hi pre).2] 3) ∧ Row W w.heap.size #[.int .i64 lo, .int .i64 hi] 23 ∧ Row W (w.heap.size + 1) (fitC 0 false 0 0 false 0 0) 42) ∧ Below w.heap.size w W)
    (fun _ _ _ => False)
    (OwnFrom.and (OwnFrom.and (OwnFrom.and (Own.from (row_ownf _ (fun pre => fitO n (chC n lo hi pre).1) _) _) (Own.from (row_ownf _ (fun pre => #[.int .i64 (chC n lo hi pre).2]) _) _)) (OwnFrom.and (Own.from (row_ownf _ (fun _ => #[.int .i64 lo, .int .i64 hi]) _) _) (Own.from (row_ownf _ (fun _ => fitC 0 false 0 0 false 0 0) _) _))) (ownFrom_below (Nat.le_refl _) (by omega)))
    (fun _ _ _ _ _ hs _ _ => hs)
    ⟨⟨⟨rB0, rW0⟩, rL0, rZ0⟩, hB0⟩
    (fun x a' W => ∃ Bx, w.heap.size + 1 + 1 + 1 < Bx ∧ Row W Bx (chkC n true 4 (bH x) false (bL x) (bG x) (mLow n true 4 (bH x)) (mHigh n true 4 (bH x)) (mLow n false (bL x) (bG x)) (mHigh n false (bL x) (bG x))) 96 ∧ a' = { tmps := #[.int .i64 n, .agg #[.int .i64 lo, .int .i64 hi], undef, .pointer (some ⟨w.heap.size, 0, none⟩), .pointer (some ⟨w.heap.size + 1, 0, none⟩), .int .i64 0, .int .i64 0, undef, .int .i64 hi, .pointer (some ⟨w.heap.size + 1 + 1, 0, none⟩), .pointer (some ⟨w.heap.size + 1 + 1 + 1, 0, none⟩), .pointer (some ⟨Bx, 0, none⟩), undef, .int .i64 n, .int .i64 0, .int .i64 0, .bool false, undef, undef, .pointer (some ⟨w.heap.size, 0, none⟩), .int .i64 lo, .pointer (some ⟨w.heap.size, 1, none⟩), .int .i64 hi, .agg #[.int .i64 lo, .int .i64 hi], .int .i64 2, .bool false, .int .i64 hi, .int .i64 hi, .bool (decide (hi < -100000)), .bool (decide (hi < -100000)), .int .i64 hi, .bool (decide (100000 < hi)), .bool (decide (hi < -100000) || decide (100000 < hi)), undef, .int .i64 2, .pointer (some ⟨w.heap.size, 0, none⟩), .int .i64 lo, .pointer (some ⟨w.heap.size, 1, none⟩), .int .i64 hi, .bool (decide (hi < lo)), undef, .agg (fitC 0 false 0 0 false 0 0), .int .i64 n, .func (.func 106) #[] #[.pointer (some ⟨w.heap.size + 1 + 1 + 1 + 1, 0, none⟩)], .agg (chkC n true 4 (bH x) false (bL x) (bG x) (mLow n true 4 (bH x)) (mHigh n true 4 (bH x)) (mLow n false (bL x) (bG x)) (mHigh n false (bL x) (bG x))), undef, undef, undef, undef, undef, undef, undef, undef, undef, undef, undef, undef, undef, undef, undef, undef, undef, undef, undef, undef, undef, undef, undef, undef, undef, undef, undef, undef, undef, undef, undef, undef, undef, undef, undef], defers := [] })
    (fun x a' _ X Y row hs hg hr => by obtain ⟨Bx, h1, h2, h3⟩ := hs; exact ⟨Bx, h1, row_ownf Bx (fun _ => _) 96 () X Y row h2 hg (fun r e => (hr r e).2), h3⟩)
    ?assign ?body ?done ?stop
  case assign =>
    rintro l pre x W K ⟨⟨⟨rB, rW⟩, rL, rZ⟩, hB⟩ hK
    gi_wp2
    exact hK _ _ ((KeepsOthers.alloc _ _).from _) (fun r => r.alloc _) ⟨⟨⟨rB.alloc _, rW.alloc _⟩, rL.alloc _, rZ.alloc _⟩, hB.alloc hB.size _⟩ ⟨W.heap.size, rW.lt, Row.new W _ _, rfl⟩
  case body =>
    rintro l pre x a' W hl ⟨r, hr⟩ ⟨⟨⟨rB, rW⟩, rL, rZ⟩, hB⟩ ⟨Bx, hBx, rX, rfl⟩ hlt
    have bA := m_bd n true 4 (bH x)
    have bC := m_bd n false (bL x) (bG x)
    have hcl : cLo n x = mLow n true 4 (bH x) - mHigh n false (bL x) (bG x) := rfl
    have hch : cHi n x = mHigh n true 4 (bH x) - mLow n false (bL x) (bG x) := rfl
    obtain ⟨wd, hwd⟩ : ∃ wd, (chC n lo hi pre).2 = wd := ⟨_, rfl⟩
    rw [hwd] at rW
    generalize mLow n true 4 (bH x) = A at *
    generalize mHigh n true 4 (bH x) = B at *
    generalize mLow n false (bL x) (bG x) = C at *
    generalize mHigh n false (bL x) (bG x) = D at *
    have cX := rX.cell
    have cW := rW.cell
    have cL := rL.cell
    have HW := Lib.hid hwd
    clear hwd
    by_cases k1 : lo ≤ A - D
    · by_cases k2 : B - C ≤ hi
      · by_cases k3 : wd < (B - C) - (A - D)
        · have hit := chC_hit (pre := pre) (x := x) (n := n) (lo := lo) (hi := hi) (by rw [hcl]; exact k1) (by rw [hch]; exact k2) (by rw [HW.out, hcl, hch]; exact k3)
          rw [hcl, hch] at hit
          have HI := Lib.hid hit
          clear hit hcl hch
          gi_wp2_with (refine ⟨trivial, ?_⟩; gi_at_call 55; refine (CallsIn.inRound l (callsIn_wide.2 (clearance_c A B C D _ bA.1 bA.2 bC.1 bC.2))).mono ?_; rintro e w2 ⟨rfl, hbb⟩; have cW2 := ((rW.next hbb).alloc (.cells #[.int .i64 (A - D), .int .i64 (B - C)] 23)).cell; have cL2 := ((rL.next hbb).alloc (.cells #[.int .i64 (A - D), .int .i64 (B - C)] 23)).cell; have cX2 := ((rX.next hbb).alloc (.cells #[.int .i64 (A - D), .int .i64 (B - C)] 23)).cell)
          have rB2 := (rB.next hbb).alloc (.cells #[.int .i64 (A - D), .int .i64 (B - C)] 23)
          have rW2 := (rW.next hbb).alloc (.cells #[.int .i64 (A - D), .int .i64 (B - C)] 23)
          have rL2 := (rL.next hbb).alloc (.cells #[.int .i64 (A - D), .int .i64 (B - C)] 23)
          have rZ2 := (rZ.next hbb).alloc (.cells #[.int .i64 (A - D), .int .i64 (B - C)] 23)
          have rC2 := Row.new w2 #[.int .i64 (A - D), .int .i64 (B - C)] 23
          have hbW := hbb.alloc hbb.size (.cells #[.int .i64 (A - D), .int .i64 (B - C)] 23)
          have hs2 := hB.size
          have hs3 := rW.lt
          have hs4 := hbb.size
          obtain ⟨Bc, hBc⟩ : ∃ Bc, w2.heap.size = Bc := ⟨_, rfl⟩
          rw [hBc] at rC2 ⊢
          have cC2 := rC2.cell
          have kN : Row W (w.heap.size + 1 + 1 + 1 + 1) #[.int .i64 n] 3 → Row (w2.alloc (.cells #[.int .i64 (A - D), .int .i64 (B - C)] 23)) (w.heap.size + 1 + 1 + 1 + 1) #[.int .i64 n] 3 := fun r => (r.next hbb).alloc _
          obtain ⟨V, hV⟩ : ∃ V, w2.alloc (.cells #[.int .i64 (A - D), .int .i64 (B - C)] 23) = V := ⟨_, rfl⟩
          rw [hV] at kN rB2 rW2 rL2 rZ2 rC2 hbW cW2 cL2 cX2 cC2 ⊢
          clear hV cW cL cX
          obtain ⟨o0, o1, o2, o3, o4, o5, o6, hO⟩ : ∃ o0 o1 o2 o3 o4 o5 o6, fitO n (chC n lo hi pre).1 = #[o0, o1, o2, o3, o4, o5, o6] := by
            cases (chC n lo hi pre).1 <;> exact ⟨_, _, _, _, _, _, _, rfl⟩
          rw [hO] at rB2
          have cB2 := rB2.cell
          have fB2 := rB2.frozen
          have fW2 := rW2.frozen
          have hmx : Tryz.prog.follows .mixedOrders = true := by kernel_rfl
          have ne1 : Bc ≠ w.heap.size + 1 + 1 := by omega
          have ne2 : w.heap.size + 1 + 1 + 1 ≠ w.heap.size + 1 + 1 := by omega
          have rW7 := (((((((rW2.other (p := ⟨w.heap.size + 1 + 1, 0, none⟩) ne2 (.int .i64 n)).other (p := ⟨w.heap.size + 1 + 1, 1, none⟩) ne2 (.bool true)).other (p := ⟨w.heap.size + 1 + 1, 2, none⟩) ne2 (.int .i64 4)).other (p := ⟨w.heap.size + 1 + 1, 3, none⟩) ne2 (.int .i64 (bH x))).other (p := ⟨w.heap.size + 1 + 1, 4, none⟩) ne2 (.bool false)).other (p := ⟨w.heap.size + 1 + 1, 5, none⟩) ne2 (.int .i64 (bL x))).other (p := ⟨w.heap.size + 1 + 1, 6, none⟩) ne2 (.int .i64 (bG x)))
          have hwr : IntKind.i64.wrap (B - C - (A - D)) = B - C - (A - D) := wrap_in (by omega) (by omega)
          clear cL2
          refine wpIn_region_any hmx (wpAnyIn_round l (by kernel_rfl) _ _ _ _ ?_)
          change wpAnyIn _ _ _ _ _ _ _ _ _ (World.drew _)
          have ne3 : w.heap.size ≠ w.heap.size + 1 + 1 := by omega
          have ne4 : w.heap.size + 1 ≠ w.heap.size + 1 + 1 := by omega
          have ne5 : w.heap.size + 1 + 1 + 1 + 1 ≠ w.heap.size + 1 + 1 := by omega
          have rB7 : Row (((((((V.setCell ⟨w.heap.size + 1 + 1, 0, none⟩ (.int .i64 n)).setCell ⟨w.heap.size + 1 + 1, 1, none⟩ (.bool true)).setCell ⟨w.heap.size + 1 + 1, 2, none⟩ (.int .i64 4)).setCell ⟨w.heap.size + 1 + 1, 3, none⟩ (.int .i64 (bH x))).setCell ⟨w.heap.size + 1 + 1, 4, none⟩ (.bool false)).setCell ⟨w.heap.size + 1 + 1, 5, none⟩ (.int .i64 (bL x))).setCell ⟨w.heap.size + 1 + 1, 6, none⟩ (.int .i64 (bG x))) (w.heap.size + 1 + 1) (fitC n true 4 (bH x) false (bL x) (bG x)) 42 := by
            have := (((((((rB2.put 0 (.int .i64 n)).put 1 (.bool true)).put 2 (.int .i64 4)).put 3 (.int .i64 (bH x))).put 4 (.bool false)).put 5 (.int .i64 (bL x))).put 6 (.int .i64 (bG x)))
            simpa using this
          have rW8 : Row ((((((((V.setCell ⟨w.heap.size + 1 + 1, 0, none⟩ (.int .i64 n)).setCell ⟨w.heap.size + 1 + 1, 1, none⟩ (.bool true)).setCell ⟨w.heap.size + 1 + 1, 2, none⟩ (.int .i64 4)).setCell ⟨w.heap.size + 1 + 1, 3, none⟩ (.int .i64 (bH x))).setCell ⟨w.heap.size + 1 + 1, 4, none⟩ (.bool false)).setCell ⟨w.heap.size + 1 + 1, 5, none⟩ (.int .i64 (bL x))).setCell ⟨w.heap.size + 1 + 1, 6, none⟩ (.int .i64 (bG x))).setCell ⟨w.heap.size + 1 + 1 + 1, 0, none⟩ (.int .i64 ((B - C) - (A - D)))) (w.heap.size + 1 + 1 + 1) #[.int .i64 ((B - C) - (A - D))] 3 := by
            have := rW7.put 0 (.int .i64 ((B - C) - (A - D)))
            simpa using this
          have hbF : Below w.heap.size w V := hB.trans (hbW.mono hB.size)
          have fin : KeepsFrom W0.heap.size W ((((((((V.setCell ⟨w.heap.size + 1 + 1, 0, none⟩ (.int .i64 n)).setCell ⟨w.heap.size + 1 + 1, 1, none⟩ (.bool true)).setCell ⟨w.heap.size + 1 + 1, 2, none⟩ (.int .i64 4)).setCell ⟨w.heap.size + 1 + 1, 3, none⟩ (.int .i64 (bH x))).setCell ⟨w.heap.size + 1 + 1, 4, none⟩ (.bool false)).setCell ⟨w.heap.size + 1 + 1, 5, none⟩ (.int .i64 (bL x))).setCell ⟨w.heap.size + 1 + 1, 6, none⟩ (.int .i64 (bG x))).setCell ⟨w.heap.size + 1 + 1 + 1, 0, none⟩ (.int .i64 ((B - C) - (A - D)))).drew ∧ K1 (w.heap.size + 1 + 1 + 1 + 1) #[.int .i64 n] 3 W ((((((((V.setCell ⟨w.heap.size + 1 + 1, 0, none⟩ (.int .i64 n)).setCell ⟨w.heap.size + 1 + 1, 1, none⟩ (.bool true)).setCell ⟨w.heap.size + 1 + 1, 2, none⟩ (.int .i64 4)).setCell ⟨w.heap.size + 1 + 1, 3, none⟩ (.int .i64 (bH x))).setCell ⟨w.heap.size + 1 + 1, 4, none⟩ (.bool false)).setCell ⟨w.heap.size + 1 + 1, 5, none⟩ (.int .i64 (bL x))).setCell ⟨w.heap.size + 1 + 1, 6, none⟩ (.int .i64 (bG x))).setCell ⟨w.heap.size + 1 + 1 + 1, 0, none⟩ (.int .i64 ((B - C) - (A - D)))).drew ∧
              (((Row ((((((((V.setCell ⟨w.heap.size + 1 + 1, 0, none⟩ (.int .i64 n)).setCell ⟨w.heap.size + 1 + 1, 1, none⟩ (.bool true)).setCell ⟨w.heap.size + 1 + 1, 2, none⟩ (.int .i64 4)).setCell ⟨w.heap.size + 1 + 1, 3, none⟩ (.int .i64 (bH x))).setCell ⟨w.heap.size + 1 + 1, 4, none⟩ (.bool false)).setCell ⟨w.heap.size + 1 + 1, 5, none⟩ (.int .i64 (bL x))).setCell ⟨w.heap.size + 1 + 1, 6, none⟩ (.int .i64 (bG x))).setCell ⟨w.heap.size + 1 + 1 + 1, 0, none⟩ (.int .i64 ((B - C) - (A - D)))).drew (w.heap.size + 1 + 1) (fitO n (chC n lo hi (pre ++ [x])).1) 42 ∧ Row ((((((((V.setCell ⟨w.heap.size + 1 + 1, 0, none⟩ (.int .i64 n)).setCell ⟨w.heap.size + 1 + 1, 1, none⟩ (.bool true)).setCell ⟨w.heap.size + 1 + 1, 2, none⟩ (.int .i64 4)).setCell ⟨w.heap.size + 1 + 1, 3, none⟩ (.int .i64 (bH x))).setCell ⟨w.heap.size + 1 + 1, 4, none⟩ (.bool false)).setCell ⟨w.heap.size + 1 + 1, 5, none⟩ (.int .i64 (bL x))).setCell ⟨w.heap.size + 1 + 1, 6, none⟩ (.int .i64 (bG x))).setCell ⟨w.heap.size + 1 + 1 + 1, 0, none⟩ (.int .i64 ((B - C) - (A - D)))).drew (w.heap.size + 1 + 1 + 1) #[.int .i64 (chC n lo hi (pre ++ [x])).2] 3) ∧ Row ((((((((V.setCell ⟨w.heap.size + 1 + 1, 0, none⟩ (.int .i64 n)).setCell ⟨w.heap.size + 1 + 1, 1, none⟩ (.bool true)).setCell ⟨w.heap.size + 1 + 1, 2, none⟩ (.int .i64 4)).setCell ⟨w.heap.size + 1 + 1, 3, none⟩ (.int .i64 (bH x))).setCell ⟨w.heap.size + 1 + 1, 4, none⟩ (.bool false)).setCell ⟨w.heap.size + 1 + 1, 5, none⟩ (.int .i64 (bL x))).setCell ⟨w.heap.size + 1 + 1, 6, none⟩ (.int .i64 (bG x))).setCell ⟨w.heap.size + 1 + 1 + 1, 0, none⟩ (.int .i64 ((B - C) - (A - D)))).drew w.heap.size #[.int .i64 lo, .int .i64 hi] 23 ∧ Row ((((((((V.setCell ⟨w.heap.size + 1 + 1, 0, none⟩ (.int .i64 n)).setCell ⟨w.heap.size + 1 + 1, 1, none⟩ (.bool true)).setCell ⟨w.heap.size + 1 + 1, 2, none⟩ (.int .i64 4)).setCell ⟨w.heap.size + 1 + 1, 3, none⟩ (.int .i64 (bH x))).setCell ⟨w.heap.size + 1 + 1, 4, none⟩ (.bool false)).setCell ⟨w.heap.size + 1 + 1, 5, none⟩ (.int .i64 (bL x))).setCell ⟨w.heap.size + 1 + 1, 6, none⟩ (.int .i64 (bG x))).setCell ⟨w.heap.size + 1 + 1 + 1, 0, none⟩ (.int .i64 ((B - C) - (A - D)))).drew (w.heap.size + 1) (fitC 0 false 0 0 false 0 0) 42) ∧ Below w.heap.size w ((((((((V.setCell ⟨w.heap.size + 1 + 1, 0, none⟩ (.int .i64 n)).setCell ⟨w.heap.size + 1 + 1, 1, none⟩ (.bool true)).setCell ⟨w.heap.size + 1 + 1, 2, none⟩ (.int .i64 4)).setCell ⟨w.heap.size + 1 + 1, 3, none⟩ (.int .i64 (bH x))).setCell ⟨w.heap.size + 1 + 1, 4, none⟩ (.bool false)).setCell ⟨w.heap.size + 1 + 1, 5, none⟩ (.int .i64 (bL x))).setCell ⟨w.heap.size + 1 + 1, 6, none⟩ (.int .i64 (bG x))).setCell ⟨w.heap.size + 1 + 1 + 1, 0, none⟩ (.int .i64 ((B - C) - (A - D)))).drew) := by
            rw [HI.out]
            refine ⟨(((((((((keeps_of hbW).trans (KeepsOthers.setCell _ _ _)).trans (KeepsOthers.setCell _ _ _)).trans (KeepsOthers.setCell _ _ _)).trans (KeepsOthers.setCell _ _ _)).trans (KeepsOthers.setCell _ _ _)).trans (KeepsOthers.setCell _ _ _)).trans (KeepsOthers.setCell _ _ _)).trans ((KeepsOthers.setCell _ _ _).trans (KeepsOthers.drew _))).from _, fun r => (((((((((kN r).other (p := ⟨w.heap.size + 1 + 1, 0, none⟩) ne5 (.int .i64 n)).other (p := ⟨w.heap.size + 1 + 1, 1, none⟩) ne5 (.bool true)).other (p := ⟨w.heap.size + 1 + 1, 2, none⟩) ne5 (.int .i64 4)).other (p := ⟨w.heap.size + 1 + 1, 3, none⟩) ne5 (.int .i64 (bH x))).other (p := ⟨w.heap.size + 1 + 1, 4, none⟩) ne5 (.bool false)).other (p := ⟨w.heap.size + 1 + 1, 5, none⟩) ne5 (.int .i64 (bL x))).other (p := ⟨w.heap.size + 1 + 1, 6, none⟩) ne5 (.int .i64 (bG x))).other (by simp) _).drw, ⟨⟨(rB7.other (by simp) _).drw, rW8.drw⟩, ((((((((rL2.other (p := ⟨w.heap.size + 1 + 1, 0, none⟩) ne3 (.int .i64 n)).other (p := ⟨w.heap.size + 1 + 1, 1, none⟩) ne3 (.bool true)).other (p := ⟨w.heap.size + 1 + 1, 2, none⟩) ne3 (.int .i64 4)).other (p := ⟨w.heap.size + 1 + 1, 3, none⟩) ne3 (.int .i64 (bH x))).other (p := ⟨w.heap.size + 1 + 1, 4, none⟩) ne3 (.bool false)).other (p := ⟨w.heap.size + 1 + 1, 5, none⟩) ne3 (.int .i64 (bL x))).other (p := ⟨w.heap.size + 1 + 1, 6, none⟩) ne3 (.int .i64 (bG x))).other (by first | (simp; done) | (simp; omega)) _).drw, ((((((((rZ2.other (p := ⟨w.heap.size + 1 + 1, 0, none⟩) ne4 (.int .i64 n)).other (p := ⟨w.heap.size + 1 + 1, 1, none⟩) ne4 (.bool true)).other (p := ⟨w.heap.size + 1 + 1, 2, none⟩) ne4 (.int .i64 4)).other (p := ⟨w.heap.size + 1 + 1, 3, none⟩) ne4 (.int .i64 (bH x))).other (p := ⟨w.heap.size + 1 + 1, 4, none⟩) ne4 (.bool false)).other (p := ⟨w.heap.size + 1 + 1, 5, none⟩) ne4 (.int .i64 (bL x))).other (p := ⟨w.heap.size + 1 + 1, 6, none⟩) ne4 (.int .i64 (bG x))).other (by first | (simp; done) | (simp; omega)) _).drw⟩, ((((((((hbF.setCell (p := ⟨w.heap.size + 1 + 1, 0, none⟩) (by simp; omega) (.int .i64 n)).setCell (p := ⟨w.heap.size + 1 + 1, 1, none⟩) (by simp; omega) (.bool true)).setCell (p := ⟨w.heap.size + 1 + 1, 2, none⟩) (by simp; omega) (.int .i64 4)).setCell (p := ⟨w.heap.size + 1 + 1, 3, none⟩) (by simp; omega) (.int .i64 (bH x))).setCell (p := ⟨w.heap.size + 1 + 1, 4, none⟩) (by simp; omega) (.bool false)).setCell (p := ⟨w.heap.size + 1 + 1, 5, none⟩) (by simp; omega) (.int .i64 (bL x))).setCell (p := ⟨w.heap.size + 1 + 1, 6, none⟩) (by simp; omega) (.int .i64 (bG x))).setCell (by simp; omega) _).drew⟩
          clear HI rB7 rW8
          refine wpAnyIn_take (i := 0) (v := ?_) rfl rfl (by kernel_rfl) (by kernel_rfl) (by kernel_rfl) (fun _ _ _ h => h) ⟨Or.inl ⟨by rfl, by intro w; first | (go_simp; done) | (go_simp; with_reducible rfl)⟩, fun _ => rfl⟩ ?_
          refine wpAnyIn_take (i := 2) (v := ?_) rfl rfl (by kernel_rfl) (by kernel_rfl) (by kernel_rfl) (fun _ _ _ h => h) ⟨Or.inl ⟨by rfl, by intro w; first | (go_simp; done) | (go_simp; with_reducible rfl)⟩, fun _ => rfl⟩ ?_
          refine wpAnyIn_take (i := 4) (v := ?_) rfl rfl (by kernel_rfl) (by kernel_rfl) (by kernel_rfl) (fun _ _ _ h => h) ⟨Or.inl ⟨by rfl, by intro w; first | (go_simp; done) | (go_simp; with_reducible rfl)⟩, fun _ => rfl⟩ ?_
          refine wpAnyIn_ready (rs := [1, 3, 5]) (by kernel_rfl) (by simp) ?_
          refine AllReadyIn.cons rfl (fun K hK => ?_) ?_
          · go_simp
            refine hK _ _ ?_
            clear hK K
            refine wpAnyIn_ready (rs := [3, 5, 7]) (by kernel_rfl) (by simp) ?_
            refine AllReadyIn.cons rfl (fun K hK => ?_) ?_
            · go_simp
              refine hK _ _ ?_
              clear hK K
              refine wpAnyIn_ready (rs := [5, 7]) (by kernel_rfl) (by simp) ?_
              refine AllReadyIn.cons rfl (fun K hK => ?_) ?_
              · go_simp
                refine hK _ _ ?_
                clear hK K
                refine wpAnyIn_take (i := 6) (v := ?_) rfl rfl (by kernel_rfl) (by kernel_rfl) (by kernel_rfl) (fun _ _ _ h => h) ⟨Or.inl ⟨by rfl, by intro w; first | (go_simp; done) | (go_simp; with_reducible rfl)⟩, fun _ => rfl⟩ ?_
                refine wpAnyIn_ready (rs := [7]) (by kernel_rfl) (by simp) ?_
                refine AllReadyIn.cons rfl (fun K hK => ?_) ?_
                · go_simp
                  refine hK _ _ ?_
                  clear hK K
                  refine wpAnyIn_ready (rs := [8]) (by kernel_rfl) (by simp) ?_
                  refine AllReadyIn.cons rfl (fun K hK => ?_) ?_
                  · go_simp
                    refine hK _ _ ?_
                    clear hK K
                    refine wpAnyIn_done (by kernel_rfl) ?_ _
                    exact fin
                  exact AllReadyIn.nil
                exact AllReadyIn.nil
              refine AllReadyIn.cons rfl (fun K hK => ?_) ?_
              · go_simp
                refine hK _ _ ?_
                clear hK K
                refine wpAnyIn_ready (rs := [5]) (by kernel_rfl) (by simp) ?_
                refine AllReadyIn.cons rfl (fun K hK => ?_) ?_
                · go_simp
                  refine hK _ _ ?_
                  clear hK K
                  refine wpAnyIn_take (i := 6) (v := ?_) rfl rfl (by kernel_rfl) (by kernel_rfl) (by kernel_rfl) (fun _ _ _ h => h) ⟨Or.inl ⟨by rfl, by intro w; first | (go_simp; done) | (go_simp; with_reducible rfl)⟩, fun _ => rfl⟩ ?_
                  refine wpAnyIn_ready (rs := [8]) (by kernel_rfl) (by simp) ?_
                  refine AllReadyIn.cons rfl (fun K hK => ?_) ?_
                  · go_simp
                    refine hK _ _ ?_
                    clear hK K
                    refine wpAnyIn_done (by kernel_rfl) ?_ _
                    exact fin
                  exact AllReadyIn.nil
                exact AllReadyIn.nil
              exact AllReadyIn.nil
            refine AllReadyIn.cons rfl (fun K hK => ?_) ?_
            · go_simp
              refine hK _ _ ?_
              clear hK K
              refine wpAnyIn_ready (rs := [3, 7]) (by kernel_rfl) (by simp) ?_
              refine AllReadyIn.cons rfl (fun K hK => ?_) ?_
              · go_simp
                refine hK _ _ ?_
                clear hK K
                refine wpAnyIn_take (i := 6) (v := ?_) rfl rfl (by kernel_rfl) (by kernel_rfl) (by kernel_rfl) (fun _ _ _ h => h) ⟨Or.inl ⟨by rfl, by intro w; first | (go_simp; done) | (go_simp; with_reducible rfl)⟩, fun _ => rfl⟩ ?_
                refine wpAnyIn_ready (rs := [7]) (by kernel_rfl) (by simp) ?_
                refine AllReadyIn.cons rfl (fun K hK => ?_) ?_
                · go_simp
                  refine hK _ _ ?_
                  clear hK K
                  refine wpAnyIn_ready (rs := [8]) (by kernel_rfl) (by simp) ?_
                  refine AllReadyIn.cons rfl (fun K hK => ?_) ?_
                  · go_simp
                    refine hK _ _ ?_
                    clear hK K
                    refine wpAnyIn_done (by kernel_rfl) ?_ _
                    exact fin
                  exact AllReadyIn.nil
                exact AllReadyIn.nil
              refine AllReadyIn.cons rfl (fun K hK => ?_) ?_
              · go_simp
                refine hK _ _ ?_
                clear hK K
                refine wpAnyIn_ready (rs := [3]) (by kernel_rfl) (by simp) ?_
                refine AllReadyIn.cons rfl (fun K hK => ?_) ?_
                · go_simp
                  refine hK _ _ ?_
                  clear hK K
                  refine wpAnyIn_take (i := 6) (v := ?_) rfl rfl (by kernel_rfl) (by kernel_rfl) (by kernel_rfl) (fun _ _ _ h => h) ⟨Or.inl ⟨by rfl, by intro w; first | (go_simp; done) | (go_simp; with_reducible rfl)⟩, fun _ => rfl⟩ ?_
                  refine wpAnyIn_ready (rs := [8]) (by kernel_rfl) (by simp) ?_
                  refine AllReadyIn.cons rfl (fun K hK => ?_) ?_
                  · go_simp
                    refine hK _ _ ?_
                    clear hK K
                    refine wpAnyIn_done (by kernel_rfl) ?_ _
                    exact fin
                  exact AllReadyIn.nil
                exact AllReadyIn.nil
              exact AllReadyIn.nil
            refine AllReadyIn.cons rfl (fun K hK => ?_) ?_
            · go_simp
              refine hK _ _ ?_
              clear hK K
              refine wpAnyIn_ready (rs := [3, 5]) (by kernel_rfl) (by simp) ?_
              refine AllReadyIn.cons rfl (fun K hK => ?_) ?_
              · go_simp
                refine hK _ _ ?_
                clear hK K
                refine wpAnyIn_ready (rs := [5]) (by kernel_rfl) (by simp) ?_
                refine AllReadyIn.cons rfl (fun K hK => ?_) ?_
                · go_simp
                  refine hK _ _ ?_
                  clear hK K
                  refine wpAnyIn_take (i := 6) (v := ?_) rfl rfl (by kernel_rfl) (by kernel_rfl) (by kernel_rfl) (fun _ _ _ h => h) ⟨Or.inl ⟨by rfl, by intro w; first | (go_simp; done) | (go_simp; with_reducible rfl)⟩, fun _ => rfl⟩ ?_
                  refine wpAnyIn_ready (rs := [8]) (by kernel_rfl) (by simp) ?_
                  refine AllReadyIn.cons rfl (fun K hK => ?_) ?_
                  · go_simp
                    refine hK _ _ ?_
                    clear hK K
                    refine wpAnyIn_done (by kernel_rfl) ?_ _
                    exact fin
                  exact AllReadyIn.nil
                exact AllReadyIn.nil
              refine AllReadyIn.cons rfl (fun K hK => ?_) ?_
              · go_simp
                refine hK _ _ ?_
                clear hK K
                refine wpAnyIn_ready (rs := [3]) (by kernel_rfl) (by simp) ?_
                refine AllReadyIn.cons rfl (fun K hK => ?_) ?_
                · go_simp
                  refine hK _ _ ?_
                  clear hK K
                  refine wpAnyIn_take (i := 6) (v := ?_) rfl rfl (by kernel_rfl) (by kernel_rfl) (by kernel_rfl) (fun _ _ _ h => h) ⟨Or.inl ⟨by rfl, by intro w; first | (go_simp; done) | (go_simp; with_reducible rfl)⟩, fun _ => rfl⟩ ?_
                  refine wpAnyIn_ready (rs := [8]) (by kernel_rfl) (by simp) ?_
                  refine AllReadyIn.cons rfl (fun K hK => ?_) ?_
                  · go_simp
                    refine hK _ _ ?_
                    clear hK K
                    refine wpAnyIn_done (by kernel_rfl) ?_ _
                    exact fin
                  exact AllReadyIn.nil
                exact AllReadyIn.nil
              exact AllReadyIn.nil
            exact AllReadyIn.nil
          refine AllReadyIn.cons rfl (fun K hK => ?_) ?_
          · go_simp
            refine hK _ _ ?_
            clear hK K
            refine wpAnyIn_ready (rs := [1, 5]) (by kernel_rfl) (by simp) ?_
            refine AllReadyIn.cons rfl (fun K hK => ?_) ?_
            · go_simp
              refine hK _ _ ?_
              clear hK K
              refine wpAnyIn_ready (rs := [5, 7]) (by kernel_rfl) (by simp) ?_
              refine AllReadyIn.cons rfl (fun K hK => ?_) ?_
              · go_simp
                refine hK _ _ ?_
                clear hK K
                refine wpAnyIn_take (i := 6) (v := ?_) rfl rfl (by kernel_rfl) (by kernel_rfl) (by kernel_rfl) (fun _ _ _ h => h) ⟨Or.inl ⟨by rfl, by intro w; first | (go_simp; done) | (go_simp; with_reducible rfl)⟩, fun _ => rfl⟩ ?_
                refine wpAnyIn_ready (rs := [7]) (by kernel_rfl) (by simp) ?_
                refine AllReadyIn.cons rfl (fun K hK => ?_) ?_
                · go_simp
                  refine hK _ _ ?_
                  clear hK K
                  refine wpAnyIn_ready (rs := [8]) (by kernel_rfl) (by simp) ?_
                  refine AllReadyIn.cons rfl (fun K hK => ?_) ?_
                  · go_simp
                    refine hK _ _ ?_
                    clear hK K
                    refine wpAnyIn_done (by kernel_rfl) ?_ _
                    exact fin
                  exact AllReadyIn.nil
                exact AllReadyIn.nil
              refine AllReadyIn.cons rfl (fun K hK => ?_) ?_
              · go_simp
                refine hK _ _ ?_
                clear hK K
                refine wpAnyIn_ready (rs := [5]) (by kernel_rfl) (by simp) ?_
                refine AllReadyIn.cons rfl (fun K hK => ?_) ?_
                · go_simp
                  refine hK _ _ ?_
                  clear hK K
                  refine wpAnyIn_take (i := 6) (v := ?_) rfl rfl (by kernel_rfl) (by kernel_rfl) (by kernel_rfl) (fun _ _ _ h => h) ⟨Or.inl ⟨by rfl, by intro w; first | (go_simp; done) | (go_simp; with_reducible rfl)⟩, fun _ => rfl⟩ ?_
                  refine wpAnyIn_ready (rs := [8]) (by kernel_rfl) (by simp) ?_
                  refine AllReadyIn.cons rfl (fun K hK => ?_) ?_
                  · go_simp
                    refine hK _ _ ?_
                    clear hK K
                    refine wpAnyIn_done (by kernel_rfl) ?_ _
                    exact fin
                  exact AllReadyIn.nil
                exact AllReadyIn.nil
              exact AllReadyIn.nil
            refine AllReadyIn.cons rfl (fun K hK => ?_) ?_
            · go_simp
              refine hK _ _ ?_
              clear hK K
              refine wpAnyIn_take (i := 6) (v := ?_) rfl rfl (by kernel_rfl) (by kernel_rfl) (by kernel_rfl) (fun _ _ _ h => h) ⟨Or.inl ⟨by rfl, by intro w; first | (go_simp; done) | (go_simp; with_reducible rfl)⟩, fun _ => rfl⟩ ?_
              refine wpAnyIn_ready (rs := [1]) (by kernel_rfl) (by simp) ?_
              refine AllReadyIn.cons rfl (fun K hK => ?_) ?_
              · go_simp
                refine hK _ _ ?_
                clear hK K
                refine wpAnyIn_ready (rs := [7]) (by kernel_rfl) (by simp) ?_
                refine AllReadyIn.cons rfl (fun K hK => ?_) ?_
                · go_simp
                  refine hK _ _ ?_
                  clear hK K
                  refine wpAnyIn_ready (rs := [8]) (by kernel_rfl) (by simp) ?_
                  refine AllReadyIn.cons rfl (fun K hK => ?_) ?_
                  · go_simp
                    refine hK _ _ ?_
                    clear hK K
                    refine wpAnyIn_done (by kernel_rfl) ?_ _
                    exact fin
                  exact AllReadyIn.nil
                exact AllReadyIn.nil
              exact AllReadyIn.nil
            exact AllReadyIn.nil
          refine AllReadyIn.cons rfl (fun K hK => ?_) ?_
          · go_simp
            refine hK _ _ ?_
            clear hK K
            refine wpAnyIn_ready (rs := [1, 3]) (by kernel_rfl) (by simp) ?_
            refine AllReadyIn.cons rfl (fun K hK => ?_) ?_
            · go_simp
              refine hK _ _ ?_
              clear hK K
              refine wpAnyIn_ready (rs := [3, 7]) (by kernel_rfl) (by simp) ?_
              refine AllReadyIn.cons rfl (fun K hK => ?_) ?_
              · go_simp
                refine hK _ _ ?_
                clear hK K
                refine wpAnyIn_take (i := 6) (v := ?_) rfl rfl (by kernel_rfl) (by kernel_rfl) (by kernel_rfl) (fun _ _ _ h => h) ⟨Or.inl ⟨by rfl, by intro w; first | (go_simp; done) | (go_simp; with_reducible rfl)⟩, fun _ => rfl⟩ ?_
                refine wpAnyIn_ready (rs := [7]) (by kernel_rfl) (by simp) ?_
                refine AllReadyIn.cons rfl (fun K hK => ?_) ?_
                · go_simp
                  refine hK _ _ ?_
                  clear hK K
                  refine wpAnyIn_ready (rs := [8]) (by kernel_rfl) (by simp) ?_
                  refine AllReadyIn.cons rfl (fun K hK => ?_) ?_
                  · go_simp
                    refine hK _ _ ?_
                    clear hK K
                    refine wpAnyIn_done (by kernel_rfl) ?_ _
                    exact fin
                  exact AllReadyIn.nil
                exact AllReadyIn.nil
              refine AllReadyIn.cons rfl (fun K hK => ?_) ?_
              · go_simp
                refine hK _ _ ?_
                clear hK K
                refine wpAnyIn_ready (rs := [3]) (by kernel_rfl) (by simp) ?_
                refine AllReadyIn.cons rfl (fun K hK => ?_) ?_
                · go_simp
                  refine hK _ _ ?_
                  clear hK K
                  refine wpAnyIn_take (i := 6) (v := ?_) rfl rfl (by kernel_rfl) (by kernel_rfl) (by kernel_rfl) (fun _ _ _ h => h) ⟨Or.inl ⟨by rfl, by intro w; first | (go_simp; done) | (go_simp; with_reducible rfl)⟩, fun _ => rfl⟩ ?_
                  refine wpAnyIn_ready (rs := [8]) (by kernel_rfl) (by simp) ?_
                  refine AllReadyIn.cons rfl (fun K hK => ?_) ?_
                  · go_simp
                    refine hK _ _ ?_
                    clear hK K
                    refine wpAnyIn_done (by kernel_rfl) ?_ _
                    exact fin
                  exact AllReadyIn.nil
                exact AllReadyIn.nil
              exact AllReadyIn.nil
            refine AllReadyIn.cons rfl (fun K hK => ?_) ?_
            · go_simp
              refine hK _ _ ?_
              clear hK K
              refine wpAnyIn_take (i := 6) (v := ?_) rfl rfl (by kernel_rfl) (by kernel_rfl) (by kernel_rfl) (fun _ _ _ h => h) ⟨Or.inl ⟨by rfl, by intro w; first | (go_simp; done) | (go_simp; with_reducible rfl)⟩, fun _ => rfl⟩ ?_
              refine wpAnyIn_ready (rs := [1]) (by kernel_rfl) (by simp) ?_
              refine AllReadyIn.cons rfl (fun K hK => ?_) ?_
              · go_simp
                refine hK _ _ ?_
                clear hK K
                refine wpAnyIn_ready (rs := [7]) (by kernel_rfl) (by simp) ?_
                refine AllReadyIn.cons rfl (fun K hK => ?_) ?_
                · go_simp
                  refine hK _ _ ?_
                  clear hK K
                  refine wpAnyIn_ready (rs := [8]) (by kernel_rfl) (by simp) ?_
                  refine AllReadyIn.cons rfl (fun K hK => ?_) ?_
                  · go_simp
                    refine hK _ _ ?_
                    clear hK K
                    refine wpAnyIn_done (by kernel_rfl) ?_ _
                    exact fin
                  exact AllReadyIn.nil
                exact AllReadyIn.nil
              exact AllReadyIn.nil
            exact AllReadyIn.nil
          exact AllReadyIn.nil
        · have miss := chC_miss (pre := pre) (x := x) (n := n) (lo := lo) (hi := hi) (by rw [hcl, hch, HW.out]; exact fun h => k3 h.2.2)
          have HI := Lib.hid miss
          clear miss hcl hch
          gi_wp2_with (refine ⟨trivial, ?_⟩; gi_at_call 55; refine (CallsIn.inRound l (callsIn_wide.2 (clearance_c A B C D _ bA.1 bA.2 bC.1 bC.2))).mono ?_; rintro e w2 ⟨rfl, hbb⟩; have cW2 := ((rW.next hbb).alloc (.cells #[.int .i64 (A - D), .int .i64 (B - C)] 23)).cell; have cL2 := ((rL.next hbb).alloc (.cells #[.int .i64 (A - D), .int .i64 (B - C)] 23)).cell; have cX2 := ((rX.next hbb).alloc (.cells #[.int .i64 (A - D), .int .i64 (B - C)] 23)).cell)
          have hbW := hbb.alloc hbb.size (.cells #[.int .i64 (A - D), .int .i64 (B - C)] 23)
          rw [← HW.out] at rW
          exact ⟨(keeps_of hbW).from _, fun r => (r.next hbb).alloc _, by dsimp only; rw [HI.out]; exact ⟨⟨⟨(rB.next hbb).alloc _, (rW.next hbb).alloc _⟩, (rL.next hbb).alloc _, (rZ.next hbb).alloc _⟩, hB.trans (hbW.mono hB.size)⟩⟩
      · have miss := chC_miss (pre := pre) (x := x) (n := n) (lo := lo) (hi := hi) (by rw [hcl, hch, HW.out]; exact fun h => k2 h.2.1)
        have HI := Lib.hid miss
        clear miss hcl hch
        gi_wp2_with (refine ⟨trivial, ?_⟩; gi_at_call 55; refine (CallsIn.inRound l (callsIn_wide.2 (clearance_c A B C D _ bA.1 bA.2 bC.1 bC.2))).mono ?_; rintro e w2 ⟨rfl, hbb⟩; have cW2 := ((rW.next hbb).alloc (.cells #[.int .i64 (A - D), .int .i64 (B - C)] 23)).cell; have cL2 := ((rL.next hbb).alloc (.cells #[.int .i64 (A - D), .int .i64 (B - C)] 23)).cell; have cX2 := ((rX.next hbb).alloc (.cells #[.int .i64 (A - D), .int .i64 (B - C)] 23)).cell)
        have hbW := hbb.alloc hbb.size (.cells #[.int .i64 (A - D), .int .i64 (B - C)] 23)
        rw [← HW.out] at rW
        exact ⟨(keeps_of hbW).from _, fun r => (r.next hbb).alloc _, by dsimp only; rw [HI.out]; exact ⟨⟨⟨(rB.next hbb).alloc _, (rW.next hbb).alloc _⟩, (rL.next hbb).alloc _, (rZ.next hbb).alloc _⟩, hB.trans (hbW.mono hB.size)⟩⟩
    · have miss := chC_miss (pre := pre) (x := x) (n := n) (lo := lo) (hi := hi) (by rw [hcl, hch, HW.out]; exact fun h => k1 h.1)
      have HI := Lib.hid miss
      clear miss hcl hch
      gi_wp2_with (refine ⟨trivial, ?_⟩; gi_at_call 55; refine (CallsIn.inRound l (callsIn_wide.2 (clearance_c A B C D _ bA.1 bA.2 bC.1 bC.2))).mono ?_; rintro e w2 ⟨rfl, hbb⟩; have cW2 := ((rW.next hbb).alloc (.cells #[.int .i64 (A - D), .int .i64 (B - C)] 23)).cell; have cL2 := ((rL.next hbb).alloc (.cells #[.int .i64 (A - D), .int .i64 (B - C)] 23)).cell; have cX2 := ((rX.next hbb).alloc (.cells #[.int .i64 (A - D), .int .i64 (B - C)] 23)).cell)
      have hbW := hbb.alloc hbb.size (.cells #[.int .i64 (A - D), .int .i64 (B - C)] 23)
      rw [← HW.out] at rW
      exact ⟨(keeps_of hbW).from _, fun r => (r.next hbb).alloc _, by dsimp only; rw [HI.out]; exact ⟨⟨⟨(rB.next hbb).alloc _, (rW.next hbb).alloc _⟩, (rL.next hbb).alloc _, (rZ.next hbb).alloc _⟩, hB.trans (hbW.mono hB.size)⟩⟩
  case done =>
    rintro D ys W hD rfl ⟨⟨⟨rB, rW⟩, rL, rZ⟩, hB⟩ hK
    obtain ⟨o0, o1, o2, o3, o4, o5, o6, hO⟩ : ∃ (o0 : Int) (o1 : Bool) (o2 o3 : Int) (o4 : Bool) (o5 o6 : Int), fitO n (chC n lo hi (allB.filter (okB n))).1 = fitC o0 o1 o2 o3 o4 o5 o6 := by
      cases (chC n lo hi (allB.filter (okB n))).1 <;> exact ⟨_, _, _, _, _, _, _, rfl⟩
    have hv : chV n lo hi = if (chC n lo hi (allB.filter (okB n))).2 < 0 then .tuple #[.agg (fitC 0 false 0 0 false 0 0), .int .i64 6] else .tuple #[.agg (fitO n (chC n lo hi (allB.filter (okB n))).1), .int .i64 0] := rfl
    rw [hO] at rB hv
    obtain ⟨wd, hwd⟩ : ∃ wd, (chC n lo hi (allB.filter (okB n))).2 = wd := ⟨_, rfl⟩
    rw [hwd] at rW hv
    have HV := Lib.hid hv
    clear hv hO hwd
    have cB := rB.cell
    have cW := rW.cell
    have cZ := rZ.cell
    have fZ := rZ.frozen
    by_cases h0 : wd < 0
    · skip
      gi_wp2
      have rR : Row (((((((W.setCell ⟨w.heap.size + 1, 0, none⟩ (.int .i64 0)).setCell ⟨w.heap.size + 1, 1, none⟩ (.bool false)).setCell ⟨w.heap.size + 1, 2, none⟩ (.int .i64 0)).setCell ⟨w.heap.size + 1, 3, none⟩ (.int .i64 0)).setCell ⟨w.heap.size + 1, 4, none⟩ (.bool false)).setCell ⟨w.heap.size + 1, 5, none⟩ (.int .i64 0)).setCell ⟨w.heap.size + 1, 6, none⟩ (.int .i64 0)) (w.heap.size + 1) (fitC 0 false 0 0 false 0 0) 42 := by
        have := (((((((rZ.put 0 (.int .i64 0)).put 1 (.bool false)).put 2 (.int .i64 0)).put 3 (.int .i64 0)).put 4 (.bool false)).put 5 (.int .i64 0)).put 6 (.int .i64 0))
        simpa using this
      have hb7 : Below w.heap.size w (((((((W.setCell ⟨w.heap.size + 1, 0, none⟩ (.int .i64 0)).setCell ⟨w.heap.size + 1, 1, none⟩ (.bool false)).setCell ⟨w.heap.size + 1, 2, none⟩ (.int .i64 0)).setCell ⟨w.heap.size + 1, 3, none⟩ (.int .i64 0)).setCell ⟨w.heap.size + 1, 4, none⟩ (.bool false)).setCell ⟨w.heap.size + 1, 5, none⟩ (.int .i64 0)).setCell ⟨w.heap.size + 1, 6, none⟩ (.int .i64 0)) := (((((((hB.setCell (p := ⟨w.heap.size + 1, 0, none⟩) (by simp) (.int .i64 0)).setCell (p := ⟨w.heap.size + 1, 1, none⟩) (by simp) (.bool false)).setCell (p := ⟨w.heap.size + 1, 2, none⟩) (by simp) (.int .i64 0)).setCell (p := ⟨w.heap.size + 1, 3, none⟩) (by simp) (.int .i64 0)).setCell (p := ⟨w.heap.size + 1, 4, none⟩) (by simp) (.bool false)).setCell (p := ⟨w.heap.size + 1, 5, none⟩) (by simp) (.int .i64 0)).setCell (p := ⟨w.heap.size + 1, 6, none⟩) (by simp) (.int .i64 0))
      have hK7 : (((((((W.setCell ⟨w.heap.size + 1, 0, none⟩ (.int .i64 0)).setCell ⟨w.heap.size + 1, 1, none⟩ (.bool false)).setCell ⟨w.heap.size + 1, 2, none⟩ (.int .i64 0)).setCell ⟨w.heap.size + 1, 3, none⟩ (.int .i64 0)).setCell ⟨w.heap.size + 1, 4, none⟩ (.bool false)).setCell ⟨w.heap.size + 1, 5, none⟩ (.int .i64 0)).setCell ⟨w.heap.size + 1, 6, none⟩ (.int .i64 0)).heap[D]? = some (.deferred (some [])) := ((((((((KeepsOthers.refl W).trans (KeepsOthers.setCell _ _ _)).trans (KeepsOthers.setCell _ _ _)).trans (KeepsOthers.setCell _ _ _)).trans (KeepsOthers.setCell _ _ _)).trans (KeepsOthers.setCell _ _ _)).trans (KeepsOthers.setCell _ _ _)).trans (KeepsOthers.setCell _ _ _)).same D _ hK rfl
      generalize (((((((W.setCell ⟨w.heap.size + 1, 0, none⟩ (.int .i64 0)).setCell ⟨w.heap.size + 1, 1, none⟩ (.bool false)).setCell ⟨w.heap.size + 1, 2, none⟩ (.int .i64 0)).setCell ⟨w.heap.size + 1, 3, none⟩ (.int .i64 0)).setCell ⟨w.heap.size + 1, 4, none⟩ (.bool false)).setCell ⟨w.heap.size + 1, 5, none⟩ (.int .i64 0)).setCell ⟨w.heap.size + 1, 6, none⟩ (.int .i64 0)) = W7 at *
      refine ⟨by simp, .inl ⟨_, _, rfl, run_takeDeferred hK7, ?_⟩⟩
      exact ⟨_, cho_results (cs := (fitC 0 false 0 0 false 0 0)) (e := 6) rfl rfl (rR.held (grownBy_putObj' _ D _) (by simp; omega)) infoFit, by rw [HV.out, if_pos h0], hb7.trans (belowK_b (w := W0) (by omega) W7 D _ _ hD hK7 rfl rfl)⟩
    · skip
      gi_wp2
      have rR : Row (((((((W.setCell ⟨w.heap.size + 1, 0, none⟩ (.int .i64 o0)).setCell ⟨w.heap.size + 1, 1, none⟩ (.bool o1)).setCell ⟨w.heap.size + 1, 2, none⟩ (.int .i64 o2)).setCell ⟨w.heap.size + 1, 3, none⟩ (.int .i64 o3)).setCell ⟨w.heap.size + 1, 4, none⟩ (.bool o4)).setCell ⟨w.heap.size + 1, 5, none⟩ (.int .i64 o5)).setCell ⟨w.heap.size + 1, 6, none⟩ (.int .i64 o6)) (w.heap.size + 1) (fitC o0 o1 o2 o3 o4 o5 o6) 42 := by
        have := (((((((rZ.put 0 (.int .i64 o0)).put 1 (.bool o1)).put 2 (.int .i64 o2)).put 3 (.int .i64 o3)).put 4 (.bool o4)).put 5 (.int .i64 o5)).put 6 (.int .i64 o6))
        simpa using this
      have hb7 : Below w.heap.size w (((((((W.setCell ⟨w.heap.size + 1, 0, none⟩ (.int .i64 o0)).setCell ⟨w.heap.size + 1, 1, none⟩ (.bool o1)).setCell ⟨w.heap.size + 1, 2, none⟩ (.int .i64 o2)).setCell ⟨w.heap.size + 1, 3, none⟩ (.int .i64 o3)).setCell ⟨w.heap.size + 1, 4, none⟩ (.bool o4)).setCell ⟨w.heap.size + 1, 5, none⟩ (.int .i64 o5)).setCell ⟨w.heap.size + 1, 6, none⟩ (.int .i64 o6)) := (((((((hB.setCell (p := ⟨w.heap.size + 1, 0, none⟩) (by simp) (.int .i64 o0)).setCell (p := ⟨w.heap.size + 1, 1, none⟩) (by simp) (.bool o1)).setCell (p := ⟨w.heap.size + 1, 2, none⟩) (by simp) (.int .i64 o2)).setCell (p := ⟨w.heap.size + 1, 3, none⟩) (by simp) (.int .i64 o3)).setCell (p := ⟨w.heap.size + 1, 4, none⟩) (by simp) (.bool o4)).setCell (p := ⟨w.heap.size + 1, 5, none⟩) (by simp) (.int .i64 o5)).setCell (p := ⟨w.heap.size + 1, 6, none⟩) (by simp) (.int .i64 o6))
      have hK7 : (((((((W.setCell ⟨w.heap.size + 1, 0, none⟩ (.int .i64 o0)).setCell ⟨w.heap.size + 1, 1, none⟩ (.bool o1)).setCell ⟨w.heap.size + 1, 2, none⟩ (.int .i64 o2)).setCell ⟨w.heap.size + 1, 3, none⟩ (.int .i64 o3)).setCell ⟨w.heap.size + 1, 4, none⟩ (.bool o4)).setCell ⟨w.heap.size + 1, 5, none⟩ (.int .i64 o5)).setCell ⟨w.heap.size + 1, 6, none⟩ (.int .i64 o6)).heap[D]? = some (.deferred (some [])) := ((((((((KeepsOthers.refl W).trans (KeepsOthers.setCell _ _ _)).trans (KeepsOthers.setCell _ _ _)).trans (KeepsOthers.setCell _ _ _)).trans (KeepsOthers.setCell _ _ _)).trans (KeepsOthers.setCell _ _ _)).trans (KeepsOthers.setCell _ _ _)).trans (KeepsOthers.setCell _ _ _)).same D _ hK rfl
      generalize (((((((W.setCell ⟨w.heap.size + 1, 0, none⟩ (.int .i64 o0)).setCell ⟨w.heap.size + 1, 1, none⟩ (.bool o1)).setCell ⟨w.heap.size + 1, 2, none⟩ (.int .i64 o2)).setCell ⟨w.heap.size + 1, 3, none⟩ (.int .i64 o3)).setCell ⟨w.heap.size + 1, 4, none⟩ (.bool o4)).setCell ⟨w.heap.size + 1, 5, none⟩ (.int .i64 o5)).setCell ⟨w.heap.size + 1, 6, none⟩ (.int .i64 o6)) = W7 at *
      refine ⟨by simp, .inl ⟨_, _, rfl, run_takeDeferred hK7, ?_⟩⟩
      exact ⟨_, cho_results (cs := (fitC o0 o1 o2 o3 o4 o5 o6)) (e := 0) rfl rfl (rR.held (grownBy_putObj' _ D _) (by simp; omega)) infoFit, by rw [HV.out, if_neg (by omega)], hb7.trans (belowK_b (w := W0) (by omega) W7 D _ _ hD hK7 rfl rfl)⟩
  case stop =>
    rintro D c pre W _ _ h _
    exact h.elim

/-- Choose at right arguments. -/
theorem Choose_ok (n lo hi : Int) (w : World) (hz : zE n = 0) (h1 : -100000 ≤ lo) (h2 : lo ≤ 100000) (h3 : -100000 ≤ hi) (h4 : hi ≤ 100000) (h5 : lo ≤ hi) :
    Calls Tryz.prog 37 #[.int .i64 n, .agg #[.int .i64 lo, .int .i64 hi]] w fun e W' => e = .returned (chV n lo hi) ∧ Below w.heap.size w W' :=
  (callsIn_wide (n := 3)).1 (Choose_in n lo hi w hz h1 h2 h3 h4 h5)
end Go.Proofs.YtldghloflegpmaaGreatDoor

namespace Go.Proofs.YtldghloflegpmaaGreatDoor
open Pu Go.Lib

theorem okB_fE {n : Int} {k : Fin 640} (h : okB n k = true) : fE n true 4 (bH k) false (bL k) (bG k) = 0 := of_decide_eq_true h
theorem m_in {n : Int} {h : Bool} {l g : Int} (hl : lE n h l g = 0) : 1 ≤ mLow n h l g ∧ mLow n h l g ≤ mHigh n h l g ∧ mHigh n h l g ≤ 100000 := by
  have hd := d_bd n h l g
  have e1 : mLow n h l g = n + dLow n h l g := by unfold mLow; rw [if_pos hl]
  have e2 : mHigh n h l g = n + dHigh n h l g := by unfold mHigh; rw [if_pos hl]
  rw [e1, e2]
  unfold lE at hl
  by_cases hz : dE n l g = 0
  · rw [if_pos hz] at hl
    by_cases h1 : n + dLow n h l g < 1 ∨ 100000 < n + dHigh n h l g
    · rw [if_pos h1] at hl; omega
    · omega
  · rw [if_neg hz] at hl; exact absurd hl hz
theorem ok_bd {n : Int} {k : Fin 640} (h : okB n k = true) : cLo n k ≤ cHi n k ∧ -100000 ≤ cLo n k ∧ cLo n k ≤ 100000 ∧ -100000 ≤ cHi n k ∧ cHi n k ≤ 100000 := by
  obtain ⟨_, _, _, _, _, k1, k2⟩ := fE_ok (okB_fE h)
  have i1 := m_in k1
  have i2 := m_in k2
  unfold cLo cHi
  omega
/-- What is known of the best fit of a list. -/
def Best (n lo hi : Int) (l : List (Fin 640)) : Prop :=
  (chC n lo hi l = (none, -1) ∧ ∀ k ∈ l, ¬ (lo ≤ cLo n k ∧ cHi n k ≤ hi)) ∨
  (∃ k ∈ l, chC n lo hi l = (some k, cHi n k - cLo n k) ∧ lo ≤ cLo n k ∧ cHi n k ≤ hi ∧ ∀ j ∈ l, lo ≤ cLo n j → cHi n j ≤ hi → cHi n j - cLo n j ≤ cHi n k - cLo n k)
theorem Best.step {n lo hi : Int} {pre : List (Fin 640)} {x : Fin 640} (h : Best n lo hi pre) (hx : okB n x = true) : Best n lo hi (pre ++ [x]) := by
  have hw := (ok_bd hx).1
  rcases h with ⟨e, h⟩ | ⟨k, hk, e, h1, h2, h3⟩
  · by_cases hh : lo ≤ cLo n x ∧ cHi n x ≤ hi
    · refine Or.inr ⟨x, by simp, chC_hit hh.1 hh.2 (by rw [e]; simp only; omega), hh.1, hh.2, fun j hj j1 j2 => ?_⟩
      rcases List.mem_append.1 hj with hj | hj
      · exact absurd ⟨j1, j2⟩ (h j hj)
      · rw [List.mem_singleton.1 hj]; exact Int.le_refl _
    · refine Or.inl ⟨by rw [chC_miss (fun c => hh ⟨c.1, c.2.1⟩), e], fun j hj => ?_⟩
      rcases List.mem_append.1 hj with hj | hj
      · exact h j hj
      · rw [List.mem_singleton.1 hj]; exact hh
  · by_cases hh : lo ≤ cLo n x ∧ cHi n x ≤ hi ∧ (chC n lo hi pre).2 < cHi n x - cLo n x
    · refine Or.inr ⟨x, by simp, chC_hit hh.1 hh.2.1 hh.2.2, hh.1, hh.2.1, fun j hj j1 j2 => ?_⟩
      have hh3 := hh.2.2
      rw [e] at hh3
      simp only at hh3
      rcases List.mem_append.1 hj with hj | hj
      · have := h3 j hj j1 j2; omega
      · rw [List.mem_singleton.1 hj]; exact Int.le_refl _
    · refine Or.inr ⟨k, by simp [hk], by rw [chC_miss hh, e], h1, h2, fun j hj j1 j2 => ?_⟩
      rcases List.mem_append.1 hj with hj | hj
      · exact h3 j hj j1 j2
      · rw [List.mem_singleton.1 hj] at j1 j2 ⊢
        rw [e] at hh
        simp only at hh
        omega
theorem Best.app {n lo hi : Int} : ∀ (l pre : List (Fin 640)), Best n lo hi pre → (∀ k ∈ l, okB n k = true) → Best n lo hi (pre ++ l)
  | [], pre, h, _ => by rw [List.append_nil]; exact h
  | x :: l, pre, h, ho => by
    rw [show pre ++ x :: l = (pre ++ [x]) ++ l by simp]
    exact Best.app l _ (h.step (ho x (by simp))) fun k hk => ho k (by simp [hk])
theorem best_all (n lo hi : Int) : Best n lo hi (allB.filter (okB n)) := by
  have := Best.app (n := n) (lo := lo) (hi := hi) (allB.filter (okB n)) [] (Or.inl ⟨rfl, fun k hk => by cases hk⟩) (fun k hk => (List.mem_filter.1 hk).2)
  rwa [List.nil_append] at this
/-- The fit k is the chosen one. -/
def Chosen (n lo hi : Int) (k : Fin 640) : Prop :=
  okB n k = true ∧ lo ≤ cLo n k ∧ cHi n k ≤ hi ∧ (∀ j, okB n j = true → lo ≤ cLo n j → cHi n j ≤ hi → cHi n j - cLo n j ≤ cHi n k - cLo n k) ∧
  chV n lo hi = .tuple #[.agg (fitC n true 4 (bH k) false (bL k) (bG k)), .int .i64 0]
theorem mem_ok {n : Int} {k : Fin 640} : k ∈ allB.filter (okB n) ↔ okB n k = true := by
  rw [List.mem_filter]
  exact ⟨fun h => h.2, fun h => ⟨List.mem_finRange k, h⟩⟩
theorem ch_cases (n lo hi : Int) : (chV n lo hi = .tuple #[.agg (fitC 0 false 0 0 false 0 0), .int .i64 6] ∧ ∀ k, okB n k = true → ¬ (lo ≤ cLo n k ∧ cHi n k ≤ hi)) ∨ (∃ k, Chosen n lo hi k) := by
  rcases best_all n lo hi with ⟨e, h⟩ | ⟨k, hk, e, h1, h2, h3⟩
  · refine Or.inl ⟨by unfold chV; rw [e, if_pos (by decide)], fun k hk => h k (mem_ok.2 hk)⟩
  · have ho := mem_ok.1 hk
    have hw := (ok_bd ho).1
    refine Or.inr ⟨k, ho, h1, h2, fun j hj => h3 j (mem_ok.2 hj), ?_⟩
    unfold chV
    rw [e, if_neg (by simp only; omega)]
    rfl
/-- The clearance of a chosen fit chooses one that is as wide. -/
theorem ch_again {n lo hi : Int} {k : Fin 640} (h : Chosen n lo hi k) : ∃ j, Chosen n (cLo n k) (cHi n k) j ∧ cLo n j = cLo n k ∧ cHi n j = cHi n k := by
  rcases ch_cases n (cLo n k) (cHi n k) with ⟨_, h2⟩ | ⟨j, hj⟩
  · exact absurd ⟨Int.le_refl _, Int.le_refl _⟩ (h2 k h.1)
  · have h3 := hj.2.2.2.1 k h.1 (Int.le_refl _) (Int.le_refl _)
    have h4 := hj.2.1
    have h5 := hj.2.2.1
    exact ⟨j, hj, by omega, by omega⟩
theorem b_of {a i g : Int} (a5 : 5 ≤ a) (a12 : a ≤ 12) (i0 : 0 ≤ i) (i9 : i ≤ 9) (g5 : 5 ≤ g) (g12 : g ≤ 12) : ∃ k, bH k = a ∧ bL k = i ∧ bG k = g := by
  obtain ⟨x, rfl⟩ : ∃ x : Nat, a = 5 + (x : Int) := ⟨(a - 5).toNat, by omega⟩
  obtain ⟨y, rfl⟩ : ∃ y : Nat, i = (y : Int) := ⟨i.toNat, by omega⟩
  obtain ⟨z, rfl⟩ : ∃ z : Nat, g = 5 + (z : Int) := ⟨(g - 5).toNat, by omega⟩
  exact ⟨⟨80 * x + 8 * y + z, by omega⟩, b_at x y z (by omega) (by omega) (by omega) (by omega)⟩
/-- A right fit of the basic hole is one of them. -/
theorem b_fE {n a i g : Int} (h : fE n true 4 a false i g = 0) : ∃ k, bH k = a ∧ bL k = i ∧ bG k = g ∧ okB n k = true := by
  obtain ⟨_, z2, z3, _, _, _, _⟩ := fE_ok h
  obtain ⟨_, c3, c4⟩ := cE_ok.1 z2
  obtain ⟨⟨c5, c6⟩, c7, c8⟩ := cE_ok.1 z3
  obtain ⟨k, h1, h2, h3⟩ := b_of c3 c4 c5 c6 c7 c8
  refine ⟨k, h1, h2, h3, ?_⟩
  unfold okB
  rw [h1, h2, h3]
  exact decide_eq_true h
/-- Another fit of the basic hole is wrong, not wanted, or not wider. -/
theorem ch_max {n lo hi a i g : Int} {k : Fin 640} (h : Chosen n lo hi k) (hf : fE n true 4 a false i g = 0) :
    ¬ (lo ≤ pLow n true 4 a false i g ∧ pHigh n true 4 a false i g ≤ hi ∧ cHi n k - cLo n k < pHigh n true 4 a false i g - pLow n true 4 a false i g) := by
  obtain ⟨j, h1, h2, h3, ho⟩ := b_fE hf
  have e1 : pLow n true 4 a false i g = cLo n j := by unfold pLow cLo; rw [if_pos hf, h1, h2, h3]
  have e2 : pHigh n true 4 a false i g = cHi n j := by unfold pHigh cHi; rw [if_pos hf, h1, h2, h3]
  rw [e1, e2]
  rintro ⟨x, y, z⟩
  have := h.2.2.2.1 j ho x y
  omega
theorem p_c {n : Int} {k : Fin 640} (h : okB n k = true) : pLow n true 4 (bH k) false (bL k) (bG k) = cLo n k ∧ pHigh n true 4 (bH k) false (bL k) (bG k) = cHi n k := by
  unfold pLow pHigh cLo cHi
  rw [if_pos (okB_fE h), if_pos (okB_fE h)]
  exact ⟨rfl, rfl⟩
end Go.Proofs.YtldghloflegpmaaGreatDoor

namespace Go.Proofs.YtldghloflegpmaaGreatDoor
open Go.RowKit Go.Shelf Pu Go.Lib

/-- No fit, and an error. -/
def noF (x : Int) : Value := .tuple #[.agg (fitC 0 false 0 0 false 0 0), .int .i64 x]
/-- The arguments of Choose are right. -/
def rightC (n lo hi : Int) : Prop := zE n = 0 ∧ (-100000 ≤ lo ∧ lo ≤ 100000) ∧ (-100000 ≤ hi ∧ hi ≤ 100000) ∧ lo ≤ hi
instance (n lo hi : Int) : Decidable (rightC n lo hi) := by unfold rightC; infer_instance
/-- The number of the error of wrong arguments. -/
def wrongE (n lo hi : Int) : Int := if zE n = 0 ∧ (-100000 ≤ lo ∧ lo ≤ 100000) ∧ (-100000 ≤ hi ∧ hi ≤ 100000) then 9 else 2
/-- What Choose returns. -/
def choV (n lo hi : Int) : Value := if rightC n lo hi then chV n lo hi else noF (wrongE n lo hi)
set_option maxRecDepth 100000 in
set_option maxHeartbeats 4000000 in
theorem Choose_size (n lo hi : Int) (w : World) (hz : ¬ zE n = 0) : Calls Tryz.prog 37 #[.int .i64 n, .agg #[.int .i64 lo, .int .i64 hi]] w fun e w' => e = .returned (noF 2) ∧ Below w.heap.size w w' := by
  have h2 := Lib.hid (zE_two hz)
  clear hz
  go_enter Tryz.func37, Tryz.ntmps37
  have hr := Row.new (w.alloc (.cells #[.int .i64 lo, .int .i64 hi] 23)) (fitC 0 false 0 0 false 0 0) 42
  simp only [World.size_alloc] at hr
  have rl := (Row.new w #[.int .i64 lo, .int .i64 hi] 23).alloc (.cells (fitC 0 false 0 0 false 0 0) 42)
  have hb := ((Below.refl _ w).alloc (Nat.le_refl _) (.cells #[.int .i64 lo, .int .i64 hi] 23)).alloc (by simp) (.cells (fitC 0 false 0 0 false 0 0) 42)
  have hc := hr.cell
  have cl := rl.cell
  have hfz := hr.frozen
  go_wp2_with fail
  refine (fsized_c _ _).mono ?_
  rintro e w1 ⟨rfl, rfl⟩
  rw [h2.out]
  go_wp2
  exact bodyPost_ret (cho_results (cs := (fitC 0 false 0 0 false 0 0)) (e := 2) rfl rfl hr infoFit) rfl ⟨rfl, hb⟩
set_option maxRecDepth 100000 in
set_option maxHeartbeats 4000000 in
theorem Choose_lo1 (n lo hi : Int) (w : World) (hz : zE n = 0) (h : lo < -100000) : Calls Tryz.prog 37 #[.int .i64 n, .agg #[.int .i64 lo, .int .i64 hi]] w fun e w' => e = .returned (noF 2) ∧ Below w.heap.size w w' := by
  have Hz := Lib.hid hz
  clear hz
  have t0 := fun w => ints_at0 (.int .i64 lo) (.int .i64 hi) w
  have t1 := fun w => ints_at1 (.int .i64 lo) (.int .i64 hi) w
  go_enter Tryz.func37, Tryz.ntmps37
  have hr := Row.new (w.alloc (.cells #[.int .i64 lo, .int .i64 hi] 23)) (fitC 0 false 0 0 false 0 0) 42
  simp only [World.size_alloc] at hr
  have rl := (Row.new w #[.int .i64 lo, .int .i64 hi] 23).alloc (.cells (fitC 0 false 0 0 false 0 0) 42)
  have hb := ((Below.refl _ w).alloc (Nat.le_refl _) (.cells #[.int .i64 lo, .int .i64 hi] 23)).alloc (by simp) (.cells (fitC 0 false 0 0 false 0 0) 42)
  have hc := hr.cell
  have cl := rl.cell
  have hfz := hr.frozen
  go_wp2_with fail
  refine (fsized_c _ _).mono ?_
  rintro e w1 ⟨rfl, rfl⟩
  rw [Hz.out]
  go_wp2_with fail
  refine wp_loop_rounds 3 ?_
  rw [rounds_succ]
  go_wp2
  exact bodyPost_ret (cho_results (cs := (fitC 0 false 0 0 false 0 0)) (e := 2) rfl rfl hr infoFit) rfl ⟨rfl, hb⟩
set_option maxRecDepth 100000 in
set_option maxHeartbeats 4000000 in
theorem Choose_lo2 (n lo hi : Int) (w : World) (hz : zE n = 0) (h : 100000 < lo) : Calls Tryz.prog 37 #[.int .i64 n, .agg #[.int .i64 lo, .int .i64 hi]] w fun e w' => e = .returned (noF 2) ∧ Below w.heap.size w w' := by
  have Hz := Lib.hid hz
  clear hz
  have t0 := fun w => ints_at0 (.int .i64 lo) (.int .i64 hi) w
  have t1 := fun w => ints_at1 (.int .i64 lo) (.int .i64 hi) w
  go_enter Tryz.func37, Tryz.ntmps37
  have hr := Row.new (w.alloc (.cells #[.int .i64 lo, .int .i64 hi] 23)) (fitC 0 false 0 0 false 0 0) 42
  simp only [World.size_alloc] at hr
  have rl := (Row.new w #[.int .i64 lo, .int .i64 hi] 23).alloc (.cells (fitC 0 false 0 0 false 0 0) 42)
  have hb := ((Below.refl _ w).alloc (Nat.le_refl _) (.cells #[.int .i64 lo, .int .i64 hi] 23)).alloc (by simp) (.cells (fitC 0 false 0 0 false 0 0) 42)
  have hc := hr.cell
  have cl := rl.cell
  have hfz := hr.frozen
  go_wp2_with fail
  refine (fsized_c _ _).mono ?_
  rintro e w1 ⟨rfl, rfl⟩
  rw [Hz.out]
  go_wp2_with fail
  refine wp_loop_rounds 3 ?_
  rw [rounds_succ]
  go_wp2
  exact bodyPost_ret (cho_results (cs := (fitC 0 false 0 0 false 0 0)) (e := 2) rfl rfl hr infoFit) rfl ⟨rfl, hb⟩
set_option maxRecDepth 100000 in
set_option maxHeartbeats 4000000 in
theorem Choose_hi1 (n lo hi : Int) (w : World) (hz : zE n = 0) (h1 : -100000 ≤ lo) (h2 : lo ≤ 100000) (h : hi < -100000) : Calls Tryz.prog 37 #[.int .i64 n, .agg #[.int .i64 lo, .int .i64 hi]] w fun e w' => e = .returned (noF 2) ∧ Below w.heap.size w w' := by
  have Hz := Lib.hid hz
  clear hz
  have t0 := fun w => ints_at0 (.int .i64 lo) (.int .i64 hi) w
  have t1 := fun w => ints_at1 (.int .i64 lo) (.int .i64 hi) w
  go_enter Tryz.func37, Tryz.ntmps37
  have hr := Row.new (w.alloc (.cells #[.int .i64 lo, .int .i64 hi] 23)) (fitC 0 false 0 0 false 0 0) 42
  simp only [World.size_alloc] at hr
  have rl := (Row.new w #[.int .i64 lo, .int .i64 hi] 23).alloc (.cells (fitC 0 false 0 0 false 0 0) 42)
  have hb := ((Below.refl _ w).alloc (Nat.le_refl _) (.cells #[.int .i64 lo, .int .i64 hi] 23)).alloc (by simp) (.cells (fitC 0 false 0 0 false 0 0) 42)
  have hc := hr.cell
  have cl := rl.cell
  have hfz := hr.frozen
  go_wp2_with fail
  refine (fsized_c _ _).mono ?_
  rintro e w1 ⟨rfl, rfl⟩
  rw [Hz.out]
  go_wp2_with fail
  refine wp_loop_rounds 3 ?_
  rw [rounds_succ]
  go_wp2_with fail
  rw [rounds_succ]
  go_wp2
  exact bodyPost_ret (cho_results (cs := (fitC 0 false 0 0 false 0 0)) (e := 2) rfl rfl hr infoFit) rfl ⟨rfl, hb⟩
set_option maxRecDepth 100000 in
set_option maxHeartbeats 4000000 in
theorem Choose_hi2 (n lo hi : Int) (w : World) (hz : zE n = 0) (h1 : -100000 ≤ lo) (h2 : lo ≤ 100000) (h : 100000 < hi) : Calls Tryz.prog 37 #[.int .i64 n, .agg #[.int .i64 lo, .int .i64 hi]] w fun e w' => e = .returned (noF 2) ∧ Below w.heap.size w w' := by
  have Hz := Lib.hid hz
  clear hz
  have t0 := fun w => ints_at0 (.int .i64 lo) (.int .i64 hi) w
  have t1 := fun w => ints_at1 (.int .i64 lo) (.int .i64 hi) w
  go_enter Tryz.func37, Tryz.ntmps37
  have hr := Row.new (w.alloc (.cells #[.int .i64 lo, .int .i64 hi] 23)) (fitC 0 false 0 0 false 0 0) 42
  simp only [World.size_alloc] at hr
  have rl := (Row.new w #[.int .i64 lo, .int .i64 hi] 23).alloc (.cells (fitC 0 false 0 0 false 0 0) 42)
  have hb := ((Below.refl _ w).alloc (Nat.le_refl _) (.cells #[.int .i64 lo, .int .i64 hi] 23)).alloc (by simp) (.cells (fitC 0 false 0 0 false 0 0) 42)
  have hc := hr.cell
  have cl := rl.cell
  have hfz := hr.frozen
  go_wp2_with fail
  refine (fsized_c _ _).mono ?_
  rintro e w1 ⟨rfl, rfl⟩
  rw [Hz.out]
  go_wp2_with fail
  refine wp_loop_rounds 3 ?_
  rw [rounds_succ]
  go_wp2_with fail
  rw [rounds_succ]
  go_wp2
  exact bodyPost_ret (cho_results (cs := (fitC 0 false 0 0 false 0 0)) (e := 2) rfl rfl hr infoFit) rfl ⟨rfl, hb⟩
set_option maxRecDepth 100000 in
set_option maxHeartbeats 4000000 in
theorem Choose_ord (n lo hi : Int) (w : World) (hz : zE n = 0) (h1 : -100000 ≤ lo) (h2 : lo ≤ 100000) (h3 : -100000 ≤ hi) (h4 : hi ≤ 100000) (h : hi < lo) : Calls Tryz.prog 37 #[.int .i64 n, .agg #[.int .i64 lo, .int .i64 hi]] w fun e w' => e = .returned (noF 9) ∧ Below w.heap.size w w' := by
  have Hz := Lib.hid hz
  clear hz
  have t0 := fun w => ints_at0 (.int .i64 lo) (.int .i64 hi) w
  have t1 := fun w => ints_at1 (.int .i64 lo) (.int .i64 hi) w
  go_enter Tryz.func37, Tryz.ntmps37
  have hr := Row.new (w.alloc (.cells #[.int .i64 lo, .int .i64 hi] 23)) (fitC 0 false 0 0 false 0 0) 42
  simp only [World.size_alloc] at hr
  have rl := (Row.new w #[.int .i64 lo, .int .i64 hi] 23).alloc (.cells (fitC 0 false 0 0 false 0 0) 42)
  have hb := ((Below.refl _ w).alloc (Nat.le_refl _) (.cells #[.int .i64 lo, .int .i64 hi] 23)).alloc (by simp) (.cells (fitC 0 false 0 0 false 0 0) 42)
  have hc := hr.cell
  have cl := rl.cell
  have hfz := hr.frozen
  go_wp2_with fail
  refine (fsized_c _ _).mono ?_
  rintro e w1 ⟨rfl, rfl⟩
  rw [Hz.out]
  go_wp2_with fail
  refine wp_loop_rounds 3 ?_
  rw [rounds_succ]
  go_wp2_with fail
  rw [rounds_succ]
  go_wp2_with fail
  rw [rounds_succ]
  go_wp2
  exact bodyPost_ret (cho_results (cs := (fitC 0 false 0 0 false 0 0)) (e := 9) rfl rfl hr infoFit) rfl ⟨rfl, hb⟩
theorem Choose_c (n lo hi : Int) (w : World) : Calls Tryz.prog 37 #[.int .i64 n, .agg #[.int .i64 lo, .int .i64 hi]] w fun e w' => e = .returned (choV n lo hi) ∧ Below w.heap.size w w' := by
  unfold choV
  by_cases hr : rightC n lo hi
  · rw [if_pos hr]
    obtain ⟨hz, ⟨h1, h2⟩, ⟨h3, h4⟩, h5⟩ := hr
    exact callsIn_wide.1 (Choose_in n lo hi w hz h1 h2 h3 h4 h5)
  · rw [if_neg hr]
    by_cases hz : zE n = 0
    case neg =>
      rw [show wrongE n lo hi = 2 by unfold wrongE; rw [if_neg (fun h => hz h.1)]]
      exact Choose_size n lo hi w hz
    by_cases h1 : lo < -100000
    · rw [show wrongE n lo hi = 2 by unfold wrongE; rw [if_neg (by omega)]]
      exact Choose_lo1 n lo hi w hz h1
    by_cases h2 : 100000 < lo
    · rw [show wrongE n lo hi = 2 by unfold wrongE; rw [if_neg (by omega)]]
      exact Choose_lo2 n lo hi w hz h2
    by_cases h3 : hi < -100000
    · rw [show wrongE n lo hi = 2 by unfold wrongE; rw [if_neg (by omega)]]
      exact Choose_hi1 n lo hi w hz (by omega) (by omega) h3
    by_cases h4 : 100000 < hi
    · rw [show wrongE n lo hi = 2 by unfold wrongE; rw [if_neg (by omega)]]
      exact Choose_hi2 n lo hi w hz (by omega) (by omega) h4
    rw [show wrongE n lo hi = 9 by unfold wrongE; rw [if_pos ⟨hz, by omega, by omega⟩]]
    refine Choose_ord n lo hi w hz (by omega) (by omega) (by omega) (by omega) ?_
    by_cases h : hi < lo
    · exact h
    · exact absurd ⟨hz, ⟨by omega, by omega⟩, ⟨by omega, by omega⟩, by omega⟩ hr
end Go.Proofs.YtldghloflegpmaaGreatDoor

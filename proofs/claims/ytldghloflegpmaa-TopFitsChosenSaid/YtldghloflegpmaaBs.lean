/- The iterator over the right fits of the basic hole: its contract. -/
import Derived.RangeFuncNested
import Derived.RangeFuncBound
import Derived.RangeFuncCalls
import Derived.RangeFuncLeaves
import Derived.Shelf.Abstract
import Derived.Shelf.RegionOpen
import Derived.WalkKit
import Derived.OwnWalkIn
import Derived.TacticsInMore
import Derived.LoopNIn
import Derived.LoopIn
import Derived.Maps.AppendAt
import Derived.RangeFuncBox
import Derived.Test.YtldghloflegpmaaFtB
import Derived.Test.YtldghloflegpmaaShi
namespace Go.Proofs.Ytldghloflegpmaa
open Go.RowKit Go.Shelf Pu Go.Lib
attribute [local go_sem] Oper.semAt_some

/-- One row is kept. -/
def K1 (b : Nat) (cs : Array Value) (T : TypeId) (W W' : World) : Prop := Row W b cs T → Row W' b cs T
theorem K1.t {b : Nat} {cs : Array Value} {T : TypeId} {A B C : World} (h : K1 b cs T A B) (k : K1 b cs T B C) : K1 b cs T A C := fun r => k (h r)
theorem K1.b {b : Nat} {cs : Array Value} {T : TypeId} (W : World) (l : Nat) (o o' : Obj) (h : W.heap[l]? = some o) (ho : o.isCells = false) : K1 b cs T W (W.putObj l o') := fun r => by
  refine ((grownBy_putObj' W l o').block b r.lt (fun e => ?_)).trans r
  cases e
  unfold Row at r
  rw [h] at r
  cases r
  cases ho

def bH (k : Fin 640) : Int := ((5 + k.1 / 80 : Nat) : Int)
def bL (k : Fin 640) : Int := ((k.1 / 8 % 10 : Nat) : Int)
def bG (k : Fin 640) : Int := ((5 + k.1 % 8 : Nat) : Int)
def okB (n : Int) (k : Fin 640) : Bool := decide (fE n true 4 (bH k) false (bL k) (bG k) = 0)
def encB (n : Int) (k : Fin 640) : Array Value := #[.agg (chkC n true 4 (bH k) false (bL k) (bG k) (mLow n true 4 (bH k)) (mHigh n true 4 (bH k)) (mLow n false (bL k) (bG k)) (mHigh n false (bL k) (bG k)))]
def allB : List (Fin 640) := List.finRange 640
theorem allB_len : allB.length = 640 := List.length_finRange
set_option maxRecDepth 100000 in
theorem allB_take (k : Nat) (h : k < 640) : allB.take (k + 1) = allB.take k ++ [⟨k, h⟩] := by
  rw [List.take_succ_eq_append_getElem (by rw [allB_len]; exact h)]
  congr 2
  unfold allB
  simp
theorem b_at (a i g : Nat) (_ha : a < 8) (hi : i < 10) (hg : g < 8) (h : 80 * a + 8 * i + g < 640) :
    bH ⟨80 * a + 8 * i + g, h⟩ = 5 + (a : Int) ∧ bL ⟨80 * a + 8 * i + g, h⟩ = (i : Int) ∧ bG ⟨80 * a + 8 * i + g, h⟩ = 5 + (g : Int) := by
  unfold bH bL bG
  simp only
  omega
end Go.Proofs.Ytldghloflegpmaa

/- A block whose cells are known whole. -/
import Derived.Test.YtldghloflegpmaaGreatDoorGrG
namespace Go.Proofs.YtldghloflegpmaaGreatDoor
open Go.RowKit Go.Lib

/-- Block b holds these cells. -/
def Row (w : World) (b : Nat) (cs : Array Value) (T : TypeId) : Prop := w.heap[b]? = some (.cells cs T (0, 0))
theorem Row.new (w : World) (cs : Array Value) (T : TypeId) : Row (w.alloc (.cells cs T)) w.heap.size cs T := heap_alloc_last w _
theorem Row.lt {w : World} {b : Nat} {cs : Array Value} {T : TypeId} (h : Row w b cs T) : b < w.heap.size := by
  unfold Row at h
  rcases Nat.lt_or_ge b w.heap.size with h' | h'
  · exact h'
  · rw [Array.getElem?_eq_none h'] at h; cases h
theorem Row.alloc {w : World} {b : Nat} {cs : Array Value} {T : TypeId} (h : Row w b cs T) (o : Obj) : Row (w.alloc o) b cs T := (Below.heap_alloc w o b h.lt).trans h
theorem Row.next {w w' : World} {b : Nat} {cs : Array Value} {T : TypeId} (h : Row w b cs T) (hb : Below w.heap.size w w') : Row w' b cs T := (hb.block b h.lt).trans h
theorem Row.cell {w : World} {b : Nat} {cs : Array Value} {T : TypeId} (h : Row w b cs T) (j : Nat) : w.cell? ⟨b, j, none⟩ = cs[j]? := cell_of_row w b j cs T (0, 0) h
theorem Row.frozen {w : World} {b : Nat} {cs : Array Value} {T : TypeId} (h : Row w b cs T) (j : Nat) : w.frozen? ⟨b, j, none⟩ = false := frozen_of_row w b j cs T h
theorem Row.set {w : World} {b : Nat} {cs : Array Value} {T : TypeId} (h : Row w b cs T) (ds : Array Value) : Row (w.setRow b ds) b ds T := setRow_heap w b cs ds T (0, 0) h
theorem Row.drw {w : World} {b : Nat} {cs : Array Value} {T : TypeId} (h : Row w b cs T) : Row w.drew b cs T := h
theorem Row.put {w : World} {b : Nat} {cs : Array Value} {T : TypeId} (h : Row w b cs T) (i : Nat) (v : Value) : Row (w.setCell ⟨b, i, none⟩ v) b (cs.setIfInBounds i v) T := by
  rw [setCell_eq_setRow w b i cs T (0, 0) v h]; exact h.set _
theorem Row.other {w : World} {b : Nat} {cs : Array Value} {T : TypeId} (h : Row w b cs T) {p : Addr} (hp : b ≠ p.block) (v : Value) : Row (w.setCell p v) b cs T :=
  (Below.heap_setCell w p v b hp).trans h
theorem below_row {B g : Nat} {w0 w : World} (hb : Below B w0 w) (hg : B ≤ g) (cs : Array Value) : Below B w0 (w.setRow g cs) :=
  hb.trans ⟨rfl, rfl, rfl, by simp, fun k hk => setRow_other _ _ _ _ (by omega)⟩

end Go.Proofs.YtldghloflegpmaaGreatDoor

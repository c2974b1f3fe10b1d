/- More of rows: behind an allocation, whatever is laid. -/
import Derived.Test.YtldghloflegpmaaGreatDoorRow
namespace Go.Proofs.YtldghloflegpmaaGreatDoor
open Go.RowKit Go.Lib

theorem Row.cellA {w : World} {b : Nat} {cs : Array Value} {T : TypeId} (h : Row w b cs T) : ∀ (o : Obj) (j : Nat), (w.alloc o).cell? ⟨b, j, none⟩ = cs[j]? := fun o => (h.alloc o).cell
theorem Row.frozenA {w : World} {b : Nat} {cs : Array Value} {T : TypeId} (h : Row w b cs T) : ∀ (o : Obj) (j : Nat), (w.alloc o).frozen? ⟨b, j, none⟩ = false := fun o => (h.alloc o).frozen
end Go.Proofs.YtldghloflegpmaaGreatDoor

/- Contracts of the reference for grades: the base, the tolerance, the deviations of a shaft. -/
import Derived.Test.YtldghloflegpmaaRfA
namespace Go.Proofs.Ytldghloflegpmaa
open Go.RowKit Pu Go.Lib

theorem Row.drew {w : World} {b : Nat} {cs : Array Value} {T : TypeId} (h : Row w b cs T) : Row w.drew b cs T := h
theorem bel_a {w w' : World} {o : Obj} (h : Below w.drew.heap.size w.drew w') : Below w.heap.size w (w'.alloc o) := ((Below.refl _ w).drew.trans h).alloc h.size _
theorem bel_b {w w' : World} {o : Obj} (h : Below (w.alloc o).drew.heap.size (w.alloc o).drew w') : Below w.heap.size w w' := (((Below.refl _ w).alloc (Nat.le_refl _) o).drew).trans (h.mono (by simp))

end Go.Proofs.Ytldghloflegpmaa

/- One, two, three blocks held over a region that draws its order. -/
import Derived.Test.YteaopiogjlinbaaGreatDoorRo2
namespace Go.Proofs.YteaopiogjlinbaaGreatDoor
open Go.RowKit Go.Lib

/-- One, two, three blocks whose cells are known, and what lay below. -/
def H1 (B : Nat) (w0 : World) (b0 : Nat) (c0 : Array Value) (T0 : TypeId) (w : World) : Prop := (B ≤ w0.heap.size ∧ Below B w0 w) ∧ Row w b0 c0 T0
def S1 (B : Nat) (w0 : World) (b0 : Nat) (c0 : Array Value) (T0 : TypeId) (w : World) : Prop := H1 B w0 b0 c0 T0 w ∧ (∀ j, w.cell? ⟨b0, j, none⟩ = c0[j]?)
theorem S1.of {B : Nat} {w0 : World} {b0 : Nat} {c0 : Array Value} {T0 : TypeId} {w : World} (h : H1 B w0 b0 c0 T0 w) : S1 B w0 b0 c0 T0 w := ⟨h, h.2.cell⟩
theorem S1.drew {B : Nat} {w0 : World} {b0 : Nat} {c0 : Array Value} {T0 : TypeId} {w : World} (h : S1 B w0 b0 c0 T0 w) : S1 B w0 b0 c0 T0 w.drew := S1.of ⟨⟨h.1.1.1, h.1.1.2.drew⟩, h.1.2.drw⟩
theorem S1.call {B : Nat} {w0 : World} {b0 : Nat} {c0 : Array Value} {T0 : TypeId} {w w' : World} (h : S1 B w0 b0 c0 T0 w) (hb : Below w.heap.size w w') : S1 B w0 b0 c0 T0 w' := S1.of ⟨⟨h.1.1.1, h.1.1.2.trans (hb.mono (Nat.le_trans h.1.1.1 h.1.1.2.size))⟩, h.1.2.next hb⟩
def H2 (B : Nat) (w0 : World) (b0 : Nat) (c0 : Array Value) (T0 : TypeId) (b1 : Nat) (c1 : Array Value) (T1 : TypeId) (w : World) : Prop := (B ≤ w0.heap.size ∧ Below B w0 w) ∧ Row w b0 c0 T0 ∧ Row w b1 c1 T1
def S2 (B : Nat) (w0 : World) (b0 : Nat) (c0 : Array Value) (T0 : TypeId) (b1 : Nat) (c1 : Array Value) (T1 : TypeId) (w : World) : Prop := H2 B w0 b0 c0 T0 b1 c1 T1 w ∧ (∀ j, w.cell? ⟨b0, j, none⟩ = c0[j]?) ∧ (∀ j, w.cell? ⟨b1, j, none⟩ = c1[j]?)
theorem S2.of {B : Nat} {w0 : World} {b0 : Nat} {c0 : Array Value} {T0 : TypeId} {b1 : Nat} {c1 : Array Value} {T1 : TypeId} {w : World} (h : H2 B w0 b0 c0 T0 b1 c1 T1 w) : S2 B w0 b0 c0 T0 b1 c1 T1 w := ⟨h, h.2.1.cell, h.2.2.cell⟩
theorem S2.drew {B : Nat} {w0 : World} {b0 : Nat} {c0 : Array Value} {T0 : TypeId} {b1 : Nat} {c1 : Array Value} {T1 : TypeId} {w : World} (h : S2 B w0 b0 c0 T0 b1 c1 T1 w) : S2 B w0 b0 c0 T0 b1 c1 T1 w.drew := S2.of ⟨⟨h.1.1.1, h.1.1.2.drew⟩, h.1.2.1.drw, h.1.2.2.drw⟩
theorem S2.call {B : Nat} {w0 : World} {b0 : Nat} {c0 : Array Value} {T0 : TypeId} {b1 : Nat} {c1 : Array Value} {T1 : TypeId} {w w' : World} (h : S2 B w0 b0 c0 T0 b1 c1 T1 w) (hb : Below w.heap.size w w') : S2 B w0 b0 c0 T0 b1 c1 T1 w' := S2.of ⟨⟨h.1.1.1, h.1.1.2.trans (hb.mono (Nat.le_trans h.1.1.1 h.1.1.2.size))⟩, h.1.2.1.next hb, h.1.2.2.next hb⟩
def H3 (B : Nat) (w0 : World) (b0 : Nat) (c0 : Array Value) (T0 : TypeId) (b1 : Nat) (c1 : Array Value) (T1 : TypeId) (b2 : Nat) (c2 : Array Value) (T2 : TypeId) (w : World) : Prop := (B ≤ w0.heap.size ∧ Below B w0 w) ∧ Row w b0 c0 T0 ∧ Row w b1 c1 T1 ∧ Row w b2 c2 T2
def S3 (B : Nat) (w0 : World) (b0 : Nat) (c0 : Array Value) (T0 : TypeId) (b1 : Nat) (c1 : Array Value) (T1 : TypeId) (b2 : Nat) (c2 : Array Value) (T2 : TypeId) (w : World) : Prop := H3 B w0 b0 c0 T0 b1 c1 T1 b2 c2 T2 w ∧ (∀ j, w.cell? ⟨b0, j, none⟩ = c0[j]?) ∧ (∀ j, w.cell? ⟨b1, j, none⟩ = c1[j]?) ∧ (∀ j, w.cell? ⟨b2, j, none⟩ = c2[j]?)
theorem S3.of {B : Nat} {w0 : World} {b0 : Nat} {c0 : Array Value} {T0 : TypeId} {b1 : Nat} {c1 : Array Value} {T1 : TypeId} {b2 : Nat} {c2 : Array Value} {T2 : TypeId} {w : World} (h : H3 B w0 b0 c0 T0 b1 c1 T1 b2 c2 T2 w) : S3 B w0 b0 c0 T0 b1 c1 T1 b2 c2 T2 w := ⟨h, h.2.1.cell, h.2.2.1.cell, h.2.2.2.cell⟩
theorem S3.drew {B : Nat} {w0 : World} {b0 : Nat} {c0 : Array Value} {T0 : TypeId} {b1 : Nat} {c1 : Array Value} {T1 : TypeId} {b2 : Nat} {c2 : Array Value} {T2 : TypeId} {w : World} (h : S3 B w0 b0 c0 T0 b1 c1 T1 b2 c2 T2 w) : S3 B w0 b0 c0 T0 b1 c1 T1 b2 c2 T2 w.drew := S3.of ⟨⟨h.1.1.1, h.1.1.2.drew⟩, h.1.2.1.drw, h.1.2.2.1.drw, h.1.2.2.2.drw⟩
theorem S3.call {B : Nat} {w0 : World} {b0 : Nat} {c0 : Array Value} {T0 : TypeId} {b1 : Nat} {c1 : Array Value} {T1 : TypeId} {b2 : Nat} {c2 : Array Value} {T2 : TypeId} {w w' : World} (h : S3 B w0 b0 c0 T0 b1 c1 T1 b2 c2 T2 w) (hb : Below w.heap.size w w') : S3 B w0 b0 c0 T0 b1 c1 T1 b2 c2 T2 w' := S3.of ⟨⟨h.1.1.1, h.1.1.2.trans (hb.mono (Nat.le_trans h.1.1.1 h.1.1.2.size))⟩, h.1.2.1.next hb, h.1.2.2.1.next hb, h.1.2.2.2.next hb⟩
end Go.Proofs.YteaopiogjlinbaaGreatDoor

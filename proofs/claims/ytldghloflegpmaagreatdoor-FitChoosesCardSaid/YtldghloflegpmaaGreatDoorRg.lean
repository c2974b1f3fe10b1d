/- More of rows: behind an allocation, whatever is laid. One, two, three blocks held over a region that draws its order. Some blocks held over a region that draws its order. A region that draws its order, holds calls, and makes two boxes of its own which it fills. Contracts of the reference's layer 16: Both. Contracts of the reference's layer 16: Play, Limits, Clearance, Kind. -/
import Derived.Test.YtldghloflegpmaaGreatDoorRow
import Derived.Test.YtldghloflegpmaaGreatDoorFwA
import Derived.Deep.RegionHeld3
import Derived.Deep.RegionWith
namespace Go.Proofs.YtldghloflegpmaaGreatDoor
open Go.RowKit Go.Lib

theorem Row.cellA {w : World} {b : Nat} {cs : Array Value} {T : TypeId} (h : Row w b cs T) : ∀ (o : Obj) (j : Nat), (w.alloc o).cell? ⟨b, j, none⟩ = cs[j]? := fun o => (h.alloc o).cell
theorem Row.frozenA {w : World} {b : Nat} {cs : Array Value} {T : TypeId} (h : Row w b cs T) : ∀ (o : Obj) (j : Nat), (w.alloc o).frozen? ⟨b, j, none⟩ = false := fun o => (h.alloc o).frozen
end Go.Proofs.YtldghloflegpmaaGreatDoor

namespace Go.Proofs.YtldghloflegpmaaGreatDoor
open Go.RowKit Go.Lib

/-- One, two, three blocks whose cells are known, and what lay below. -/
def H1 (B : Nat) (w0 : World) (b0 : Nat) (c0 : Array Value) (T0 : TypeId) (w : World) : Prop := (B ≤ w0.heap.size ∧ Below B w0 w) ∧ Row w b0 c0 T0
def S1 (B : Nat) (w0 : World) (b0 : Nat) (c0 : Array Value) (T0 : TypeId) (w : World) : Prop := H1 B w0 b0 c0 T0 w ∧ (∀ j, w.cell? ⟨b0, j, none⟩ = c0[j]?)
theorem S1.of {B : Nat} {w0 : World} {b0 : Nat} {c0 : Array Value} {T0 : TypeId} {w : World} (h : H1 B w0 b0 c0 T0 w) : S1 B w0 b0 c0 T0 w := ⟨h, h.2.cell⟩
theorem S1.drew {B : Nat} {w0 : World} {b0 : Nat} {c0 : Array Value} {T0 : TypeId} {w : World} (h : S1 B w0 b0 c0 T0 w) : S1 B w0 b0 c0 T0 w.drew := S1.of ⟨⟨h.1.1.1, h.1.1.2.drew⟩, h.1.2.drw⟩
theorem S1.call {B : Nat} {w0 : World} {b0 : Nat} {c0 : Array Value} {T0 : TypeId} {w w' : World} (h : S1 B w0 b0 c0 T0 w) (hb : Below w.heap.size w w') : S1 B w0 b0 c0 T0 w' := S1.of ⟨⟨h.1.1.1, h.1.1.2.trans (hb.mono (Nat.le_trans h.1.1.1 h.1.1.2.size))⟩, h.1.2.next hb⟩
def H2 (B : Nat) (w0 : World) (b0 : Nat) (c0 : Array Value) (T0 : TypeId) (b1 : Nat) (c1 : Array Value) (T1 : TypeId) (w : World) : Prop := (B ≤ w0.heap.size ∧ Below B w0 w) ∧ Row w b0 c0 T0 ∧ Row w b1 c1 T1
def S2 (B : Nat) (w0 : World) (b0 : Nat) (c0 : Array Value) (T0 : TypeId) (b1 : Nat) (c1 : Array Value) (T1 : TypeId) (w : World) : Prop := H2 B w0 b0 c0 T0 b1 c1 T1 w ∧ (∀ j, w.cell? ⟨b0, j, none⟩ = c0[j]?) ∧ (∀ j, w.cell? ⟨b1, j, none⟩ = c1[j]?)
theorem S2.of {B : Nat} {w0 : World} {b0 : Nat} {c0 : Array Value} {T0 : TypeId} {b1 : Nat} {c1 : Array Value} {T1 : TypeId} {w : World} (h : H2 B w0 b0 c0 T0 b1 c1 T1 w) : S2 B w0 b0 c0 T0 b1 c1 T1 w := ⟨h, h.2.1.cell, h.2.2.cell⟩
theorem S2.drew {B : Nat} {w0 : World} {b0 : Nat} {c0 : Array Value} {T0 : TypeId} {b1 : Nat} {c1 : Array Value} {T1 : TypeId} {w : World} (h : S2 B w0 b0 c0 T0 b1 c1 T1 w) : S2 B w0 b0 c0 T0 b1 c1 T1 w.drew := S2.of ⟨⟨h.1.1.1, h.1.1.2.drew⟩, h.1.2.1.drw, h.1.2.2.drw⟩
theorem S2.call {B : Nat} {w0 : World} {b0 : Nat} {c0 : Array Value} {T0 : TypeId} {b1 : Nat} {c1 : Array Value} {T1 : TypeId} {w w' : World} (h : S2 B w0 b0 c0 T0 b1 c1 T1 w) (hb : Below w.heap.size w w') : S2 B w0 b0 c0 T0 b1 c1 T1 w' := S2.of ⟨⟨h.1.1.1, h.1.1.2.trans (hb.mono (Nat.le_trans h.1.1.1 h.1.1.2.size))⟩, h.1.2.1.next hb, h.1.2.2.next hb⟩
def H3 (B : Nat) (w0 : World) (b0 : Nat) (c0 : Array Value) (T0 : TypeId) (b1 : Nat) (c1 : Array Value) (T1 : TypeId) (b2 : Nat) (c2 : Array Value) (T2 : TypeId) (w : World) : Prop := (B ≤ w0.heap.size ∧ Below B w0 w) ∧ Row w b0 c0 T0 ∧ Row w b1 c1 T1 ∧ Row w b2 c2 T2
def S3 (B : Nat) (w0 : World) (b0 : Nat) (c0 : Array Value) (T0 : TypeId) (b1 : Nat) (c1 : Array Value) (T1 : TypeId) (b2 : Nat) (c2 : Array Value) (T2 : TypeId) (w : World) : Prop := H3 B w0 b0 c0 T0 b1 c1 T1 b2 c2 T2 w ∧ (∀ j, w.cell? ⟨b0, j, none⟩ = c0[j]?) ∧ (∀ j, w.cell? ⟨b1, j, none⟩ = c1[j]?) ∧ (∀ j, w.cell? ⟨b2, j, none⟩ = c2[j]?)
theorem S3.of {B : Nat} {w0 : World} {b0 : Nat} {c0 : Array Value} {T0 : TypeId} {b1 : Nat} {c1 : Array Value} {T1 : TypeId} {b2 : Nat} {c2 : Array Value} {T2 : TypeId} {w : World} (h : H3 B w0 b0 c0 T0 b1 c1 T1 b2 c2 T2 w) : S3 B w0 b0 c0 T0 b1 c1 T1 b2 c2 T2 w := ⟨h, h.2.1.cell, h.2.2.1.cell, h.2.2.2.cell⟩
theorem S3.drew {B : Nat} {w0 : World} {b0 : Nat} {c0 : Array Value} {T0 : TypeId} {b1 : Nat} {c1 : Array Value} {T1 : TypeId} {b2 : Nat} {c2 : Array Value} {T2 : TypeId} {w : World} (h : S3 B w0 b0 c0 T0 b1 c1 T1 b2 c2 T2 w) : S3 B w0 b0 c0 T0 b1 c1 T1 b2 c2 T2 w.drew := S3.of ⟨⟨h.1.1.1, h.1.1.2.drew⟩, h.1.2.1.drw, h.1.2.2.1.drw, h.1.2.2.2.drw⟩
theorem S3.call {B : Nat} {w0 : World} {b0 : Nat} {c0 : Array Value} {T0 : TypeId} {b1 : Nat} {c1 : Array Value} {T1 : TypeId} {b2 : Nat} {c2 : Array Value} {T2 : TypeId} {w w' : World} (h : S3 B w0 b0 c0 T0 b1 c1 T1 b2 c2 T2 w) (hb : Below w.heap.size w w') : S3 B w0 b0 c0 T0 b1 c1 T1 b2 c2 T2 w' := S3.of ⟨⟨h.1.1.1, h.1.1.2.trans (hb.mono (Nat.le_trans h.1.1.1 h.1.1.2.size))⟩, h.1.2.1.next hb, h.1.2.2.1.next hb, h.1.2.2.2.next hb⟩
end Go.Proofs.YtldghloflegpmaaGreatDoor

namespace Go.Proofs.YtldghloflegpmaaGreatDoor
open Go.RowKit Go.Lib

/-- Some blocks whose cells are known, and what lay below. -/
def HL (B : Nat) (w0 : World) (R : List (Nat × Array Value × TypeId)) (w : World) : Prop := (B ≤ w0.heap.size ∧ Below B w0 w) ∧ ∀ r ∈ R, Row w r.1 r.2.1 r.2.2
theorem HL.drew {B : Nat} {w0 : World} {R : List (Nat × Array Value × TypeId)} {w : World} (h : HL B w0 R w) : HL B w0 R w.drew := ⟨⟨h.1.1, h.1.2.drew⟩, fun r hr => (h.2 r hr).drw⟩
theorem HL.call {B : Nat} {w0 : World} {R : List (Nat × Array Value × TypeId)} {w w' : World} (h : HL B w0 R w) (hb : Below w.heap.size w w') : HL B w0 R w' :=
  ⟨⟨h.1.1, h.1.2.trans (hb.mono (Nat.le_trans h.1.1 h.1.2.size))⟩, fun r hr => (h.2 r hr).next hb⟩
theorem HL.al {B : Nat} {w0 : World} {R : List (Nat × Array Value × TypeId)} {w : World} {o : Obj} (h : HL B w0 R w) : HL B w0 R (w.alloc o) :=
  ⟨⟨h.1.1, h.1.2.alloc (Nat.le_trans h.1.1 h.1.2.size) _⟩, fun r hr => (h.2 r hr).alloc _⟩
def L1 (B : Nat) (w0 : World) (b0 : Nat) (c0 : Array Value) (T0 : TypeId) (w : World) : Prop := HL B w0 [(b0, c0, T0)] w ∧ (∀ j, w.cell? ⟨b0, j, none⟩ = c0[j]?)
theorem L1.of {B : Nat} {w0 : World} {b0 : Nat} {c0 : Array Value} {T0 : TypeId} {w : World} (h : HL B w0 [(b0, c0, T0)] w) : L1 B w0 b0 c0 T0 w := ⟨h, (h.2 (b0, c0, T0) (by simp)).cell⟩
theorem L1.drew {B : Nat} {w0 : World} {b0 : Nat} {c0 : Array Value} {T0 : TypeId} {w : World} (h : L1 B w0 b0 c0 T0 w) : L1 B w0 b0 c0 T0 w.drew := L1.of h.1.drew
theorem L1.call {B : Nat} {w0 : World} {b0 : Nat} {c0 : Array Value} {T0 : TypeId} {w w' : World} (h : L1 B w0 b0 c0 T0 w) (hb : Below w.heap.size w w') : L1 B w0 b0 c0 T0 w' := L1.of (h.1.call hb)
theorem L1.al {B : Nat} {w0 : World} {b0 : Nat} {c0 : Array Value} {T0 : TypeId} {w : World} {o : Obj} (h : L1 B w0 b0 c0 T0 w) : L1 B w0 b0 c0 T0 (w.alloc o) := L1.of h.1.al
theorem L1.mk {B : Nat} {w0 : World} {b0 : Nat} {c0 : Array Value} {T0 : TypeId} {w : World} (h0 : B ≤ w0.heap.size) (h : Below B w0 w) (r0 : Row w b0 c0 T0) : L1 B w0 b0 c0 T0 w := L1.of ⟨⟨h0, h⟩, by simp only [List.forall_mem_cons]; exact ⟨r0, by simp⟩⟩
theorem L1.out {B : Nat} {w0 : World} {b0 : Nat} {c0 : Array Value} {T0 : TypeId} {w : World} (h : L1 B w0 b0 c0 T0 w) : Below B w0 w ∧ Row w b0 c0 T0 := ⟨h.1.1.2, h.1.2 (b0, c0, T0) (by simp)⟩
def L2 (B : Nat) (w0 : World) (b0 : Nat) (c0 : Array Value) (T0 : TypeId) (b1 : Nat) (c1 : Array Value) (T1 : TypeId) (w : World) : Prop := HL B w0 [(b0, c0, T0), (b1, c1, T1)] w ∧ (∀ j, w.cell? ⟨b0, j, none⟩ = c0[j]?) ∧ (∀ j, w.cell? ⟨b1, j, none⟩ = c1[j]?)
theorem L2.of {B : Nat} {w0 : World} {b0 : Nat} {c0 : Array Value} {T0 : TypeId} {b1 : Nat} {c1 : Array Value} {T1 : TypeId} {w : World} (h : HL B w0 [(b0, c0, T0), (b1, c1, T1)] w) : L2 B w0 b0 c0 T0 b1 c1 T1 w := ⟨h, (h.2 (b0, c0, T0) (by simp)).cell, (h.2 (b1, c1, T1) (by simp)).cell⟩
theorem L2.drew {B : Nat} {w0 : World} {b0 : Nat} {c0 : Array Value} {T0 : TypeId} {b1 : Nat} {c1 : Array Value} {T1 : TypeId} {w : World} (h : L2 B w0 b0 c0 T0 b1 c1 T1 w) : L2 B w0 b0 c0 T0 b1 c1 T1 w.drew := L2.of h.1.drew
theorem L2.call {B : Nat} {w0 : World} {b0 : Nat} {c0 : Array Value} {T0 : TypeId} {b1 : Nat} {c1 : Array Value} {T1 : TypeId} {w w' : World} (h : L2 B w0 b0 c0 T0 b1 c1 T1 w) (hb : Below w.heap.size w w') : L2 B w0 b0 c0 T0 b1 c1 T1 w' := L2.of (h.1.call hb)
theorem L2.al {B : Nat} {w0 : World} {b0 : Nat} {c0 : Array Value} {T0 : TypeId} {b1 : Nat} {c1 : Array Value} {T1 : TypeId} {w : World} {o : Obj} (h : L2 B w0 b0 c0 T0 b1 c1 T1 w) : L2 B w0 b0 c0 T0 b1 c1 T1 (w.alloc o) := L2.of h.1.al
theorem L2.mk {B : Nat} {w0 : World} {b0 : Nat} {c0 : Array Value} {T0 : TypeId} {b1 : Nat} {c1 : Array Value} {T1 : TypeId} {w : World} (h0 : B ≤ w0.heap.size) (h : Below B w0 w) (r0 : Row w b0 c0 T0) (r1 : Row w b1 c1 T1) : L2 B w0 b0 c0 T0 b1 c1 T1 w := L2.of ⟨⟨h0, h⟩, by simp only [List.forall_mem_cons]; exact ⟨r0, r1, by simp⟩⟩
theorem L2.out {B : Nat} {w0 : World} {b0 : Nat} {c0 : Array Value} {T0 : TypeId} {b1 : Nat} {c1 : Array Value} {T1 : TypeId} {w : World} (h : L2 B w0 b0 c0 T0 b1 c1 T1 w) : Below B w0 w ∧ Row w b0 c0 T0 ∧ Row w b1 c1 T1 := ⟨h.1.1.2, h.1.2 (b0, c0, T0) (by simp), h.1.2 (b1, c1, T1) (by simp)⟩
def L3 (B : Nat) (w0 : World) (b0 : Nat) (c0 : Array Value) (T0 : TypeId) (b1 : Nat) (c1 : Array Value) (T1 : TypeId) (b2 : Nat) (c2 : Array Value) (T2 : TypeId) (w : World) : Prop := HL B w0 [(b0, c0, T0), (b1, c1, T1), (b2, c2, T2)] w ∧ (∀ j, w.cell? ⟨b0, j, none⟩ = c0[j]?) ∧ (∀ j, w.cell? ⟨b1, j, none⟩ = c1[j]?) ∧ (∀ j, w.cell? ⟨b2, j, none⟩ = c2[j]?)
theorem L3.of {B : Nat} {w0 : World} {b0 : Nat} {c0 : Array Value} {T0 : TypeId} {b1 : Nat} {c1 : Array Value} {T1 : TypeId} {b2 : Nat} {c2 : Array Value} {T2 : TypeId} {w : World} (h : HL B w0 [(b0, c0, T0), (b1, c1, T1), (b2, c2, T2)] w) : L3 B w0 b0 c0 T0 b1 c1 T1 b2 c2 T2 w := ⟨h, (h.2 (b0, c0, T0) (by simp)).cell, (h.2 (b1, c1, T1) (by simp)).cell, (h.2 (b2, c2, T2) (by simp)).cell⟩
theorem L3.drew {B : Nat} {w0 : World} {b0 : Nat} {c0 : Array Value} {T0 : TypeId} {b1 : Nat} {c1 : Array Value} {T1 : TypeId} {b2 : Nat} {c2 : Array Value} {T2 : TypeId} {w : World} (h : L3 B w0 b0 c0 T0 b1 c1 T1 b2 c2 T2 w) : L3 B w0 b0 c0 T0 b1 c1 T1 b2 c2 T2 w.drew := L3.of h.1.drew
theorem L3.call {B : Nat} {w0 : World} {b0 : Nat} {c0 : Array Value} {T0 : TypeId} {b1 : Nat} {c1 : Array Value} {T1 : TypeId} {b2 : Nat} {c2 : Array Value} {T2 : TypeId} {w w' : World} (h : L3 B w0 b0 c0 T0 b1 c1 T1 b2 c2 T2 w) (hb : Below w.heap.size w w') : L3 B w0 b0 c0 T0 b1 c1 T1 b2 c2 T2 w' := L3.of (h.1.call hb)
theorem L3.al {B : Nat} {w0 : World} {b0 : Nat} {c0 : Array Value} {T0 : TypeId} {b1 : Nat} {c1 : Array Value} {T1 : TypeId} {b2 : Nat} {c2 : Array Value} {T2 : TypeId} {w : World} {o : Obj} (h : L3 B w0 b0 c0 T0 b1 c1 T1 b2 c2 T2 w) : L3 B w0 b0 c0 T0 b1 c1 T1 b2 c2 T2 (w.alloc o) := L3.of h.1.al
theorem L3.mk {B : Nat} {w0 : World} {b0 : Nat} {c0 : Array Value} {T0 : TypeId} {b1 : Nat} {c1 : Array Value} {T1 : TypeId} {b2 : Nat} {c2 : Array Value} {T2 : TypeId} {w : World} (h0 : B ≤ w0.heap.size) (h : Below B w0 w) (r0 : Row w b0 c0 T0) (r1 : Row w b1 c1 T1) (r2 : Row w b2 c2 T2) : L3 B w0 b0 c0 T0 b1 c1 T1 b2 c2 T2 w := L3.of ⟨⟨h0, h⟩, by simp only [List.forall_mem_cons]; exact ⟨r0, r1, r2, by simp⟩⟩
theorem L3.out {B : Nat} {w0 : World} {b0 : Nat} {c0 : Array Value} {T0 : TypeId} {b1 : Nat} {c1 : Array Value} {T1 : TypeId} {b2 : Nat} {c2 : Array Value} {T2 : TypeId} {w : World} (h : L3 B w0 b0 c0 T0 b1 c1 T1 b2 c2 T2 w) : Below B w0 w ∧ Row w b0 c0 T0 ∧ Row w b1 c1 T1 ∧ Row w b2 c2 T2 := ⟨h.1.1.2, h.1.2 (b0, c0, T0) (by simp), h.1.2 (b1, c1, T1) (by simp), h.1.2 (b2, c2, T2) (by simp)⟩
def L4 (B : Nat) (w0 : World) (b0 : Nat) (c0 : Array Value) (T0 : TypeId) (b1 : Nat) (c1 : Array Value) (T1 : TypeId) (b2 : Nat) (c2 : Array Value) (T2 : TypeId) (b3 : Nat) (c3 : Array Value) (T3 : TypeId) (w : World) : Prop := HL B w0 [(b0, c0, T0), (b1, c1, T1), (b2, c2, T2), (b3, c3, T3)] w ∧ (∀ j, w.cell? ⟨b0, j, none⟩ = c0[j]?) ∧ (∀ j, w.cell? ⟨b1, j, none⟩ = c1[j]?) ∧ (∀ j, w.cell? ⟨b2, j, none⟩ = c2[j]?) ∧ (∀ j, w.cell? ⟨b3, j, none⟩ = c3[j]?)
theorem L4.of {B : Nat} {w0 : World} {b0 : Nat} {c0 : Array Value} {T0 : TypeId} {b1 : Nat} {c1 : Array Value} {T1 : TypeId} {b2 : Nat} {c2 : Array Value} {T2 : TypeId} {b3 : Nat} {c3 : Array Value} {T3 : TypeId} {w : World} (h : HL B w0 [(b0, c0, T0), (b1, c1, T1), (b2, c2, T2), (b3, c3, T3)] w) : L4 B w0 b0 c0 T0 b1 c1 T1 b2 c2 T2 b3 c3 T3 w := ⟨h, (h.2 (b0, c0, T0) (by simp)).cell, (h.2 (b1, c1, T1) (by simp)).cell, (h.2 (b2, c2, T2) (by simp)).cell, (h.2 (b3, c3, T3) (by simp)).cell⟩
theorem L4.drew {B : Nat} {w0 : World} {b0 : Nat} {c0 : Array Value} {T0 : TypeId} {b1 : Nat} {c1 : Array Value} {T1 : TypeId} {b2 : Nat} {c2 : Array Value} {T2 : TypeId} {b3 : Nat} {c3 : Array Value} {T3 : TypeId} {w : World} (h : L4 B w0 b0 c0 T0 b1 c1 T1 b2 c2 T2 b3 c3 T3 w) : L4 B w0 b0 c0 T0 b1 c1 T1 b2 c2 T2 b3 c3 T3 w.drew := L4.of h.1.drew
theorem L4.call {B : Nat} {w0 : World} {b0 : Nat} {c0 : Array Value} {T0 : TypeId} {b1 : Nat} {c1 : Array Value} {T1 : TypeId} {b2 : Nat} {c2 : Array Value} {T2 : TypeId} {b3 : Nat} {c3 : Array Value} {T3 : TypeId} {w w' : World} (h : L4 B w0 b0 c0 T0 b1 c1 T1 b2 c2 T2 b3 c3 T3 w) (hb : Below w.heap.size w w') : L4 B w0 b0 c0 T0 b1 c1 T1 b2 c2 T2 b3 c3 T3 w' := L4.of (h.1.call hb)
theorem L4.al {B : Nat} {w0 : World} {b0 : Nat} {c0 : Array Value} {T0 : TypeId} {b1 : Nat} {c1 : Array Value} {T1 : TypeId} {b2 : Nat} {c2 : Array Value} {T2 : TypeId} {b3 : Nat} {c3 : Array Value} {T3 : TypeId} {w : World} {o : Obj} (h : L4 B w0 b0 c0 T0 b1 c1 T1 b2 c2 T2 b3 c3 T3 w) : L4 B w0 b0 c0 T0 b1 c1 T1 b2 c2 T2 b3 c3 T3 (w.alloc o) := L4.of h.1.al
theorem L4.mk {B : Nat} {w0 : World} {b0 : Nat} {c0 : Array Value} {T0 : TypeId} {b1 : Nat} {c1 : Array Value} {T1 : TypeId} {b2 : Nat} {c2 : Array Value} {T2 : TypeId} {b3 : Nat} {c3 : Array Value} {T3 : TypeId} {w : World} (h0 : B ≤ w0.heap.size) (h : Below B w0 w) (r0 : Row w b0 c0 T0) (r1 : Row w b1 c1 T1) (r2 : Row w b2 c2 T2) (r3 : Row w b3 c3 T3) : L4 B w0 b0 c0 T0 b1 c1 T1 b2 c2 T2 b3 c3 T3 w := L4.of ⟨⟨h0, h⟩, by simp only [List.forall_mem_cons]; exact ⟨r0, r1, r2, r3, by simp⟩⟩
theorem L4.out {B : Nat} {w0 : World} {b0 : Nat} {c0 : Array Value} {T0 : TypeId} {b1 : Nat} {c1 : Array Value} {T1 : TypeId} {b2 : Nat} {c2 : Array Value} {T2 : TypeId} {b3 : Nat} {c3 : Array Value} {T3 : TypeId} {w : World} (h : L4 B w0 b0 c0 T0 b1 c1 T1 b2 c2 T2 b3 c3 T3 w) : Below B w0 w ∧ Row w b0 c0 T0 ∧ Row w b1 c1 T1 ∧ Row w b2 c2 T2 ∧ Row w b3 c3 T3 := ⟨h.1.1.2, h.1.2 (b0, c0, T0) (by simp), h.1.2 (b1, c1, T1) (by simp), h.1.2 (b2, c2, T2) (by simp), h.1.2 (b3, c3, T3) (by simp)⟩
def L5 (B : Nat) (w0 : World) (b0 : Nat) (c0 : Array Value) (T0 : TypeId) (b1 : Nat) (c1 : Array Value) (T1 : TypeId) (b2 : Nat) (c2 : Array Value) (T2 : TypeId) (b3 : Nat) (c3 : Array Value) (T3 : TypeId) (b4 : Nat) (c4 : Array Value) (T4 : TypeId) (w : World) : Prop := HL B w0 [(b0, c0, T0), (b1, c1, T1), (b2, c2, T2), (b3, c3, T3), (b4, c4, T4)] w ∧ (∀ j, w.cell? ⟨b0, j, none⟩ = c0[j]?) ∧ (∀ j, w.cell? ⟨b1, j, none⟩ = c1[j]?) ∧ (∀ j, w.cell? ⟨b2, j, none⟩ = c2[j]?) ∧ (∀ j, w.cell? ⟨b3, j, none⟩ = c3[j]?) ∧ (∀ j, w.cell? ⟨b4, j, none⟩ = c4[j]?)
theorem L5.of {B : Nat} {w0 : World} {b0 : Nat} {c0 : Array Value} {T0 : TypeId} {b1 : Nat} {c1 : Array Value} {T1 : TypeId} {b2 : Nat} {c2 : Array Value} {T2 : TypeId} {b3 : Nat} {c3 : Array Value} {T3 : TypeId} {b4 : Nat} {c4 : Array Value} {T4 : TypeId} {w : World} (h : HL B w0 [(b0, c0, T0), (b1, c1, T1), (b2, c2, T2), (b3, c3, T3), (b4, c4, T4)] w) : L5 B w0 b0 c0 T0 b1 c1 T1 b2 c2 T2 b3 c3 T3 b4 c4 T4 w := ⟨h, (h.2 (b0, c0, T0) (by simp)).cell, (h.2 (b1, c1, T1) (by simp)).cell, (h.2 (b2, c2, T2) (by simp)).cell, (h.2 (b3, c3, T3) (by simp)).cell, (h.2 (b4, c4, T4) (by simp)).cell⟩
theorem L5.drew {B : Nat} {w0 : World} {b0 : Nat} {c0 : Array Value} {T0 : TypeId} {b1 : Nat} {c1 : Array Value} {T1 : TypeId} {b2 : Nat} {c2 : Array Value} {T2 : TypeId} {b3 : Nat} {c3 : Array Value} {T3 : TypeId} {b4 : Nat} {c4 : Array Value} {T4 : TypeId} {w : World} (h : L5 B w0 b0 c0 T0 b1 c1 T1 b2 c2 T2 b3 c3 T3 b4 c4 T4 w) : L5 B w0 b0 c0 T0 b1 c1 T1 b2 c2 T2 b3 c3 T3 b4 c4 T4 w.drew := L5.of h.1.drew
theorem L5.call {B : Nat} {w0 : World} {b0 : Nat} {c0 : Array Value} {T0 : TypeId} {b1 : Nat} {c1 : Array Value} {T1 : TypeId} {b2 : Nat} {c2 : Array Value} {T2 : TypeId} {b3 : Nat} {c3 : Array Value} {T3 : TypeId} {b4 : Nat} {c4 : Array Value} {T4 : TypeId} {w w' : World} (h : L5 B w0 b0 c0 T0 b1 c1 T1 b2 c2 T2 b3 c3 T3 b4 c4 T4 w) (hb : Below w.heap.size w w') : L5 B w0 b0 c0 T0 b1 c1 T1 b2 c2 T2 b3 c3 T3 b4 c4 T4 w' := L5.of (h.1.call hb)
theorem L5.al {B : Nat} {w0 : World} {b0 : Nat} {c0 : Array Value} {T0 : TypeId} {b1 : Nat} {c1 : Array Value} {T1 : TypeId} {b2 : Nat} {c2 : Array Value} {T2 : TypeId} {b3 : Nat} {c3 : Array Value} {T3 : TypeId} {b4 : Nat} {c4 : Array Value} {T4 : TypeId} {w : World} {o : Obj} (h : L5 B w0 b0 c0 T0 b1 c1 T1 b2 c2 T2 b3 c3 T3 b4 c4 T4 w) : L5 B w0 b0 c0 T0 b1 c1 T1 b2 c2 T2 b3 c3 T3 b4 c4 T4 (w.alloc o) := L5.of h.1.al
theorem L5.mk {B : Nat} {w0 : World} {b0 : Nat} {c0 : Array Value} {T0 : TypeId} {b1 : Nat} {c1 : Array Value} {T1 : TypeId} {b2 : Nat} {c2 : Array Value} {T2 : TypeId} {b3 : Nat} {c3 : Array Value} {T3 : TypeId} {b4 : Nat} {c4 : Array Value} {T4 : TypeId} {w : World} (h0 : B ≤ w0.heap.size) (h : Below B w0 w) (r0 : Row w b0 c0 T0) (r1 : Row w b1 c1 T1) (r2 : Row w b2 c2 T2) (r3 : Row w b3 c3 T3) (r4 : Row w b4 c4 T4) : L5 B w0 b0 c0 T0 b1 c1 T1 b2 c2 T2 b3 c3 T3 b4 c4 T4 w := L5.of ⟨⟨h0, h⟩, by simp only [List.forall_mem_cons]; exact ⟨r0, r1, r2, r3, r4, by simp⟩⟩
theorem L5.out {B : Nat} {w0 : World} {b0 : Nat} {c0 : Array Value} {T0 : TypeId} {b1 : Nat} {c1 : Array Value} {T1 : TypeId} {b2 : Nat} {c2 : Array Value} {T2 : TypeId} {b3 : Nat} {c3 : Array Value} {T3 : TypeId} {b4 : Nat} {c4 : Array Value} {T4 : TypeId} {w : World} (h : L5 B w0 b0 c0 T0 b1 c1 T1 b2 c2 T2 b3 c3 T3 b4 c4 T4 w) : Below B w0 w ∧ Row w b0 c0 T0 ∧ Row w b1 c1 T1 ∧ Row w b2 c2 T2 ∧ Row w b3 c3 T3 ∧ Row w b4 c4 T4 := ⟨h.1.1.2, h.1.2 (b0, c0, T0) (by simp), h.1.2 (b1, c1, T1) (by simp), h.1.2 (b2, c2, T2) (by simp), h.1.2 (b3, c3, T3) (by simp), h.1.2 (b4, c4, T4) (by simp)⟩
def L6 (B : Nat) (w0 : World) (b0 : Nat) (c0 : Array Value) (T0 : TypeId) (b1 : Nat) (c1 : Array Value) (T1 : TypeId) (b2 : Nat) (c2 : Array Value) (T2 : TypeId) (b3 : Nat) (c3 : Array Value) (T3 : TypeId) (b4 : Nat) (c4 : Array Value) (T4 : TypeId) (b5 : Nat) (c5 : Array Value) (T5 : TypeId) (w : World) : Prop := HL B w0 [(b0, c0, T0), (b1, c1, T1), (b2, c2, T2), (b3, c3, T3), (b4, c4, T4), (b5, c5, T5)] w ∧ (∀ j, w.cell? ⟨b0, j, none⟩ = c0[j]?) ∧ (∀ j, w.cell? ⟨b1, j, none⟩ = c1[j]?) ∧ (∀ j, w.cell? ⟨b2, j, none⟩ = c2[j]?) ∧ (∀ j, w.cell? ⟨b3, j, none⟩ = c3[j]?) ∧ (∀ j, w.cell? ⟨b4, j, none⟩ = c4[j]?) ∧ (∀ j, w.cell? ⟨b5, j, none⟩ = c5[j]?)
theorem L6.of {B : Nat} {w0 : World} {b0 : Nat} {c0 : Array Value} {T0 : TypeId} {b1 : Nat} {c1 : Array Value} {T1 : TypeId} {b2 : Nat} {c2 : Array Value} {T2 : TypeId} {b3 : Nat} {c3 : Array Value} {T3 : TypeId} {b4 : Nat} {c4 : Array Value} {T4 : TypeId} {b5 : Nat} {c5 : Array Value} {T5 : TypeId} {w : World} (h : HL B w0 [(b0, c0, T0), (b1, c1, T1), (b2, c2, T2), (b3, c3, T3), (b4, c4, T4), (b5, c5, T5)] w) : L6 B w0 b0 c0 T0 b1 c1 T1 b2 c2 T2 b3 c3 T3 b4 c4 T4 b5 c5 T5 w := ⟨h, (h.2 (b0, c0, T0) (by simp)).cell, (h.2 (b1, c1, T1) (by simp)).cell, (h.2 (b2, c2, T2) (by simp)).cell, (h.2 (b3, c3, T3) (by simp)).cell, (h.2 (b4, c4, T4) (by simp)).cell, (h.2 (b5, c5, T5) (by simp)).cell⟩
theorem L6.drew {B : Nat} {w0 : World} {b0 : Nat} {c0 : Array Value} {T0 : TypeId} {b1 : Nat} {c1 : Array Value} {T1 : TypeId} {b2 : Nat} {c2 : Array Value} {T2 : TypeId} {b3 : Nat} {c3 : Array Value} {T3 : TypeId} {b4 : Nat} {c4 : Array Value} {T4 : TypeId} {b5 : Nat} {c5 : Array Value} {T5 : TypeId} {w : World} (h : L6 B w0 b0 c0 T0 b1 c1 T1 b2 c2 T2 b3 c3 T3 b4 c4 T4 b5 c5 T5 w) : L6 B w0 b0 c0 T0 b1 c1 T1 b2 c2 T2 b3 c3 T3 b4 c4 T4 b5 c5 T5 w.drew := L6.of h.1.drew
theorem L6.call {B : Nat} {w0 : World} {b0 : Nat} {c0 : Array Value} {T0 : TypeId} {b1 : Nat} {c1 : Array Value} {T1 : TypeId} {b2 : Nat} {c2 : Array Value} {T2 : TypeId} {b3 : Nat} {c3 : Array Value} {T3 : TypeId} {b4 : Nat} {c4 : Array Value} {T4 : TypeId} {b5 : Nat} {c5 : Array Value} {T5 : TypeId} {w w' : World} (h : L6 B w0 b0 c0 T0 b1 c1 T1 b2 c2 T2 b3 c3 T3 b4 c4 T4 b5 c5 T5 w) (hb : Below w.heap.size w w') : L6 B w0 b0 c0 T0 b1 c1 T1 b2 c2 T2 b3 c3 T3 b4 c4 T4 b5 c5 T5 w' := L6.of (h.1.call hb)
theorem L6.al {B : Nat} {w0 : World} {b0 : Nat} {c0 : Array Value} {T0 : TypeId} {b1 : Nat} {c1 : Array Value} {T1 : TypeId} {b2 : Nat} {c2 : Array Value} {T2 : TypeId} {b3 : Nat} {c3 : Array Value} {T3 : TypeId} {b4 : Nat} {c4 : Array Value} {T4 : TypeId} {b5 : Nat} {c5 : Array Value} {T5 : TypeId} {w : World} {o : Obj} (h : L6 B w0 b0 c0 T0 b1 c1 T1 b2 c2 T2 b3 c3 T3 b4 c4 T4 b5 c5 T5 w) : L6 B w0 b0 c0 T0 b1 c1 T1 b2 c2 T2 b3 c3 T3 b4 c4 T4 b5 c5 T5 (w.alloc o) := L6.of h.1.al
theorem L6.mk {B : Nat} {w0 : World} {b0 : Nat} {c0 : Array Value} {T0 : TypeId} {b1 : Nat} {c1 : Array Value} {T1 : TypeId} {b2 : Nat} {c2 : Array Value} {T2 : TypeId} {b3 : Nat} {c3 : Array Value} {T3 : TypeId} {b4 : Nat} {c4 : Array Value} {T4 : TypeId} {b5 : Nat} {c5 : Array Value} {T5 : TypeId} {w : World} (h0 : B ≤ w0.heap.size) (h : Below B w0 w) (r0 : Row w b0 c0 T0) (r1 : Row w b1 c1 T1) (r2 : Row w b2 c2 T2) (r3 : Row w b3 c3 T3) (r4 : Row w b4 c4 T4) (r5 : Row w b5 c5 T5) : L6 B w0 b0 c0 T0 b1 c1 T1 b2 c2 T2 b3 c3 T3 b4 c4 T4 b5 c5 T5 w := L6.of ⟨⟨h0, h⟩, by simp only [List.forall_mem_cons]; exact ⟨r0, r1, r2, r3, r4, r5, by simp⟩⟩
theorem L6.out {B : Nat} {w0 : World} {b0 : Nat} {c0 : Array Value} {T0 : TypeId} {b1 : Nat} {c1 : Array Value} {T1 : TypeId} {b2 : Nat} {c2 : Array Value} {T2 : TypeId} {b3 : Nat} {c3 : Array Value} {T3 : TypeId} {b4 : Nat} {c4 : Array Value} {T4 : TypeId} {b5 : Nat} {c5 : Array Value} {T5 : TypeId} {w : World} (h : L6 B w0 b0 c0 T0 b1 c1 T1 b2 c2 T2 b3 c3 T3 b4 c4 T4 b5 c5 T5 w) : Below B w0 w ∧ Row w b0 c0 T0 ∧ Row w b1 c1 T1 ∧ Row w b2 c2 T2 ∧ Row w b3 c3 T3 ∧ Row w b4 c4 T4 ∧ Row w b5 c5 T5 := ⟨h.1.1.2, h.1.2 (b0, c0, T0) (by simp), h.1.2 (b1, c1, T1) (by simp), h.1.2 (b2, c2, T2) (by simp), h.1.2 (b3, c3, T3) (by simp), h.1.2 (b4, c4, T4) (by simp), h.1.2 (b5, c5, T5) (by simp)⟩
end Go.Proofs.YtldghloflegpmaaGreatDoor

namespace Go.Proofs.YtldghloflegpmaaGreatDoor
open Go.RowKit Go.Shelf Pu Go.Lib

/-- The block of the argument, whose cells are known, some other blocks, none of them above m, and what lay below. -/
def HX (m : Nat) (w0 : World) (c0 : Array Value) (T0 : TypeId) (R : List (Nat × Array Value × TypeId)) (w : World) : Prop :=
  (w0.heap.size ≤ m ∧ m < w.heap.size ∧ (∀ r ∈ R, r.1 ≤ m) ∧ Below w0.heap.size w0 w ∧ (∀ r ∈ R, Row w r.1 r.2.1 r.2.2)) ∧ Row w w0.heap.size c0 T0
abbrev SX (m : Nat) (w0 : World) (c0 : Array Value) (T0 : TypeId) (R : List (Nat × Array Value × TypeId)) (w : World) : Prop :=
  HX m w0 c0 T0 R w ∧ (∀ j, w.cell? ⟨w0.heap.size, j, none⟩ = c0[j]?)
section
variable {m : Nat} {w0 : World} {c0 : Array Value} {T0 : TypeId} {R : List (Nat × Array Value × TypeId)} {w : World}
theorem SX.of (h : HX m w0 c0 T0 R w) : SX m w0 c0 T0 R w := ⟨h, h.2.cell⟩
theorem SX.lt (h : SX m w0 c0 T0 R w) : m < w.heap.size := h.1.1.2.1
theorem SX.drew (h : SX m w0 c0 T0 R w) : SX m w0 c0 T0 R w.drew := SX.of ⟨⟨h.1.1.1, h.1.1.2.1, h.1.1.2.2.1, h.1.1.2.2.2.1.drew, fun r hr => (h.1.1.2.2.2.2 r hr).drw⟩, h.1.2.drw⟩
theorem SX.call {w' : World} (h : SX m w0 c0 T0 R w) (hb : Below w.heap.size w w') : SX m w0 c0 T0 R w' :=
  SX.of ⟨⟨h.1.1.1, Nat.lt_of_lt_of_le h.1.1.2.1 hb.size, h.1.1.2.2.1, h.1.1.2.2.2.1.trans (hb.mono h.1.1.2.2.2.1.size), fun r hr => (h.1.1.2.2.2.2 r hr).next hb⟩, h.1.2.next hb⟩
theorem SX.al {o : Obj} (h : SX m w0 c0 T0 R w) : SX m w0 c0 T0 R (w.alloc o) :=
  SX.of ⟨⟨h.1.1.1, by rw [World.size_alloc]; exact Nat.lt_succ_of_lt h.1.1.2.1, h.1.1.2.2.1, h.1.1.2.2.2.1.alloc h.1.1.2.2.2.1.size _, fun r hr => (h.1.1.2.2.2.2 r hr).alloc _⟩, h.1.2.alloc _⟩
theorem SX.st {p : Addr} {v : Value} (hp : m < p.block) (h : SX m w0 c0 T0 R w) : SX m w0 c0 T0 R (w.setCell p v) :=
  SX.of ⟨⟨h.1.1.1, by rw [World.size_setCell]; exact h.1.1.2.1, h.1.1.2.2.1, h.1.1.2.2.2.1.setCell (Nat.le_trans h.1.1.1 (Nat.le_of_lt hp)) _,
    fun r hr => (h.1.1.2.2.2.2 r hr).other (Nat.ne_of_lt (Nat.lt_of_le_of_lt (h.1.1.2.2.1 r hr) hp)) _⟩, h.1.2.other (Nat.ne_of_lt (Nat.lt_of_le_of_lt h.1.1.1 hp)) _⟩
end

theorem past_new {w : World} {b : Nat} {cs : Array Value} {T : TypeId} (r : Row w b cs T) (ds : Array Value) (T' : TypeId) : ∀ (u v : Value) (j : Nat),
    (((w.alloc (.cells ds T')).setCell ⟨b, 0, none⟩ u).setCell ⟨b, 1, none⟩ v).cell? ⟨w.heap.size, j, none⟩ = ds[j]? := fun u v j =>
  (((Row.new w ds T').other (p := ⟨b, 0, none⟩) (Nat.ne_of_lt r.lt).symm u).other (p := ⟨b, 1, none⟩) (Nat.ne_of_lt r.lt).symm v).cell j
theorem past_new' {w : World} {b : Nat} {cs : Array Value} {T : TypeId} (r : Row w b cs T) (ds : Array Value) (T' : TypeId) : ∀ (u v : Value) (j : Nat),
    (((w.alloc (.cells ds T')).setCell ⟨b, 0, none⟩ u).setCell ⟨b, 1, none⟩ v).frozen? ⟨w.heap.size, j, none⟩ = false := fun u v j =>
  (((Row.new w ds T').other (p := ⟨b, 0, none⟩) (Nat.ne_of_lt r.lt).symm u).other (p := ⟨b, 1, none⟩) (Nat.ne_of_lt r.lt).symm v).frozen j
theorem ne_two {w : World} {b c : Nat} {cs ds : Array Value} {T T' : TypeId} (_r : Row w b cs T) (_s : Row w c ds T') (h : c ≠ b) : c ≠ b := h
theorem past_two {w : World} {b c : Nat} {cs ds : Array Value} {T T' : TypeId} (_r : Row w b cs T) (s : Row w c ds T') (h : c ≠ b) : ∀ (u v : Value) (j : Nat),
    ((w.setCell ⟨b, 0, none⟩ u).setCell ⟨b, 1, none⟩ v).cell? ⟨c, j, none⟩ = ds[j]? := fun u v j =>
  ((s.other (p := ⟨b, 0, none⟩) h u).other (p := ⟨b, 1, none⟩) h v).cell j
theorem past_two' {w : World} {b c : Nat} {cs ds : Array Value} {T T' : TypeId} (_r : Row w b cs T) (s : Row w c ds T') (h : c ≠ b) : ∀ (u v : Value) (j : Nat),
    ((w.setCell ⟨b, 0, none⟩ u).setCell ⟨b, 1, none⟩ v).frozen? ⟨c, j, none⟩ = false := fun u v j =>
  ((s.other (p := ⟨b, 0, none⟩) h u).other (p := ⟨b, 1, none⟩) h v).frozen j

/-- The two boxes are made and filled. -/
def Two (m : Nat) (w0 : World) (c0 : Array Value) (T0 : TypeId) (R : List (Nat × Array Value × TypeId)) (L : TypeId) (a b c d : Value) (s t : Value) (w : World) : Prop :=
  ∃ X Y, X ≠ Y ∧ m < X ∧ m < Y ∧ s = .pointer (some ⟨X, 0, none⟩) ∧ t = .pointer (some ⟨Y, 0, none⟩) ∧ Row w X #[a, b] L ∧ Row w Y #[c, d] L ∧ SX m w0 c0 T0 R w
section
variable {m : Nat} {w0 : World} {c0 : Array Value} {T0 : TypeId} {R : List (Nat × Array Value × TypeId)} {w : World} {L : TypeId} {a b c d : Value}
theorem two_a (h : SX m w0 c0 T0 R w) : Two m w0 c0 T0 R L a b c d (.pointer (some ⟨w.heap.size, 0, none⟩)) (.pointer (some ⟨w.heap.size + 1, 0, none⟩)) ((w.alloc (.cells #[a, b] L)).alloc (.cells #[c, d] L)) := by
  have h2 := Row.new (w.alloc (.cells #[a, b] L)) #[c, d] L
  rw [World.size_alloc] at h2
  exact ⟨_, _, by omega, h.lt, Nat.lt_succ_of_lt h.lt, rfl, rfl, (Row.new w _ _).alloc _, h2, h.al.al⟩
theorem two_b (h : SX m w0 c0 T0 R w) : Two m w0 c0 T0 R L a b c d (.pointer (some ⟨w.heap.size + 1, 0, none⟩)) (.pointer (some ⟨w.heap.size, 0, none⟩)) ((w.alloc (.cells #[c, d] L)).alloc (.cells #[a, b] L)) := by
  have h2 := Row.new (w.alloc (.cells #[c, d] L)) #[a, b] L
  rw [World.size_alloc] at h2
  exact ⟨_, _, by omega, Nat.lt_succ_of_lt h.lt, h.lt, rfl, rfl, h2, (Row.new w _ _).alloc _, h.al.al⟩
theorem put2 {X : Nat} {cs : Array Value} {u v : Value} (hs : cs.size = 2) (q : Row w X cs L) : Row ((w.setCell ⟨X, 0, none⟩ u).setCell ⟨X, 1, none⟩ v) X #[u, v] L := by
  have h := (q.put 0 u).put 1 v
  obtain ⟨⟨l⟩⟩ := cs
  · simp at hs
  rename_i x l
  cases l with
  | nil => simp at hs
  | cons y l => cases l with
    | nil => simpa using h
    | cons _ _ => simp at hs
theorem past2 {X Y : Nat} {cs : Array Value} {u v : Value} (hne : Y ≠ X) (q : Row w Y cs L) : Row ((w.setCell ⟨X, 0, none⟩ u).setCell ⟨X, 1, none⟩ v) Y cs L := (q.other (p := ⟨X, 0, none⟩) hne u).other (p := ⟨X, 1, none⟩) hne v
theorem two_c {X : Nat} {cs : Array Value} (hs : cs.size = 2) (q : Row w X cs L) (hX : m < X) (h : SX m w0 c0 T0 R w) :
    Two m w0 c0 T0 R L a b c d (.pointer (some ⟨X, 0, none⟩)) (.pointer (some ⟨w.heap.size, 0, none⟩)) (((w.setCell ⟨X, 0, none⟩ a).setCell ⟨X, 1, none⟩ b).alloc (.cells #[c, d] L)) := by
  have h2 := Row.new ((w.setCell ⟨X, 0, none⟩ a).setCell ⟨X, 1, none⟩ b) #[c, d] L
  rw [World.size_setCell, World.size_setCell] at h2
  exact ⟨_, _, Nat.ne_of_lt q.lt, hX, h.lt, rfl, rfl, (put2 hs q).alloc _, h2, (SX.st hX (SX.st hX h)).al⟩
theorem two_d {Y : Nat} {cs : Array Value} (hs : cs.size = 2) (q : Row w Y cs L) (hY : m < Y) (h : SX m w0 c0 T0 R w) :
    Two m w0 c0 T0 R L a b c d (.pointer (some ⟨w.heap.size, 0, none⟩)) (.pointer (some ⟨Y, 0, none⟩)) (((w.setCell ⟨Y, 0, none⟩ c).setCell ⟨Y, 1, none⟩ d).alloc (.cells #[a, b] L)) := by
  have h2 := Row.new ((w.setCell ⟨Y, 0, none⟩ c).setCell ⟨Y, 1, none⟩ d) #[a, b] L
  rw [World.size_setCell, World.size_setCell] at h2
  exact ⟨_, _, (Nat.ne_of_lt q.lt).symm, h.lt, hY, rfl, rfl, h2, (put2 hs q).alloc _, (SX.st hY (SX.st hY h)).al⟩
theorem two_e {X Y : Nat} {cs ds : Array Value} (hs : cs.size = 2) (ht : ds.size = 2) (q : Row w X cs L) (r : Row w Y ds L) (hne : Y ≠ X) (hX : m < X) (hY : m < Y) (h : SX m w0 c0 T0 R w) :
    Two m w0 c0 T0 R L a b c d (.pointer (some ⟨X, 0, none⟩)) (.pointer (some ⟨Y, 0, none⟩)) ((((w.setCell ⟨X, 0, none⟩ a).setCell ⟨X, 1, none⟩ b).setCell ⟨Y, 0, none⟩ c).setCell ⟨Y, 1, none⟩ d) :=
  ⟨_, _, hne.symm, hX, hY, rfl, rfl, past2 hne.symm (put2 hs q), put2 ht (past2 hne r), SX.st hY (SX.st hY (SX.st hX (SX.st hX h)))⟩
end
theorem Two.out {m : Nat} {w0 : World} {c0 : Array Value} {T0 : TypeId} {R : List (Nat × Array Value × TypeId)} {L : TypeId} {a b c d s t : Value} {w : World} (h : Two m w0 c0 T0 R L a b c d s t w) :
  ∃ X Y, X ≠ Y ∧ m < X ∧ m < Y ∧ s = .pointer (some ⟨X, 0, none⟩) ∧ t = .pointer (some ⟨Y, 0, none⟩) ∧ Row w X #[a, b] L ∧ Row w Y #[c, d] L ∧ Below w0.heap.size w0 w ∧ (∀ r ∈ R, Row w r.1 r.2.1 r.2.2) ∧ Row w w0.heap.size c0 T0 := by
  obtain ⟨X, Y, h1, h2, h3, h4, h5, h6, h7, h8⟩ := h
  exact ⟨X, Y, h1, h2, h3, h4, h5, h6, h7, h8.1.1.2.2.2.1, h8.1.1.2.2.2.2, h8.1.2⟩
theorem SX.mk {m : Nat} {w0 : World} {c0 : Array Value} {T0 : TypeId} {R : List (Nat × Array Value × TypeId)} {w : World} (h1 : w0.heap.size ≤ m) (h2 : m < w.heap.size) (h3 : ∀ r ∈ R, r.1 ≤ m) (h4 : Below w0.heap.size w0 w) (h5 : ∀ r ∈ R, Row w r.1 r.2.1 r.2.2) (h6 : Row w w0.heap.size c0 T0) : SX m w0 c0 T0 R w := SX.of ⟨⟨h1, h2, h3, h4, h5⟩, h6⟩
attribute [irreducible] HX Two
end Go.Proofs.YtldghloflegpmaaGreatDoor

namespace Go.Proofs.YtldghloflegpmaaGreatDoor
open Go.RowKit Go.Shelf Pu Go.Lib

theorem S3.st {B : Nat} {w0 : World} {b0 : Nat} {c0 : Array Value} {T0 : TypeId} {b1 : Nat} {c1 : Array Value} {T1 : TypeId} {b2 : Nat} {c2 : Array Value} {T2 : TypeId} {w : World} {p : Addr} {v : Value} (hp : B ≤ p.block ∧ b0 ≠ p.block ∧ b1 ≠ p.block ∧ b2 ≠ p.block) (h : S3 B w0 b0 c0 T0 b1 c1 T1 b2 c2 T2 w) : S3 B w0 b0 c0 T0 b1 c1 T1 b2 c2 T2 (w.setCell p v) :=
  S3.of ⟨⟨h.1.1.1, h.1.1.2.setCell hp.1 _⟩, h.1.2.1.other hp.2.1 _, h.1.2.2.1.other hp.2.2.1 _, h.1.2.2.2.other hp.2.2.2 _⟩

theorem z2 : (#[.int .i64 0, .int .i64 0] : Array Value).size = 2 := rfl

set_option maxRecDepth 100000 in
set_option maxHeartbeats 4000000 in
theorem Both_c (n : Int) (hl hg : Int) (sl sg : Int) (w : World) (hf : fE n true hl hg false sl sg = 0) : Calls Tryz.prog 52 #[.agg (fitC n true hl hg false sl sg)] w
    fun e w' => e = .returned (.tuple #[.agg #[.int .i64 (mLow n true hl hg), .int .i64 (mHigh n true hl hg)], .agg #[.int .i64 (mLow n false sl sg), .int .i64 (mHigh n false sl sg)]]) ∧ Below w.heap.size w w' := by
  obtain ⟨z1, zz2, z3, _, _, k1, k2⟩ := fE_ok hf
  obtain ⟨⟨c1, c2⟩, c3, c4⟩ := cE_ok.1 zz2
  obtain ⟨⟨c5, c6⟩, c7, c8⟩ := cE_ok.1 z3
  obtain ⟨n1, n2⟩ := zE_ok.1 z1
  have hA1 := fun w => Away_c n hl hg true w n2 c3 c4 c1 c2
  have hA2 := fun w => Away_c n sl sg false w n2 c7 c8 c5 c6
  have b1 := d_bd n true hl hg
  have b2 := d_bd n false sl sg
  rw [(m_low k1).1, (m_low k1).2, (m_low k2).1, (m_low k2).2]
  generalize dLow n true hl hg = A at *
  generalize dHigh n true hl hg = B at *
  generalize dLow n false sl sg = C at *
  generalize dHigh n false sl sg = D at *
  have HA1 := Lib.hid hA1
  have HA2 := Lib.hid hA2
  clear hA1 hA2 hf z1 zz2 z3 k1 k2 c1 c2 c3 c4 c5 c6 c7 c8
  go_enter Tryz.func52, Tryz.ntmps52
  have hb := (((Below.refl _ w).alloc (Nat.le_refl _) (.cells (fitC n true hl hg false sl sg) 49)).alloc (by simp) (.cells #[.int .i64 0, .int .i64 0] 23)).alloc (by simp; omega) (.cells #[.int .i64 0, .int .i64 0] 23)
  have r0 := ((Row.new w (fitC n true hl hg false sl sg) 49).alloc (.cells #[.int .i64 0, .int .i64 0] 23)).alloc (.cells #[.int .i64 0, .int .i64 0] 23)
  have r1 := (Row.new (w.alloc (.cells (fitC n true hl hg false sl sg) 49)) #[.int .i64 0, .int .i64 0] 23).alloc (.cells #[.int .i64 0, .int .i64 0] 23)
  have r2 := Row.new ((w.alloc (.cells (fitC n true hl hg false sl sg) 49)).alloc (.cells #[.int .i64 0, .int .i64 0] 23)) #[.int .i64 0, .int .i64 0] 23
  simp only [World.size_alloc] at r1 r2
  have hS : SX (w.heap.size + 1 + 1) w (fitC n true hl hg false sl sg) 49 [(w.heap.size + 1, #[.int .i64 0, .int .i64 0], 23), (w.heap.size + 1 + 1, #[.int .i64 0, .int .i64 0], 23)] (((w.alloc (.cells (fitC n true hl hg false sl sg) 49)).alloc (.cells #[.int .i64 0, .int .i64 0] 23)).alloc (.cells #[.int .i64 0, .int .i64 0] 23)) :=
    SX.mk (by omega) r2.lt (by simp) hb (by simp only [List.forall_mem_cons]; exact ⟨r1, r2, by simp⟩) r0
  go_wp2_with fail
  obtain ⟨V, hV⟩ : ∃ V, ((w.alloc (.cells (fitC n true hl hg false sl sg) 49)).alloc (.cells #[.int .i64 0, .int .i64 0] 23)).alloc (.cells #[.int .i64 0, .int .i64 0] 23) = V := ⟨_, rfl⟩
  rw [hV] at hS ⊢
  clear hV r0 r1 r2 hb
  have hz0 := SX.lt hS
  go_cut [4, 5] (fun s4 s5 wx => Two (w.heap.size + 1 + 1) w (fitC n true hl hg false sl sg) 49 [(w.heap.size + 1, #[.int .i64 0, .int .i64 0], 23), (w.heap.size + 1 + 1, #[.int .i64 0, .int .i64 0], 23)] 23 (.int .i64 A) (.int .i64 B) (.int .i64 C) (.int .i64 D) s4 s5 wx)
  case first =>
    go_region_held3 (fun w' => HX (w.heap.size + 1 + 1) w (fitC n true hl hg false sl sg) 49 [(w.heap.size + 1, #[.int .i64 0, .int .i64 0], 23), (w.heap.size + 1 + 1, #[.int .i64 0, .int .i64 0], 23)] w' ∧ (∀ j, World.cell? w' ⟨w.heap.size, j, none⟩ = (fitC n true hl hg false sl sg)[j]?))
      (((repeat (first | (with_reducible refine SX.st ?ne ?_; case ne => first | (simp; done) | (simp; omega)) | (with_reducible refine SX.al ?_) | (with_reducible refine SX.drew ?_))); first | (with_reducible exact hS) | (with_reducible exact hSS)))
      (first | ((go_at_call_of 44 hl; refine (HA1.out _).mono ?_; rintro e w' ⟨rfl, hbb⟩; have hSS : HX (w.heap.size + 1 + 1) w (fitC n true hl hg false sl sg) 49 [(w.heap.size + 1, #[.int .i64 0, .int .i64 0], 23), (w.heap.size + 1 + 1, #[.int .i64 0, .int .i64 0], 23)] w' ∧ (∀ j, World.cell? w' ⟨w.heap.size, j, none⟩ = (fitC n true hl hg false sl sg)[j]?) := SX.call (by assumption) hbb; have hz := SX.lt hSS; (try have p1 := (Row.next q1 hbb)); (try have p1 := ((Row.alloc q1 _).next hbb)); (try have p1 := (((Row.alloc q1 _).alloc _).next hbb)); (try have p2 := (Row.next q2 hbb)); (try have p2 := ((Row.alloc q2 _).next hbb)); (try have p2 := (((Row.alloc q2 _).alloc _).next hbb)); (try have q1 := (Row.new _ _ _).next hbb); (try have q2 := ((Row.new _ _ _).alloc _).next hbb); (try have q1 := (Row.new _ _ _).drw.next hbb); (try have q2 := ((Row.new _ _ _).alloc _).drw.next hbb); (try simp only [World.size_alloc] at q1); (try simp only [World.size_alloc] at q2); (try have cp1 := Row.cell p1); (try have fp1 := Row.frozen p1); (try have cp1a := (Row.alloc p1 (.cells #[.int .i64 0, .int .i64 0] 23)).cell); (try have fp1a := (Row.alloc p1 (.cells #[.int .i64 0, .int .i64 0] 23)).frozen); (try have np1 := Row.lt p1); (try have ep1 := Nat.ne_of_lt (Row.lt p1)); (try have dp1 := (Nat.ne_of_lt (Row.lt p1)).symm); (try have xp1 := past_new p1 #[.int .i64 0, .int .i64 0] 23); (try have yp1 := past_new' p1 #[.int .i64 0, .int .i64 0] 23); (try have cp2 := Row.cell p2); (try have fp2 := Row.frozen p2); (try have cp2a := (Row.alloc p2 (.cells #[.int .i64 0, .int .i64 0] 23)).cell); (try have fp2a := (Row.alloc p2 (.cells #[.int .i64 0, .int .i64 0] 23)).frozen); (try have np2 := Row.lt p2); (try have ep2 := Nat.ne_of_lt (Row.lt p2)); (try have dp2 := (Nat.ne_of_lt (Row.lt p2)).symm); (try have xp2 := past_new p2 #[.int .i64 0, .int .i64 0] 23); (try have yp2 := past_new' p2 #[.int .i64 0, .int .i64 0] 23); (try have cq1 := Row.cell q1); (try have fq1 := Row.frozen q1); (try have cq1a := (Row.alloc q1 (.cells #[.int .i64 0, .int .i64 0] 23)).cell); (try have fq1a := (Row.alloc q1 (.cells #[.int .i64 0, .int .i64 0] 23)).frozen); (try have nq1 := Row.lt q1); (try have eq1 := Nat.ne_of_lt (Row.lt q1)); (try have dq1 := (Nat.ne_of_lt (Row.lt q1)).symm); (try have xq1 := past_new q1 #[.int .i64 0, .int .i64 0] 23); (try have yq1 := past_new' q1 #[.int .i64 0, .int .i64 0] 23); (try have cq2 := Row.cell q2); (try have fq2 := Row.frozen q2); (try have cq2a := (Row.alloc q2 (.cells #[.int .i64 0, .int .i64 0] 23)).cell); (try have fq2a := (Row.alloc q2 (.cells #[.int .i64 0, .int .i64 0] 23)).frozen); (try have nq2 := Row.lt q2); (try have eq2 := Nat.ne_of_lt (Row.lt q2)); (try have dq2 := (Nat.ne_of_lt (Row.lt q2)).symm); (try have xq2 := past_new q2 #[.int .i64 0, .int .i64 0] 23); (try have yq2 := past_new' q2 #[.int .i64 0, .int .i64 0] 23); (try have kp1p2 := past_two p1 p2 (by first | (simp; done) | omega | (simp; omega))); (try have hp1p2 := ne_two p1 p2 (by first | (simp; done) | omega | (simp; omega))); (try have lp1p2 := past_two' p1 p2 (by first | (simp; done) | omega | (simp; omega))); (try have kp2p1 := past_two p2 p1 (by first | (simp; done) | omega | (simp; omega))); (try have hp2p1 := ne_two p2 p1 (by first | (simp; done) | omega | (simp; omega))); (try have lp2p1 := past_two' p2 p1 (by first | (simp; done) | omega | (simp; omega))); (try have kp1q1 := past_two p1 q1 (by first | (simp; done) | omega | (simp; omega))); (try have hp1q1 := ne_two p1 q1 (by first | (simp; done) | omega | (simp; omega))); (try have lp1q1 := past_two' p1 q1 (by first | (simp; done) | omega | (simp; omega))); (try have kq1p1 := past_two q1 p1 (by first | (simp; done) | omega | (simp; omega))); (try have hq1p1 := ne_two q1 p1 (by first | (simp; done) | omega | (simp; omega))); (try have lq1p1 := past_two' q1 p1 (by first | (simp; done) | omega | (simp; omega))); (try have kq1q2 := past_two q1 q2 (by first | (simp; done) | omega | (simp; omega))); (try have hq1q2 := ne_two q1 q2 (by first | (simp; done) | omega | (simp; omega))); (try have lq1q2 := past_two' q1 q2 (by first | (simp; done) | omega | (simp; omega))); (try have kq2q1 := past_two q2 q1 (by first | (simp; done) | omega | (simp; omega))); (try have hq2q1 := ne_two q2 q1 (by first | (simp; done) | omega | (simp; omega))); (try have lq2q1 := past_two' q2 q1 (by first | (simp; done) | omega | (simp; omega))))) | ((go_at_call_of 44 sl; refine (HA2.out _).mono ?_; rintro e w' ⟨rfl, hbb⟩; have hSS : HX (w.heap.size + 1 + 1) w (fitC n true hl hg false sl sg) 49 [(w.heap.size + 1, #[.int .i64 0, .int .i64 0], 23), (w.heap.size + 1 + 1, #[.int .i64 0, .int .i64 0], 23)] w' ∧ (∀ j, World.cell? w' ⟨w.heap.size, j, none⟩ = (fitC n true hl hg false sl sg)[j]?) := SX.call (by assumption) hbb; have hz := SX.lt hSS; (try have p1 := (Row.next q1 hbb)); (try have p1 := ((Row.alloc q1 _).next hbb)); (try have p1 := (((Row.alloc q1 _).alloc _).next hbb)); (try have p2 := (Row.next q2 hbb)); (try have p2 := ((Row.alloc q2 _).next hbb)); (try have p2 := (((Row.alloc q2 _).alloc _).next hbb)); (try have q1 := (Row.new _ _ _).next hbb); (try have q2 := ((Row.new _ _ _).alloc _).next hbb); (try have q1 := (Row.new _ _ _).drw.next hbb); (try have q2 := ((Row.new _ _ _).alloc _).drw.next hbb); (try simp only [World.size_alloc] at q1); (try simp only [World.size_alloc] at q2); (try have cp1 := Row.cell p1); (try have fp1 := Row.frozen p1); (try have cp1a := (Row.alloc p1 (.cells #[.int .i64 0, .int .i64 0] 23)).cell); (try have fp1a := (Row.alloc p1 (.cells #[.int .i64 0, .int .i64 0] 23)).frozen); (try have np1 := Row.lt p1); (try have ep1 := Nat.ne_of_lt (Row.lt p1)); (try have dp1 := (Nat.ne_of_lt (Row.lt p1)).symm); (try have xp1 := past_new p1 #[.int .i64 0, .int .i64 0] 23); (try have yp1 := past_new' p1 #[.int .i64 0, .int .i64 0] 23); (try have cp2 := Row.cell p2); (try have fp2 := Row.frozen p2); (try have cp2a := (Row.alloc p2 (.cells #[.int .i64 0, .int .i64 0] 23)).cell); (try have fp2a := (Row.alloc p2 (.cells #[.int .i64 0, .int .i64 0] 23)).frozen); (try have np2 := Row.lt p2); (try have ep2 := Nat.ne_of_lt (Row.lt p2)); (try have dp2 := (Nat.ne_of_lt (Row.lt p2)).symm); (try have xp2 := past_new p2 #[.int .i64 0, .int .i64 0] 23); (try have yp2 := past_new' p2 #[.int .i64 0, .int .i64 0] 23); (try have cq1 := Row.cell q1); (try have fq1 := Row.frozen q1); (try have cq1a := (Row.alloc q1 (.cells #[.int .i64 0, .int .i64 0] 23)).cell); (try have fq1a := (Row.alloc q1 (.cells #[.int .i64 0, .int .i64 0] 23)).frozen); (try have nq1 := Row.lt q1); (try have eq1 := Nat.ne_of_lt (Row.lt q1)); (try have dq1 := (Nat.ne_of_lt (Row.lt q1)).symm); (try have xq1 := past_new q1 #[.int .i64 0, .int .i64 0] 23); (try have yq1 := past_new' q1 #[.int .i64 0, .int .i64 0] 23); (try have cq2 := Row.cell q2); (try have fq2 := Row.frozen q2); (try have cq2a := (Row.alloc q2 (.cells #[.int .i64 0, .int .i64 0] 23)).cell); (try have fq2a := (Row.alloc q2 (.cells #[.int .i64 0, .int .i64 0] 23)).frozen); (try have nq2 := Row.lt q2); (try have eq2 := Nat.ne_of_lt (Row.lt q2)); (try have dq2 := (Nat.ne_of_lt (Row.lt q2)).symm); (try have xq2 := past_new q2 #[.int .i64 0, .int .i64 0] 23); (try have yq2 := past_new' q2 #[.int .i64 0, .int .i64 0] 23); (try have kp1p2 := past_two p1 p2 (by first | (simp; done) | omega | (simp; omega))); (try have hp1p2 := ne_two p1 p2 (by first | (simp; done) | omega | (simp; omega))); (try have lp1p2 := past_two' p1 p2 (by first | (simp; done) | omega | (simp; omega))); (try have kp2p1 := past_two p2 p1 (by first | (simp; done) | omega | (simp; omega))); (try have hp2p1 := ne_two p2 p1 (by first | (simp; done) | omega | (simp; omega))); (try have lp2p1 := past_two' p2 p1 (by first | (simp; done) | omega | (simp; omega))); (try have kp1q1 := past_two p1 q1 (by first | (simp; done) | omega | (simp; omega))); (try have hp1q1 := ne_two p1 q1 (by first | (simp; done) | omega | (simp; omega))); (try have lp1q1 := past_two' p1 q1 (by first | (simp; done) | omega | (simp; omega))); (try have kq1p1 := past_two q1 p1 (by first | (simp; done) | omega | (simp; omega))); (try have hq1p1 := ne_two q1 p1 (by first | (simp; done) | omega | (simp; omega))); (try have lq1p1 := past_two' q1 p1 (by first | (simp; done) | omega | (simp; omega))); (try have kq1q2 := past_two q1 q2 (by first | (simp; done) | omega | (simp; omega))); (try have hq1q2 := ne_two q1 q2 (by first | (simp; done) | omega | (simp; omega))); (try have lq1q2 := past_two' q1 q2 (by first | (simp; done) | omega | (simp; omega))); (try have kq2q1 := past_two q2 q1 (by first | (simp; done) | omega | (simp; omega))); (try have hq2q1 := ne_two q2 q1 (by first | (simp; done) | omega | (simp; omega))); (try have lq2q1 := past_two' q2 q1 (by first | (simp; done) | omega | (simp; omega))))))
    all_goals (go_wp2_with fail; go_meet)
    all_goals first | (with_reducible exact two_a hSS) | (with_reducible exact two_b hSS) | (with_reducible refine two_c z2 q1 ?_ hSS; omega) | (with_reducible refine two_d z2 q1 ?_ hSS; omega) | (with_reducible refine two_c z2 q2 ?_ hSS; omega) | (with_reducible refine two_d z2 q2 ?_ hSS; omega) | (with_reducible refine two_c z2 p1 ?_ hSS; omega) | (with_reducible refine two_d z2 p1 ?_ hSS; omega) | (with_reducible refine two_c z2 p2 ?_ hSS; omega) | (with_reducible refine two_d z2 p2 ?_ hSS; omega) | (with_reducible refine two_e z2 z2 p1 p2 ?_ ?_ ?_ hSS <;> omega) | (with_reducible refine two_e z2 z2 p2 p1 ?_ ?_ ?_ hSS <;> omega) | (with_reducible refine two_e z2 z2 p1 q1 ?_ ?_ ?_ hSS <;> omega) | (with_reducible refine two_e z2 z2 q1 p1 ?_ ?_ ?_ hSS <;> omega) | (with_reducible refine two_e z2 z2 q1 q2 ?_ ?_ ?_ hSS <;> omega) | (with_reducible refine two_e z2 z2 q2 q1 ?_ ?_ ?_ hSS <;> omega)
  case rest =>
    obtain ⟨X, Y, hXY, hX, hY, rfl, rfl, rX, rY, hb, hR, r0⟩ := hcut.out
    simp only [List.forall_mem_cons] at hR
    obtain ⟨r1, r2, _⟩ := hR
    clear hz0 hS HA1 HA2
    have g1 := r1.frozen; have g2 := r2.frozen
    have w1 : IntKind.i64.wrap (n + A) = n + A := by rw [IntWalk.i64_in _ (by omega)]
    have w2 : IntKind.i64.wrap (n + B) = n + B := by rw [IntWalk.i64_in _ (by omega)]
    have w3 : IntKind.i64.wrap (n + C) = n + C := by rw [IntWalk.i64_in _ (by omega)]
    have w4 : IntKind.i64.wrap (n + D) = n + D := by rw [IntWalk.i64_in _ (by omega)]
    have hz1 := rX.lt; have hz2 := rY.lt
    have hc0 := r0.cell; have hc1 := r1.cell; have hc2 := r2.cell; have hcX := rX.cell; have hcY := rY.cell
    have e1 : w.heap.size + 1 ≠ w.heap.size + 1 + 1 := by omega
    have kz1 := past_two r1 r2 e1.symm
    have kz2 := past_two' r1 r2 e1.symm
    have kz3 := past_two r2 r1 e1
    have kz4 := past_two' r2 r1 e1
    go_wp2_with fail
    go_region_held3 (fun w' => H3 w.heap.size w w.heap.size (fitC n true hl hg false sl sg) 49 X #[.int .i64 A, .int .i64 B] 23 Y #[.int .i64 C, .int .i64 D] 23 w' ∧ (∀ j, w'.cell? ⟨w.heap.size, j, none⟩ = (fitC n true hl hg false sl sg)[j]?) ∧ (∀ j, w'.cell? ⟨X, j, none⟩ = (#[.int .i64 A, .int .i64 B] : Array Value)[j]?) ∧ (∀ j, w'.cell? ⟨Y, j, none⟩ = (#[.int .i64 C, .int .i64 D] : Array Value)[j]?))
      (first | exact S3.of ⟨⟨Nat.le_refl _, hb.drew⟩, r0.drw, rX.drw, rY.drw⟩ | ((repeat (first | (refine S3.st (by first | (simp; done) | (simp; omega)) ?_) | (refine S3.drew ?_))); exact S3.of ⟨⟨Nat.le_refl _, hb⟩, r0, rX, rY⟩))
      (fail)
    all_goals go_wp2
    have k1 := (past2 (u := .int .i64 (n + C)) (v := .int .i64 (n + D)) e1 (put2 (u := .int .i64 (n + A)) (v := .int .i64 (n + B)) z2 r1)).cell
    have k2 := (put2 (u := .int .i64 (n + C)) (v := .int .i64 (n + D)) z2 (past2 (u := .int .i64 (n + A)) (v := .int .i64 (n + B)) e1.symm r2)).cell
    exact bodyPost_ret (v := .tuple #[.agg #[.int .i64 (n + A), .int .i64 (n + B)], .agg #[.int .i64 (n + C), .int .i64 (n + D)]]) (by simp [results, Tryz.results52, go_sem, k1, k2]) rfl ⟨rfl, ((((hb.setCell (by simp) _).setCell (by simp) _).setCell (by simp; omega) _).setCell (by simp; omega) _).drew⟩
end Go.Proofs.YtldghloflegpmaaGreatDoor

namespace Go.Proofs.YtldghloflegpmaaGreatDoor
open Go.RowKit Go.Shelf Pu Go.Lib

set_option maxRecDepth 100000 in
set_option maxHeartbeats 2000000 in
theorem Play_c (n : Int) (hl hg : Int) (sl sg : Int) (w : World) (hf : fE n true hl hg false sl sg = 0) : Calls Tryz.prog 56 #[.agg (fitC n true hl hg false sl sg)] w
    fun e w' => e = .returned (.agg #[.int .i64 (mLow n true hl hg - mHigh n false sl sg), .int .i64 (mHigh n true hl hg - mLow n false sl sg)]) ∧ Below w.heap.size w w' := by
  have hB := fun w => Both_c n hl hg sl sg w hf
  have ba := m_bd n true hl hg
  have bc := m_bd n false sl sg
  generalize mLow n true hl hg = A at *
  generalize mHigh n true hl hg = B at *
  generalize mLow n false sl sg = C at *
  generalize mHigh n false sl sg = D at *
  have HB := Lib.hid hB
  have w1 : IntKind.i64.wrap (A - D) = A - D := by rw [IntWalk.i64_in _ (by omega)]
  have w2 : IntKind.i64.wrap (B - C) = B - C := by rw [IntWalk.i64_in _ (by omega)]
  clear hB hf ba bc
  go_enter Tryz.func56, Tryz.ntmps56
  go_wp2_with fail
  refine (HB.out _).mono ?_
  rintro e w2 ⟨rfl, hbb⟩
  have hr := (Row.new (w.alloc (.cells (fitC n true hl hg false sl sg) 49)) #[.int .i64 0, .int .i64 0] 23).next hbb
  simp only [World.size_alloc] at hr
  have hb := (((Below.refl _ w).alloc (Nat.le_refl _) (.cells (fitC n true hl hg false sl sg) 49)).alloc (by simp) (.cells #[.int .i64 0, .int .i64 0] 23)).trans (hbb.mono (by simp; omega))
  clear hbb
  have hr := (hr.alloc (.cells #[.int .i64 A, .int .i64 B] 23)).alloc (.cells #[.int .i64 C, .int .i64 D] 23)
  have hb := (hb.alloc hb.size (.cells #[.int .i64 A, .int .i64 B] 23)).alloc (by simp; exact Nat.le_succ_of_le hb.size) (.cells #[.int .i64 C, .int .i64 D] 23)
  have hc := hr.cell
  have hz := hr.frozen
  go_wp2
  exact bodyPost_ret (v := .agg #[.int .i64 (A - D), .int .i64 (B - C)]) (by simp [results, Tryz.results56, go_sem, (put2 (u := .int .i64 (A - D)) (v := .int .i64 (B - C)) z2 hr).cell]) rfl ⟨rfl, (hb.setCell (by simp) _).setCell (by simp) _⟩

set_option maxRecDepth 100000 in
set_option maxHeartbeats 2000000 in
theorem rfLimits_c (n : Int) (hh : Bool) (hl hg : Int) (sh : Bool) (sl sg : Int) (w : World) : Calls Tryz.prog 20 #[.agg (fitC n hh hl hg sh sl sg)] w
    fun e w' => e = .returned (fLimV n hh hl hg sh sl sg) ∧ Below w.heap.size w w' := by
  have hC := fun w => rfCheck_c n hh hl hg sh sl sg w
  by_cases hf : fE n hh hl hg sh sl sg = 0
  · obtain ⟨rfl, rfl⟩ := fE_hs hf
    have hv : fLimV n true hl hg false sl sg = twoL (mLow n true hl hg) (mHigh n true hl hg) (mLow n false sl sg) (mHigh n false sl sg) 0 := by unfold fLimV; rw [if_pos hf]
    rw [hf] at hC
    have hB := fun w => Both_c n hl hg sl sg w hf
    rw [hv]
    generalize mLow n true hl hg = A at *
    generalize mHigh n true hl hg = B at *
    generalize mLow n false sl sg = C at *
    generalize mHigh n false sl sg = D at *
    have HB := Lib.hid hB
    have HC := Lib.hid hC
    clear hB hC hf hv
    go_enter Tryz.func20, Tryz.ntmps20
    go_wp2_with fail
    refine (HC.out _).mono ?_
    rintro e w2 ⟨rfl, hbb⟩
    have hr0 := (((Row.new w (fitC n true hl hg false sl sg) 49).alloc (.cells #[.int .i64 0, .int .i64 0] 23)).alloc (.cells #[.int .i64 0, .int .i64 0] 23)).next hbb
    have hr1 := ((Row.new (w.alloc (.cells (fitC n true hl hg false sl sg) 49)) #[.int .i64 0, .int .i64 0] 23).alloc (.cells #[.int .i64 0, .int .i64 0] 23)).next hbb
    have hr2 := (Row.new ((w.alloc (.cells (fitC n true hl hg false sl sg) 49)).alloc (.cells #[.int .i64 0, .int .i64 0] 23)) #[.int .i64 0, .int .i64 0] 23).next hbb
    simp only [World.size_alloc] at hr1 hr2
    have hb := ((((Below.refl _ w).alloc (Nat.le_refl _) (.cells (fitC n true hl hg false sl sg) 49)).alloc (by simp) (.cells #[.int .i64 0, .int .i64 0] 23)).alloc (by simp; omega) (.cells #[.int .i64 0, .int .i64 0] 23)).trans (hbb.mono (by simp; omega))
    clear hbb
    have hc0 := hr0.cell
    go_wp2_with fail
    refine (HB.out _).mono ?_
    rintro e w3 ⟨rfl, hbb⟩
    have m1 := (hr1.next hbb).lt
    have m2 := (hr2.next hbb).lt
    have hr1 := ((hr1.next hbb).alloc (.cells #[.int .i64 A, .int .i64 B] 23)).alloc (.cells #[.int .i64 C, .int .i64 D] 23)
    have hr2 := ((hr2.next hbb).alloc (.cells #[.int .i64 A, .int .i64 B] 23)).alloc (.cells #[.int .i64 C, .int .i64 D] 23)
    have hb := hb.trans (hbb.mono hb.size)
    have hb := (hb.alloc hb.size (.cells #[.int .i64 A, .int .i64 B] 23)).alloc (by simp; exact Nat.le_succ_of_le hb.size) (.cells #[.int .i64 C, .int .i64 D] 23)
    have hX := (Row.new w3 #[.int .i64 A, .int .i64 B] 23).alloc (.cells #[.int .i64 C, .int .i64 D] 23)
    have hY := Row.new (w3.alloc (.cells #[.int .i64 A, .int .i64 B] 23)) #[.int .i64 C, .int .i64 D] 23
    simp only [World.size_alloc] at hY
    clear hbb hc0 hr0
    go_wp2_with fail
    obtain ⟨X, hXe⟩ : ∃ X, w3.heap.size = X := ⟨_, rfl⟩
    obtain ⟨V, hV⟩ : ∃ V, (w3.alloc (.cells #[.int .i64 A, .int .i64 B] 23)).alloc (.cells #[.int .i64 C, .int .i64 D] 23) = V := ⟨_, rfl⟩
    rw [hV, hXe] at hX hY
    rw [hXe] at m1 m2
    rw [hV] at hr1 hr2 hb ⊢
    rw [hXe]
    have hcX := hX.cell; have hcY := hY.cell
    have hc1 := hr1.cell; have hc2 := hr2.cell
    have hf1 := hr1.frozen; have hf2 := hr2.frozen
    have hlt := hr1.lt; have hlt2 := hr2.lt
    clear hV hXe HB HC
    go_region
    go_wp2
    have e1 : w.heap.size + 1 ≠ w.heap.size + 1 + 1 := by omega
    have k1 := (past2 (u := .int .i64 C) (v := .int .i64 D) e1 (put2 (u := .int .i64 A) (v := .int .i64 B) z2 hr1)).cell
    have k2 := (put2 (u := .int .i64 C) (v := .int .i64 D) z2 (past2 (u := .int .i64 A) (v := .int .i64 B) e1.symm hr2)).cell
    clear hc1 hc2 hcX hcY
    exact bodyPost_ret (v := twoL A B C D 0) (by simp [results, Tryz.results20, go_sem, k1, k2, twoL]) rfl ⟨rfl, ((((hb.setCell (by simp) _).setCell (by simp) _).setCell (by first | (simp; done) | (simp; omega)) _).setCell (by first | (simp; done) | (simp; omega)) _).drew⟩
  · have hv : fLimV n hh hl hg sh sl sg = twoL 0 0 0 0 (fE n hh hl hg sh sl sg) := by unfold fLimV; rw [if_neg hf]
    have hx : (fE n hh hl hg sh sl sg == 0) = false := by simpa using hf
    rw [hv]
    have HC := Lib.hid hC
    clear hC hv hf
    generalize fE n hh hl hg sh sl sg = x at *
    go_enter Tryz.func20, Tryz.ntmps20
    go_wp2_with fail
    refine (HC.out _).mono ?_
    rintro e w2 ⟨rfl, hbb⟩
    have hr1 := ((Row.new (w.alloc (.cells (fitC n hh hl hg sh sl sg) 49)) #[.int .i64 0, .int .i64 0] 23).alloc (.cells #[.int .i64 0, .int .i64 0] 23)).next hbb
    have hr2 := (Row.new ((w.alloc (.cells (fitC n hh hl hg sh sl sg) 49)).alloc (.cells #[.int .i64 0, .int .i64 0] 23)) #[.int .i64 0, .int .i64 0] 23).next hbb
    simp only [World.size_alloc] at hr1 hr2
    have hb := ((((Below.refl _ w).alloc (Nat.le_refl _) (.cells (fitC n hh hl hg sh sl sg) 49)).alloc (by simp) (.cells #[.int .i64 0, .int .i64 0] 23)).alloc (by simp; omega) (.cells #[.int .i64 0, .int .i64 0] 23)).trans (hbb.mono (by simp; omega))
    have hc1 := hr1.cell; have hc2 := hr2.cell
    have hf1 := hr1.frozen; have hf2 := hr2.frozen
    have e1 : w.heap.size + 1 ≠ w.heap.size + 1 + 1 := by omega
    clear hbb
    go_wp2
    have k1 := (past2 (u := .int .i64 0) (v := .int .i64 0) e1 (put2 (u := .int .i64 0) (v := .int .i64 0) z2 hr1)).cell
    have k2 := (put2 (u := .int .i64 0) (v := .int .i64 0) z2 (past2 (u := .int .i64 0) (v := .int .i64 0) e1.symm hr2)).cell
    clear hc1 hc2
    exact bodyPost_ret (v := twoL 0 0 0 0 x) (by simp [results, Tryz.results20, go_sem, k1, k2, twoL]) rfl ⟨rfl, (((hb.setCell (by simp) _).setCell (by simp) _).setCell (by first | (simp; done) | (simp; omega)) _).setCell (by first | (simp; done) | (simp; omega)) _⟩

set_option maxRecDepth 100000 in
set_option maxHeartbeats 2000000 in
theorem rfClearance_c (n : Int) (hh : Bool) (hl hg : Int) (sh : Bool) (sl sg : Int) (w : World) : Calls Tryz.prog 25 #[.agg (fitC n hh hl hg sh sl sg)] w
    fun e w' => e = .returned (pairV (pLow n hh hl hg sh sl sg) (pHigh n hh hl hg sh sl sg) (fE n hh hl hg sh sl sg)) ∧ Below w.heap.size w w' := by
  have hC := fun w => rfCheck_c n hh hl hg sh sl sg w
  by_cases hf : fE n hh hl hg sh sl sg = 0
  · obtain ⟨rfl, rfl⟩ := fE_hs hf
    have e1 : pLow n true hl hg false sl sg = mLow n true hl hg - mHigh n false sl sg := by unfold pLow; rw [if_pos hf]
    have e2 : pHigh n true hl hg false sl sg = mHigh n true hl hg - mLow n false sl sg := by unfold pHigh; rw [if_pos hf]
    have hP := fun w => Play_c n hl hg sl sg w hf
    rw [hf] at hC
    rw [e1, e2, hf]
    generalize mLow n true hl hg - mHigh n false sl sg = A at *
    generalize mHigh n true hl hg - mLow n false sl sg = B at *
    have HP := Lib.hid hP
    have HC := Lib.hid hC
    clear hP hC hf e1 e2
    go_enter Tryz.func25, Tryz.ntmps25
    go_wp2_with fail
    refine (HC.out _).mono ?_
    rintro e w2 ⟨rfl, hbb⟩
    have hr0 := ((Row.new w (fitC n true hl hg false sl sg) 49).alloc (.cells #[.int .i64 0, .int .i64 0] 23)).next hbb
    have hr1 := (Row.new (w.alloc (.cells (fitC n true hl hg false sl sg) 49)) #[.int .i64 0, .int .i64 0] 23).next hbb
    simp only [World.size_alloc] at hr1
    have hb := (((Below.refl _ w).alloc (Nat.le_refl _) (.cells (fitC n true hl hg false sl sg) 49)).alloc (by simp) (.cells #[.int .i64 0, .int .i64 0] 23)).trans (hbb.mono (by simp; omega))
    have hc0 := hr0.cell
    clear hbb
    go_wp2_with fail
    refine (HP.out _).mono ?_
    rintro e w3 ⟨rfl, hbb⟩
    have hr1 := hr1.next hbb
    have hb := hb.trans (hbb.mono hb.size)
    have hc1 := hr1.cell; have hf1 := hr1.frozen
    clear hbb hc0
    go_wp2
    exact bodyPost_ret (v := pairV A B 0) (by simp [results, Tryz.results25, go_sem, (put2 (u := .int .i64 A) (v := .int .i64 B) z2 hr1).cell, pairV]) rfl ⟨rfl, (hb.setCell (by simp) _).setCell (by simp) _⟩
  · have e1 : pLow n hh hl hg sh sl sg = 0 := by unfold pLow; rw [if_neg hf]
    have e2 : pHigh n hh hl hg sh sl sg = 0 := by unfold pHigh; rw [if_neg hf]
    have hx : (fE n hh hl hg sh sl sg == 0) = false := by simpa using hf
    rw [e1, e2]
    have HC := Lib.hid hC
    clear hC hf e1 e2
    generalize fE n hh hl hg sh sl sg = x at *
    go_enter Tryz.func25, Tryz.ntmps25
    go_wp2_with fail
    refine (HC.out _).mono ?_
    rintro e w2 ⟨rfl, hbb⟩
    have hr1 := (Row.new (w.alloc (.cells (fitC n hh hl hg sh sl sg) 49)) #[.int .i64 0, .int .i64 0] 23).next hbb
    simp only [World.size_alloc] at hr1
    have hb := (((Below.refl _ w).alloc (Nat.le_refl _) (.cells (fitC n hh hl hg sh sl sg) 49)).alloc (by simp) (.cells #[.int .i64 0, .int .i64 0] 23)).trans (hbb.mono (by simp; omega))
    have hc1 := hr1.cell; have hf1 := hr1.frozen
    clear hbb
    go_wp2
    exact bodyPost_ret (v := pairV 0 0 x) (by simp [results, Tryz.results25, go_sem, (put2 (u := .int .i64 0) (v := .int .i64 0) z2 hr1).cell, pairV]) rfl ⟨rfl, (hb.setCell (by simp) _).setCell (by simp) _⟩

set_option maxRecDepth 100000 in
set_option maxHeartbeats 2000000 in
theorem rfKind_c (n : Int) (hh : Bool) (hl hg : Int) (sh : Bool) (sl sg : Int) (w : World) : Calls Tryz.prog 27 #[.agg (fitC n hh hl hg sh sl sg)] w
    fun e w' => e = .returned (.tuple #[.int .i64 (kV n hh hl hg sh sl sg), .int .i64 (fE n hh hl hg sh sl sg)]) ∧ Below w.heap.size w w' := by
  have hC := fun w => rfCheck_c n hh hl hg sh sl sg w
  by_cases hf : fE n hh hl hg sh sl sg = 0
  · obtain ⟨rfl, rfl⟩ := fE_hs hf
    have hk : kV n true hl hg false sl sg = kI (mLow n true hl hg - mHigh n false sl sg) (mHigh n true hl hg - mLow n false sl sg) := by unfold kV pLow pHigh; rw [if_pos hf, if_pos hf, if_pos hf]
    have hP := fun w => Play_c n hl hg sl sg w hf
    rw [hf] at hC
    rw [hk, hf]
    generalize mLow n true hl hg - mHigh n false sl sg = A at *
    generalize mHigh n true hl hg - mLow n false sl sg = B at *
    have HP := Lib.hid hP
    have HC := Lib.hid hC
    clear hP hC hf hk
    by_cases h1 : 0 ≤ A
    · have hk : kI A B = 0 := by unfold kI; rw [if_pos h1]
      rw [hk]
      clear hk
      go_enter Tryz.func27, Tryz.ntmps27
      go_wp2_with fail
      refine (HC.out _).mono ?_
      rintro e w2 ⟨rfl, hbb⟩
      have hr0 := (Row.new w (fitC n true hl hg false sl sg) 49).next hbb
      have hb := ((Below.refl _ w).alloc (Nat.le_refl _) (.cells (fitC n true hl hg false sl sg) 49)).trans (hbb.mono (by simp))
      have hc0 := hr0.cell
      go_wp2_with fail
      refine (HP.out _).mono ?_
      rintro e w3 ⟨rfl, hbb⟩
      have hb := hb.trans (hbb.mono hb.size)
      have hb := hb.alloc hb.size (.cells #[.int .i64 A, .int .i64 B] 23)
      go_wp2
      go_ret2
      exact ⟨rfl, hb⟩
    · by_cases h2 : B ≤ 0
      · have hk : kI A B = 2 := by unfold kI; rw [if_neg h1, if_pos h2]
        rw [hk]
        clear hk
        go_enter Tryz.func27, Tryz.ntmps27
        go_wp2_with fail
        refine (HC.out _).mono ?_
        rintro e w2 ⟨rfl, hbb⟩
        have hr0 := (Row.new w (fitC n true hl hg false sl sg) 49).next hbb
        have hb := ((Below.refl _ w).alloc (Nat.le_refl _) (.cells (fitC n true hl hg false sl sg) 49)).trans (hbb.mono (by simp))
        have hc0 := hr0.cell
        go_wp2_with fail
        refine (HP.out _).mono ?_
        rintro e w3 ⟨rfl, hbb⟩
        have hb := hb.trans (hbb.mono hb.size)
        have hb := hb.alloc hb.size (.cells #[.int .i64 A, .int .i64 B] 23)
        go_wp2
        go_ret2
        exact ⟨rfl, hb⟩
      · have hk : kI A B = 1 := by unfold kI; rw [if_neg h1, if_neg h2]
        rw [hk]
        clear hk
        go_enter Tryz.func27, Tryz.ntmps27
        go_wp2_with fail
        refine (HC.out _).mono ?_
        rintro e w2 ⟨rfl, hbb⟩
        have hr0 := (Row.new w (fitC n true hl hg false sl sg) 49).next hbb
        have hb := ((Below.refl _ w).alloc (Nat.le_refl _) (.cells (fitC n true hl hg false sl sg) 49)).trans (hbb.mono (by simp))
        have hc0 := hr0.cell
        go_wp2_with fail
        refine (HP.out _).mono ?_
        rintro e w3 ⟨rfl, hbb⟩
        have hb := hb.trans (hbb.mono hb.size)
        have hb := hb.alloc hb.size (.cells #[.int .i64 A, .int .i64 B] 23)
        go_wp2
        go_ret2
        exact ⟨rfl, hb⟩
  · have hk : kV n hh hl hg sh sl sg = 0 := by unfold kV; rw [if_neg hf]
    have hx : (fE n hh hl hg sh sl sg == 0) = false := by simpa using hf
    rw [hk]
    have HC := Lib.hid hC
    clear hC hk hf
    generalize fE n hh hl hg sh sl sg = x at *
    go_enter Tryz.func27, Tryz.ntmps27
    go_wp2_with fail
    refine (HC.out _).mono ?_
    rintro e w2 ⟨rfl, hbb⟩
    have hb := ((Below.refl _ w).alloc (Nat.le_refl _) (.cells (fitC n hh hl hg sh sl sg) 49)).trans (hbb.mono (by simp))
    go_wp2
    go_ret2
    exact ⟨rfl, hb⟩
end Go.Proofs.YtldghloflegpmaaGreatDoor

/- A strings.Builder of the call's own: made, written on, read. -/
import Derived.Test.YtldghloflegpmaaGreatDoorGl
import Derived.Shelf.Strings.MapGrows
namespace Go.Proofs.YtldghloflegpmaaGreatDoor
open Go.RowKit Go.Shelf Pu Go.Lib

/-- A builder at block b that holds the bytes l; it and its row lie from B on. -/
def Bld (B b : Nat) (l : List UInt8) (w : World) : Prop := IsBuilderF 162 5 B b (byteCells l) w
theorem Bld.new (B : Nat) (w : World) (hB : B ≤ w.heap.size) : Bld B w.heap.size [] (w.alloc (.cells #[.pointer none, .slice none 0 0] 162)) := by
  refine Or.inl ⟨hB, .slice none 0 0, heap_alloc_last w _, ?_, by simp [Value.ownBlock]⟩
  exact ⟨by simp [byteCells], Or.inl ⟨rfl, rfl⟩⟩
theorem Bld.next {B b : Nat} {l : List UInt8} {w w' : World} (h : Bld B b l w) (hb : Below w.heap.size w w') : Bld B b l w' := IsBuilderF.below h hb
theorem wByte_c (B b : Nat) (l : List UInt8) (c : UInt8) (w : World) (h : Bld B b l w) (hl : l.length ≤ 1000000) (hB : B ≤ w.heap.size) :
    Calls Tryz.prog 92 #[.pointer (some ⟨b, 0, none⟩), .int .u8 (c.toNat : Int)] w fun e w' => e = .returned .nilIface ∧ Bld B b (l ++ [c]) w' ∧ Below B w w' :=
  (Any.Builder_WriteByte_k { Tryz.lays158 with } Tryz.Builder_Extra_158 B b (byteCells l) (c.toNat : Int) w h (by rw [byteCells_length]; omega) hB).mono fun e w' ⟨a, d, f, _⟩ => ⟨a, Or.inr (by
    have e1 : byteCells (l ++ [c]) = byteCells l ++ [Value.int .u8 (c.toNat : Int)] := by simp [byteCells]
    rw [e1]; exact d), f⟩
theorem wStr_c (B b : Nat) (l : List UInt8) (s : ByteArray) (w : World) (h : Bld B b l w) (hl : l.length ≤ 1000000) (hs : s.size ≤ 1000000) (hB : B ≤ w.heap.size) :
    Calls Tryz.prog 95 #[.pointer (some ⟨b, 0, none⟩), .string s] w fun e w' => e = .returned (.tuple #[.int .i64 (s.size : Int), .nilIface]) ∧ Bld B b (l ++ s.data.toList) w' ∧ Below B w w' :=
  (Any.Builder_WriteString_k { Tryz.lays158 with } Tryz.Builder_Extra_158 B b (byteCells l) s w h (by rw [byteCells_length]; omega) hB).mono fun e w' ⟨a, d, f, _⟩ => ⟨a, Or.inr (by
    have e1 : byteCells (l ++ s.data.toList) = byteCells l ++ strCells s := by rw [strCells_eq]; simp [byteCells]
    rw [e1]; exact d), f⟩
theorem wEnd_c (B b : Nat) (l : List UInt8) (w : World) (h : Bld B b l w) (hB : B ≤ w.heap.size) :
    Calls Tryz.prog 97 #[.pointer (some ⟨b, 0, none⟩)] w fun e w' => e = .returned (.string ⟨l.toArray⟩) ∧ Below B w w' :=
  (Tryz.Builder_String_any_k B b l w h hB).mono fun _ _ ⟨a, _, f, _⟩ => ⟨a, f⟩
end Go.Proofs.YtldghloflegpmaaGreatDoor

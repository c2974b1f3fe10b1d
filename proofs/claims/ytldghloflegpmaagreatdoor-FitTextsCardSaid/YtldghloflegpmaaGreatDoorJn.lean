/- Classes and limits as arguments: opened and shut. -/
import Derived.Test.YtldghloflegpmaaGreatDoorRow
import Derived.Lib.SmallJoins
import Derived.ProofKit
import Derived.OpenShut
namespace Go.Proofs.YtldghloflegpmaaGreatDoor
open Go.ChangeShapes Go.WideShapes Go.ChangeAt Go.RowKit Go.Joins

theorem cellsClass : Tryz.prog.cellsOf 40 = 3 := by kernel_rfl
theorem cellsLimits : Tryz.prog.cellsOf 23 = 2 := by kernel_rfl

set_option maxRecDepth 100000 in
theorem open_class {H : Type} {enc : TypeId × Value → H} {w : World} {base : Nat} {spare : Nat → Bool} {held : Bool} {r : Reach} {b0 : Nat} {v : Value} {d : DataW H} {p : List MemPlace}
    (hv : Value.okWide Tryz.prog w r b0 40 v) (h : DataW.Trod enc Tryz.prog w base spare held 40 v d p) :
    ∃ (b : Bool) (l g : Int), v = .agg #[.bool b, .int .i64 l, .int .i64 g] ∧ d = .agg [.lit (.bool b), .lit (.int .i64 l), .lit (.int .i64 g)] ∧ p = [] ∧ (Lit.int .i64 l).wf = true ∧ (Lit.int .i64 g).wf = true := by
  obtain ⟨c0, c1, c2, y0, y1, y2, m, rfl, rfl, rfl, h0, h1, h2⟩ := open_agg3 Tryz.underlying40 (by kernel_rfl) cellsClass hv h
  obtain ⟨b, e0, rfl⟩ := DataW.trod_bool Tryz.underlying4 h0
  obtain ⟨l, e1, rfl, wl⟩ := DataW.trod_int Tryz.underlying3 h1
  obtain ⟨g, e2, rfl, wg⟩ := DataW.trod_int Tryz.underlying3 h2
  simp at e0 e1 e2
  subst e0 e1 e2
  exact ⟨b, l, g, rfl, rfl, rfl, wl, wg⟩
theorem shut_class {H : Type} {enc : TypeId × Value → H} {w : World} {base : Nat} {spare : Nat → Bool} {held : Bool} {b : Bool} {l g : Int} (wl : (Lit.int .i64 l).wf = true) (wg : (Lit.int .i64 g).wf = true) :
    DataW.Trod enc Tryz.prog w base spare held 40 (.agg #[.bool b, .int .i64 l, .int .i64 g]) (.agg [.lit (.bool b), .lit (.int .i64 l), .lit (.int .i64 g)]) [] :=
  shut_agg3 (enc := enc) (w := w) (base := base) (spare := spare) (held := held) (v0 := .bool b) (v1 := .int .i64 l) (v2 := .int .i64 g) (y0 := (.lit (.bool b), [])) (y1 := (.lit (.int .i64 l), [])) (y2 := (.lit (.int .i64 g), [])) Tryz.underlying40 (by kernel_rfl) cellsClass
    ⟨1, by simp [DataW.trod, Tryz.underlying4]⟩ ⟨1, by simp [DataW.trod, Tryz.underlying3, wl]⟩ ⟨1, by simp [DataW.trod, Tryz.underlying3, wg]⟩

set_option maxRecDepth 100000 in
theorem open_limits {H : Type} {enc : TypeId × Value → H} {w : World} {base : Nat} {spare : Nat → Bool} {held : Bool} {r : Reach} {b0 : Nat} {v : Value} {d : DataW H} {p : List MemPlace}
    (hv : Value.okWide Tryz.prog w r b0 23 v) (h : DataW.Trod enc Tryz.prog w base spare held 23 v d p) :
    ∃ (x y : Int), v = .agg #[.int .i64 x, .int .i64 y] ∧ d = .agg [.lit (.int .i64 x), .lit (.int .i64 y)] ∧ p = [] ∧ (Lit.int .i64 x).wf = true ∧ (Lit.int .i64 y).wf = true := by
  obtain ⟨c0, c1, y0, y1, m, rfl, rfl, rfl, h0, h1⟩ := open_agg2 Tryz.underlying23 (by kernel_rfl) cellsLimits hv h
  obtain ⟨x, e0, rfl, wx⟩ := DataW.trod_int Tryz.underlying3 h0
  obtain ⟨y, e1, rfl, wy⟩ := DataW.trod_int Tryz.underlying3 h1
  simp at e0 e1
  subst e0 e1
  exact ⟨x, y, rfl, rfl, rfl, wx, wy⟩
theorem shut_limits {H : Type} {enc : TypeId × Value → H} {w : World} {base : Nat} {spare : Nat → Bool} {held : Bool} {x y : Int} (wx : (Lit.int .i64 x).wf = true) (wy : (Lit.int .i64 y).wf = true) :
    DataW.Trod enc Tryz.prog w base spare held 23 (.agg #[.int .i64 x, .int .i64 y]) (.agg [.lit (.int .i64 x), .lit (.int .i64 y)]) [] :=
  shut_agg2 (enc := enc) (w := w) (base := base) (spare := spare) (held := held) (v0 := .int .i64 x) (v1 := .int .i64 y) (y0 := (.lit (.int .i64 x), [])) (y1 := (.lit (.int .i64 y), [])) Tryz.underlying23 (by kernel_rfl) cellsLimits
    ⟨1, by simp [DataW.trod, Tryz.underlying3, wx]⟩ ⟨1, by simp [DataW.trod, Tryz.underlying3, wy]⟩
end Go.Proofs.YtldghloflegpmaaGreatDoor

/- Fits as arguments: opened and shut. -/
import Derived.Test.YtldghloflegpmaaGreatDoorJn
import Derived.Deep.Strs
namespace Go.Proofs.YtldghloflegpmaaGreatDoor
open Go.ChangeShapes Go.WideShapes Go.ChangeAt Go.RowKit Go.Joins Go.Deep

theorem cellsFit : Tryz.prog.cellsOf 42 = 7 := by kernel_rfl
theorem cellsInt : Tryz.prog.cellsOf 3 = 1 := by kernel_rfl
theorem cellsBool : Tryz.prog.cellsOf 4 = 1 := by kernel_rfl
theorem array7 {cs : Array Value} (h : cs.size = 7) : ∃ a b c d e f g, cs = #[a, b, c, d, e, f, g] := by
  cases cs with
  | mk l =>
    match l, h with
    | [a, b, c, d, e, f, g], _ => exact ⟨a, b, c, d, e, f, g, rfl⟩
/-- The parts of a fit are ints of the machine. -/
def FitWf (n lh gh ls gs : Int) : Prop := (Lit.int .i64 n).wf = true ∧ (Lit.int .i64 lh).wf = true ∧ (Lit.int .i64 gh).wf = true ∧ (Lit.int .i64 ls).wf = true ∧ (Lit.int .i64 gs).wf = true

theorem trod_cls {H : Type} {enc : TypeId × Value → H} {w : World} {base : Nat} {spare : Nat → Bool} {held : Bool} {n : Nat} {x y z : Value} {o : DataW H × List MemPlace}
    (h : DataW.trod enc Tryz.prog w base spare held n 40 [x, y, z] = some o) :
    ∃ (b : Bool) (l g : Int), x = .bool b ∧ y = .int .i64 l ∧ z = .int .i64 g ∧ o = (.agg [.lit (.bool b), .lit (.int .i64 l), .lit (.int .i64 g)], []) ∧ (Lit.int .i64 l).wf = true ∧ (Lit.int .i64 g).wf = true := by
  obtain ⟨y0, y1, y2, m, hx, _, h0, h1, h2⟩ := trod_struct3 Tryz.underlying40 h
  simp only [cellsInt, cellsBool, List.drop_zero, List.drop_succ_cons, List.take_succ_cons, List.take_zero] at h0 h1 h2
  obtain ⟨b, e0, rfl⟩ := DataW.trod_bool Tryz.underlying4 h0
  obtain ⟨l, e1, rfl, wl⟩ := DataW.trod_int Tryz.underlying3 h1
  obtain ⟨g, e2, rfl, wg⟩ := DataW.trod_int Tryz.underlying3 h2
  simp at e0 e1 e2
  subst e0 e1 e2
  exact ⟨b, l, g, rfl, rfl, rfl, by simpa using hx, wl, wg⟩

theorem cellsCls : Tryz.prog.cellsOf 40 = 3 := by kernel_rfl
set_option maxRecDepth 100000 in
theorem open_fit {H : Type} {enc : TypeId × Value → H} {w : World} {base : Nat} {spare : Nat → Bool} {held : Bool} {r : Reach} {b0 : Nat} {v : Value} {d : DataW H} {p : List MemPlace}
    (hv : Value.okWide Tryz.prog w r b0 42 v) (h : DataW.Trod enc Tryz.prog w base spare held 42 v d p) :
    ∃ (n : Int) (bh : Bool) (lh gh : Int) (bs : Bool) (ls gs : Int), v = .agg #[.int .i64 n, .bool bh, .int .i64 lh, .int .i64 gh, .bool bs, .int .i64 ls, .int .i64 gs] ∧
      d = .agg [.lit (.int .i64 n), .agg [.lit (.bool bh), .lit (.int .i64 lh), .lit (.int .i64 gh)], .agg [.lit (.bool bs), .lit (.int .i64 ls), .lit (.int .i64 gs)]] ∧ p = [] ∧ FitWf n lh gh ls gs := by
  obtain ⟨cs, rfl, hsz⟩ := okWide_struct Tryz.underlying42 hv
  obtain ⟨a, b, c, e, f, g, k, rfl⟩ := array7 (hsz.trans cellsFit)
  obtain ⟨fuel, hf⟩ := h
  obtain ⟨y0, y1, y2, n, hx, _, h0, h1, h2⟩ := trod_struct3 Tryz.underlying42 hf
  simp only [Value.cells, cellsInt, cellsCls, List.drop_zero, List.drop_succ_cons, List.take_succ_cons, List.take_zero] at h0 h1 h2
  obtain ⟨n', e0, rfl, wn⟩ := DataW.trod_int Tryz.underlying3 h0
  obtain ⟨bh, lh, gh, rfl, rfl, rfl, rfl, w1, w2⟩ := trod_cls h1
  obtain ⟨bs, ls, gs, rfl, rfl, rfl, rfl, w3, w4⟩ := trod_cls h2
  simp at e0
  subst e0
  simp only [Prod.mk.injEq] at hx
  exact ⟨n', bh, lh, gh, bs, ls, gs, rfl, hx.1, by simpa using hx.2, wn, w1, w2, w3, w4⟩
theorem cls_trod {H : Type} {enc : TypeId × Value → H} {w : World} {base : Nat} {spare : Nat → Bool} {held : Bool} {b : Bool} {l g : Int} (wl : (Lit.int .i64 l).wf = true) (wg : (Lit.int .i64 g).wf = true) :
    DataW.trod enc Tryz.prog w base spare held 2 40 [.bool b, .int .i64 l, .int .i64 g] = some (.agg [.lit (.bool b), .lit (.int .i64 l), .lit (.int .i64 g)], []) :=
  trod_struct3_mk (enc := enc) (w := w) (base := base) (spare := spare) (held := held) (n := 1) (cs := [.bool b, .int .i64 l, .int .i64 g]) (y0 := (.lit (.bool b), [])) (y1 := (.lit (.int .i64 l), [])) (y2 := (.lit (.int .i64 g), [])) Tryz.underlying40 (by simp [cellsCls])
    (by simp [cellsBool, DataW.trod, Tryz.underlying4]) (by simp [cellsInt, DataW.trod, Tryz.underlying3, wl]) (by simp [cellsInt, DataW.trod, Tryz.underlying3, wg])
theorem shut_fit {H : Type} {enc : TypeId × Value → H} {w : World} {base : Nat} {spare : Nat → Bool} {held : Bool} {n : Int} {bh : Bool} {lh gh : Int} {bs : Bool} {ls gs : Int} (hw : FitWf n lh gh ls gs) :
    DataW.Trod enc Tryz.prog w base spare held 42 (.agg #[.int .i64 n, .bool bh, .int .i64 lh, .int .i64 gh, .bool bs, .int .i64 ls, .int .i64 gs])
      (.agg [.lit (.int .i64 n), .agg [.lit (.bool bh), .lit (.int .i64 lh), .lit (.int .i64 gh)], .agg [.lit (.bool bs), .lit (.int .i64 ls), .lit (.int .i64 gs)]]) [] := by
  obtain ⟨wn, w1, w2, w3, w4⟩ := hw
  exact ⟨3, trod_struct3_mk (enc := enc) (w := w) (base := base) (spare := spare) (held := held) (n := 2) (cs := [.int .i64 n, .bool bh, .int .i64 lh, .int .i64 gh, .bool bs, .int .i64 ls, .int .i64 gs])
    (y0 := (.lit (.int .i64 n), [])) (y1 := (.agg [.lit (.bool bh), .lit (.int .i64 lh), .lit (.int .i64 gh)], [])) (y2 := (.agg [.lit (.bool bs), .lit (.int .i64 ls), .lit (.int .i64 gs)], [])) Tryz.underlying42 (by simp [cellsFit])
    (by simp [cellsInt, DataW.trod, Tryz.underlying3, wn]) (by simpa [cellsCls] using cls_trod (enc := enc) (w := w) (base := base) (spare := spare) (held := held) w1 w2) (by simpa [cellsCls] using cls_trod (enc := enc) (w := w) (base := base) (spare := spare) (held := held) w3 w4)⟩
end Go.Proofs.YtldghloflegpmaaGreatDoor

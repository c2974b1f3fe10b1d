/- The package variables that the walks read: out of a row's laid variables and the world's shape. -/
import Derived.Test.YtldghloflegpmaaGreatDoorGl
import Derived.Test.YtldghloflegpmaaGreatDoorRows
import Derived.Test.YtldghloflegpmaaGreatDoorJn
import Derived.Stop.LaidErr
import Derived.LaidSub
import Derived.HandedShaped
namespace Go.Proofs.YtldghloflegpmaaGreatDoor
open Go.ChangeShapes Go.WideShapes Go.ChangeAt Go.RowKit Go.Joins Go.Lib Go.Shelf

/-- The wrap that keeps the world's shape beside the laid variables. -/
theorem returns_shaped_and {H : Type} {enc : TypeId × Value → H} {a : Assume} {C : Checked} {os : Os} {f : FuncId} {fn : Func} {s : ChangeSpec} {conds : List PathCond} {apart fresh handsOn again : Bool} {X : World → Array Value → Prop}
    (hX : ∀ (w w' : World) (args : Array Value), w.heap = w'.heap → X w args → X w' args)
    (own : ownKnob C.prog.godebug = none) (started : os.Started) (noInit : C.prog.inits.idxOf? f = none) (hfn : C.prog.funcs[f]? = some fn)
    (witness : ∃ (w : World) (tape : Tape) (i : Input), w.os = os ∧ (w.forCall tape i).Shaped C.prog ∧ i.vars = [] ∧ Input.okWide C.prog (w.forCall tape i) .any w.heap.size f i ∧
      ((s.pre enc C.prog fn conds apart (w.forCall tape i).memory i.args ∧ X (w.forCall tape i).memory i.args) ∧ sizedMet enc C.prog fn (OpenSpec.ofChange s) apart (w.forCall tape i).memory i.args) ∧ a.holds C.prog (lone (Frame.enter C.prog f i.args .normal) [] (w.forCall tape i)))
    (contract : ∀ (W : World) (base : Nat) (args : Array Value) (ds gs : List (DataW H)) (before : List MemPlace),
      (∀ (j : Nat) t v, fn.params[j]? = some t → args[j]? = some v → Value.okWide C.prog W .any base t v) →
      DataW.Whole enc C.prog fn.params.toList s.vars apart W args.toList ds gs before →
      W.ShapedOpen C.prog → X W args →
      Calls C.prog f args W fun e W' => ∃ v, e = .returned v ∧ s.post enc C.prog fn apart fresh handsOn again W args v W') :
    ReturnsInHanded a C os f .any (fun w args => (s.pre enc C.prog fn conds apart w args ∧ X w args) ∧ sizedMet enc C.prog fn (OpenSpec.ofChange s) apart w args) (s.post enc C.prog fn apart fresh handsOn again) := by
  refine returnsInHanded_of_calls own started noInit witness ?_
  intro w tape i _ hsh _ hok hpre _
  obtain ⟨_, _, _, fn', hfn', _, _, _, _, hval⟩ := hok
  have e : fn' = fn := Option.some.inj (hfn'.symm.trans hfn)
  subst e
  obtain ⟨⟨⟨ds, gs, before, hw, _⟩, hx⟩, _⟩ := hpre
  have hw' := DataW.Whole.of_heap (w' := w.forCall tape i) (by rfl) hw
  refine (contract (w.forCall tape i) w.heap.size i.args ds gs before hval hw' hsh (hX _ _ _ (by rfl) hx)).mono fun e W' ⟨v, he, hp⟩ => ?_
  subst he
  exact ChangeSpec.post_blind hp

theorem star_es : "*" ++ "errors.errorString" = "*errors.errorString" := by decide
theorem row_es (u : TypeId) (h : Tryz.prog.typeName? 3 u = some "*errors.errorString") : u = 295 :=
  typeName_ptr_named (nm := "errors.errorString") (by rw [star_es]; kernel_rfl) (by kernel_rfl) (by decide) u (by rw [star_es]; exact h)
def isTab (x : String × DataW Unit) : Bool := x.1 == "internal/strconv.uint64pow10"
def isErr (x : String × DataW Unit) : Bool := x.1 == "strconv.ErrSyntax"
theorem gw_of {W : World} (hs : W.ShapedOpen Tryz.prog) (hL : laidMetH Tryz.prog Rows.fitSwapsRow.laid W) : Gw W := by
  have h1 := (laidMetH_iff.1 hL).1
  have h2 := h1.filter isTab
  have h3 := h1.filter isErr
  rw [show (Rows.fitSwapsRow.laid.filter fun x => x.2.handleName?.isNone).filter isTab = [("internal/strconv.uint64pow10", Lib.tabData .u64 Lib.pow10Tab)] by kernel_rfl] at h2
  rw [show (Rows.fitSwapsRow.laid.filter fun x => x.2.handleName?.isNone).filter isErr = [("strconv.ErrSyntax", .iface "*errors.errorString" (.ptr (.agg [.lit (.string [105, 110, 118, 97, 108, 105, 100, 32, 115, 121, 110, 116, 97, 120])])))] by kernel_rfl] at h3
  refine Gw.of ⟨Tryz.laysM145.s1_3 W hs, ?_, ?_⟩
  · exact Lib.tabIs_of_head (g := 6) (t := 299) (e := 261) (n := 20) (by kernel_rfl) (by kernel_rfl) Tryz.underlying299 Tryz.underlying261 (by kernel_rfl) (by kernel_rfl) h2
  · obtain ⟨a, s, hv, -, -, -⟩ := laid_sentinel (g := 2) (ti := 146) h3 (by kernel_rfl) (by kernel_rfl) Tryz.underlying146 row_es Tryz.underlying295 Tryz.underlying297 rfl rfl Tryz.underlying9 (by kernel_rfl) (by kernel_rfl)
    exact ⟨_, _, hv⟩
end Go.Proofs.YtldghloflegpmaaGreatDoor

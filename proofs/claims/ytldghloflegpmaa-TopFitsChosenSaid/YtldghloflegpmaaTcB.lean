/- The fit that is chosen for a clearance has a hole H, and whatever hole and shaft are within its limits have a clearance that is wanted: the law returns true for every size, clearance and pair of numbers. -/
import Derived.Test.YtldghloflegpmaaRows
import Derived.Test.YtldghloflegpmaaTcA
import Derived.Test.YtldghloflegpmaaJn
namespace Go.Proofs.Ytldghloflegpmaa.topFitsChosen
open Go.ChangeShapes Go.WideShapes Go.ChangeAt Go.RowKit Go.Joins Go.Proofs.Ytldghloflegpmaa

theorem cellsTwo : Try.prog.cellsOf 25 = 2 := by kernel_rfl
theorem cellsU : Try.prog.cellsOf 24 = 1 := by kernel_rfl
theorem array2 {cs : Array Value} (h : cs.size = 2) : ∃ a b, cs = #[a, b] := by
  cases cs with
  | mk l =>
    match l, h with
    | [a, b], _ => exact ⟨a, b, rfl⟩
theorem open_two {H : Type} {enc : TypeId × Value → H} {w : World} {base : Nat} {spare : Nat → Bool} {held : Bool} {r : Reach} {b0 : Nat} {v : Value} {d : DataW H} {p : List MemPlace}
    (hv : Value.okWide Try.prog w r b0 25 v) (h : DataW.Trod enc Try.prog w base spare held 25 v d p) :
    ∃ (x y : Int), v = .agg #[.int .u16 x, .int .u16 y] ∧ d = .agg [.lit (.int .u16 x), .lit (.int .u16 y)] ∧ p = [] ∧ (Lit.int .u16 x).wf = true ∧ (Lit.int .u16 y).wf = true := by
  simp only [Value.okWide, Try.underlying25] at hv
  obtain ⟨cs, rfl, hsz, _⟩ := hv
  obtain ⟨c0, c1, rfl⟩ := array2 (hsz.trans cellsTwo)
  obtain ⟨fuel, hf⟩ := h
  obtain ⟨xs, m, _, hx, _, hn, hg⟩ := DataW.trod_array Try.underlying25 hf
  match xs, hn with
  | [y0, y1], _ =>
    have h0 := hg 0 (by omega)
    have h1 := hg 1 (by omega)
    simp [Value.cells, cellsU] at h0 h1
    obtain ⟨x, e0, rfl, wx⟩ := DataW.trod_int Try.underlying24 h0
    obtain ⟨y, e1, rfl, wy⟩ := DataW.trod_int Try.underlying24 h1
    simp at e0 e1
    subst e0 e1
    simp only [Prod.mk.injEq] at hx
    exact ⟨x, y, rfl, hx.1, by simpa using hx.2, wx, wy⟩
theorem shut_two {H : Type} {enc : TypeId × Value → H} {w : World} {base : Nat} {spare : Nat → Bool} {held : Bool} {x y : Int} (wx : (Lit.int .u16 x).wf = true) (wy : (Lit.int .u16 y).wf = true) :
    DataW.Trod enc Try.prog w base spare held 25 (.agg #[.int .u16 x, .int .u16 y]) (.agg [.lit (.int .u16 x), .lit (.int .u16 y)]) [] := ⟨2, by
  have r2 : List.range 2 = [0, 1] := rfl
  unfold DataW.trod
  rw [Try.underlying25]
  simp [r2, cellsU, cellsTwo, Value.cells, DataW.trod, Try.underlying24, wx, wy]⟩

theorem own : ownKnob Try.prog.godebug = none := by kernel_rfl
set_option maxRecDepth 100000 in
theorem lifted (os : Os) (started : os.Started) (H : Type) (enc : TypeId × Value → H) :
    ReturnsInHanded {} Try.checked os 3 .any (Rows.topFitsChosenSpec.pre6 enc Try.prog Try.f3 Rows.topFitsChosenRow.domain false) (Rows.topFitsChosenSpec.post enc Try.prog Try.f3 false true false false) := by
  refine returnsInHanded_of_change (C := Try.checked) own started (by kernel_rfl) Try.func3
    (ChangeSpec.witness6 (enc := enc) (C := Try.checked) false ⟨#[], #[.int .i64 0, .agg #[.int .i64 0, .int .i64 0], .agg #[.int .u16 0, .int .u16 0]], []⟩ 8 (by kernel_rfl) (by kernel_rfl) (by kernel_rfl) (by kernel_rfl)) ?_
  intro W base args ds gs before hval0 hW hcnd _
  have hval : ∀ (j : Nat) t v, Try.f3.params[j]? = some t → args[j]? = some v → Value.okWide Try.prog W .any base t v := hval0
  have hW' := hW
  obtain ⟨p, q, hA0, hV, rfl, hfz, hnd⟩ := hW
  have hA : DataW.TrodAll enc Try.prog W 0 (fun _ => true) true Try.f3.params.toList args.toList ds p := hA0
  rw [Try.params3] at hA hval
  obtain ⟨v0, vs0, d0, ds0, p0, q0, hargs0, rfl, rfl, h0, r0⟩ := trodAll_cons hA
  obtain ⟨v1, vs1, d1, ds1, p1, q1, hargs1, rfl, rfl, h1, r1⟩ := trodAll_cons r0
  obtain ⟨v2, vs2, d2, ds2, p2, q2, hargs2, rfl, rfl, h2, r2⟩ := trodAll_cons r1
  obtain ⟨rfl, rfl, rfl⟩ := trodAll_nil r2
  subst hargs2 hargs1
  obtain rfl : args = #[v0, v1, v2] := by cases args; simp_all
  obtain ⟨rfl, rfl⟩ := trodVars_none hV
  obtain ⟨n, rfl, rfl, rfl, wn⟩ := open_int Try.underlying3 (hval 0 3 v0 rfl rfl) h0
  obtain ⟨x, y, rfl, rfl, rfl, wx, wy⟩ := open_limits (hval 1 23 v1 rfl rfl) h1
  obtain ⟨a, b, rfl, rfl, rfl, wa, wb⟩ := open_two (hval 2 25 v2 rfl rfl) h2
  clear hA0 hval0
  simp only [List.append_nil] at hW'
  refine (topFitsChosen_c n x y a b W (bounds_u16 wa) (bounds_u16 wb)).mono fun e W' ⟨he, hb⟩ => ?_
  subst he
  exact ⟨_, rfl, _, _, _, [], [], [], hW', trodAll_cons_mk (shut_bool Try.underlying4 _) trodAll_mk0, trodAll_cons_mk (shut_int Try.underlying3 wn) (trodAll_cons_mk (shut_limits wx wy) (trodAll_cons_mk (shut_two wa wb) trodAll_mk0)), rfl, hb.frame _, fun h => by cases h⟩

theorem proved : Rows.TopFitsChosenSaid :=
  OpenClaim.holds_of_wide 3 Try.f3 rfl rfl rfl rfl rfl rfl rfl ⟨rfl, rfl, rfl, rfl, rfl⟩ rfl rfl rfl rfl rfl (by kernel_rfl) Try.func3 (by kernel_rfl)
    (of_decide_eq_true (by kernel_rfl)) (by unfold Func.isWrapper; first | (rw [if_pos (by decide +kernel)]; kernel_rfl) | (rw [if_neg (by decide +kernel)]; exact ⟨rfl, rfl⟩))
    (fun os started H enc _ => lifted os started H enc)
end Go.Proofs.Ytldghloflegpmaa.topFitsChosen

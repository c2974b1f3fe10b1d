/- With the next grade of the hole and of a shaft d to h, the clearance contains the one before, and its least one is the same: the law returns true for every fit. -/
import Derived.Test.YteaopiogjlinbaaRows
import Derived.Test.YteaopiogjlinbaaTpA
import Derived.Test.YteaopiogjlinbaaPuB
import Derived.Test.YteaopiogjlinbaaDmA
import Derived.ProofKit
import Derived.OpenShut
import Derived.Lib.SmallJoins
namespace Go.Proofs.Yteaopiogjlinbaa
open Go.RowKit Pu Go.Lib

theorem right_no {n l h s : Int} (hr : rightB n l h s = false) : rightB n l h s = false := hr
theorem right_yes {n l h s : Int} (hr : rightB n l h s = true) : fE n true 4 h false l s = 0 := by unfold rightB at hr; simpa using hr

set_option maxRecDepth 100000 in
set_option maxHeartbeats 4000000 in
theorem topFitsGrades_c (n l h s : Int) (w : World) : Calls Try.prog 3 #[.agg (runC n l h s)] w fun e w' => e = .returned (.bool true) ∧ Below w.heap.size w w' := by
  by_cases hx : rightB n l h s = true
  case neg =>
    have hx : rightB n l h s = false := by simpa using hx
    have Hx := Lib.hid hx
    clear hx
    go_enter Try.func3, Try.ntmps3
    go_wp2_with fail
    refine (runRight_c _ _ _ _ _).mono ?_
    rintro e w2 ⟨rfl, hb2⟩
    rw [Hx.out]
    go_wp2_with fail
    refine (runFits_c _).mono ?_
    rintro e w3 ⟨rfl, hb3⟩
    go_wp2
    go_ret
    exact ⟨rfl, (((Below.refl _ w).alloc (Nat.le_refl _) _).alloc (by simp) _).trans ((bt hb2 hb3).mono (by simp; omega))⟩
  obtain ⟨⟨h5, h12⟩, ⟨s5, s12⟩, l0, l9⟩ := right_bd (right_yes hx)
  have Hx := Lib.hid hx
  go_enter Try.func3, Try.ntmps3
  go_wp2_with fail
  refine (runRight_c _ _ _ _ _).mono ?_
  rintro e w2 ⟨rfl, hbb⟩
  rw [Hx.out]
  have hr0 := ((Row.new w (runC n l h s) 23).alloc (.cells (runC n l (h + 1) (s + 1)) 23)).next hbb
  have hr1 := (Row.new (w.alloc (.cells (runC n l h s) 23)) (runC n l (h + 1) (s + 1)) 23).next hbb
  simp only [World.size_alloc] at hr1
  have hb2 := (((Below.refl _ w).alloc (Nat.le_refl _) (.cells (runC n l h s) 23)).alloc (by simp) (.cells (runC n l (h + 1) (s + 1)) 23)).trans (hbb.mono (by simp; omega))
  clear hbb
  have hc1 := hr1.cell
  go_wp2_with fail
  refine (runRight_c _ _ _ _ _).mono ?_
  rintro e w3 ⟨rfl, hbb⟩
  have hr0 := hr0.next hbb
  have hr1 := hr1.next hbb
  have hb3 := hb2.trans (hbb.mono hb2.size)
  clear hbb hc1
  have hc0 := hr0.cell
  by_cases hy : rightB n l (h + 1) (s + 1) = true
  case neg =>
    have hy : rightB n l (h + 1) (s + 1) = false := by simpa using hy
    rw [hy]
    clear hx hy
    go_wp2_with fail
    refine (runFits_c _).mono ?_
    rintro e w4 ⟨rfl, hbb⟩
    go_wp2
    go_ret
    exact ⟨rfl, hb3.trans (hbb.mono hb3.size)⟩
  rw [hy]
  by_cases hl : 4 < l
  case pos =>
    clear hx hy
    go_wp2_with fail
    refine (runFits_c _).mono ?_
    rintro e w4 ⟨rfl, hbb⟩
    go_wp2
    go_ret
    exact ⟨rfl, hb3.trans (hbb.mono hb3.size)⟩
  have fx := right_yes hx
  have fy := right_yes hy
  have hp := play_h fx (by omega)
  have hq := play_h fy (by omega)
  have t1 := tol_up n h h5 (by have := right_bd fy; omega)
  have t2 := tol_up n s s5 (by have := right_bd fy; omega)
  have b1 := tol_bd n (h + 1)
  have b2 := tol_bd n (s + 1)
  have b3 := sh_bd n l
  have b4 := tol_bd n h
  have b5 := tol_bd n s
  have vx : pairV (pLow n true 4 h false l s) (pHigh n true 4 h false l s) (fE n true 4 h false l s) = pairV (sh n l) (tol n h + sh n l + tol n s) 0 := by rw [hp.1, hp.2, fx]
  have vy : pairV (pLow n true 4 (h + 1) false l (s + 1)) (pHigh n true 4 (h + 1) false l (s + 1)) (fE n true 4 (h + 1) false l (s + 1)) = pairV (sh n l) (tol n (h + 1) + sh n l + tol n (s + 1)) 0 := by rw [hq.1, hq.2, fy]
  generalize sh n l = c at *
  generalize tol n (h + 1) = a' at *
  generalize tol n (s + 1) = b' at *
  generalize tol n h = a at *
  generalize tol n s = b at *
  obtain ⟨A, hA⟩ : ∃ A, a + c + b = A := ⟨_, rfl⟩
  obtain ⟨B, hB⟩ : ∃ B, a' + c + b' = B := ⟨_, rfl⟩
  rw [hA] at vx
  rw [hB] at vy
  have hAB : A < B := by omega
  have hcA : c ≤ A := by omega
  have hB2 : B ≤ 100000 := by omega
  have hc0' : 0 ≤ c := by omega
  have Vx := Lib.hid vx
  have Vy := Lib.hid vy
  clear hx hy fx fy hp hq vx vy t1 t2 b1 b2 b3 b4 b5 hA hB Hx
  go_wp2_with fail
  refine (rfit_c _ _ _ _ _).mono ?_
  rintro e w4 ⟨rfl, hbb⟩
  have hr1 := hr1.next hbb
  have hb4 := hb3.trans (hbb.mono hb3.size)
  clear hbb hc0
  go_wp2_with fail
  refine (Clearance_c _ _ _ _ _ _ _ _).mono ?_
  rintro e w5 ⟨rfl, hbb⟩
  have hr1 := (hr1.next hbb).alloc (.cells #[.int .i64 c, .int .i64 A] 27)
  have hb5 := hb4.trans (hbb.mono hb4.size)
  have hb5 := hb5.alloc hb5.size (.cells #[.int .i64 c, .int .i64 A] 27)
  have hr2 := Row.new w5 #[.int .i64 c, .int .i64 A] 27
  clear hbb
  rw [Vx.out]
  simp only [pairV]
  have hc1 := hr1.cell
  go_wp2_with fail
  refine (rfit_c _ _ _ _ _).mono ?_
  rintro e w6 ⟨rfl, hbb⟩
  have hr2 := hr2.next hbb
  have hb6 := hb5.trans (hbb.mono hb5.size)
  clear hbb hc1
  go_wp2_with fail
  refine (Clearance_c _ _ _ _ _ _ _ _).mono ?_
  rintro e w7 ⟨rfl, hbb⟩
  have hr2 := (hr2.next hbb).alloc (.cells #[.int .i64 c, .int .i64 B] 27)
  have hb7 := hb6.trans (hbb.mono hb6.size)
  have hb7 := hb7.alloc hb7.size (.cells #[.int .i64 c, .int .i64 B] 27)
  have hr3 := Row.new w7 #[.int .i64 c, .int .i64 B] 27
  clear hbb
  rw [Vy.out]
  simp only [pairV]
  have hc2 := hr2.cell
  go_wp2_with fail
  refine (Inside_ok c A c B _ (by omega) hcA (by omega) (by omega) (by omega) hB2 (by omega) (by omega)).mono ?_
  rintro e w8 ⟨rfl, hbb⟩
  have hr2 := hr2.next hbb
  have hr3 := hr3.next hbb
  have hb8 := hb7.trans (hbb.mono hb7.size)
  clear hbb hc2
  have hc2 := hr2.cell
  have hc3 := hr3.cell
  go_wp2_with fail
  refine (runFits_c _).mono ?_
  rintro e w9 ⟨rfl, hbb⟩
  go_wp2
  go_ret
  exact ⟨rfl, hb8.trans (hbb.mono hb8.size)⟩

namespace topFitsGrades
open Go.ChangeShapes Go.WideShapes Go.ChangeAt Go.Joins
theorem own : ownKnob Try.prog.godebug = none := by kernel_rfl
theorem cellsRun : Try.prog.cellsOf 23 = 4 := by kernel_rfl

set_option maxRecDepth 100000 in
theorem lifted (os : Os) (started : os.Started) (H : Type) (enc : TypeId × Value → H) :
    ReturnsInHanded {} Try.checked os 3 .any (Rows.topFitsGradesSpec.pre6 enc Try.prog Try.f3 Rows.topFitsGradesRow.domain false) (Rows.topFitsGradesSpec.post enc Try.prog Try.f3 false true false false) := by
  refine returnsInHanded_of_change (C := Try.checked) own started (by kernel_rfl) Try.func3
    (ChangeSpec.witness6 (enc := enc) (C := Try.checked) false ⟨#[], #[.agg #[.int .i64 0, .int .i64 0, .int .i64 0, .int .i64 0]], []⟩ 8 (by kernel_rfl) (by kernel_rfl) (by kernel_rfl) (by kernel_rfl)) ?_
  intro W base args ds gs before hval0 hW hcnd _
  have hval : ∀ (j : Nat) t v, Try.f3.params[j]? = some t → args[j]? = some v → Value.okWide Try.prog W .any base t v := hval0
  have hW' := hW
  obtain ⟨p, q, hA0, hV, rfl, hfz, hnd⟩ := hW
  have hA : DataW.TrodAll enc Try.prog W 0 (fun _ => true) true Try.f3.params.toList args.toList ds p := hA0
  rw [Try.params3] at hA hval
  obtain ⟨v0, vs0, d0, ds0, p0, q0, hargs, rfl, rfl, h0, r0⟩ := trodAll_cons hA
  obtain ⟨rfl, rfl, rfl⟩ := trodAll_nil r0
  obtain rfl : args = #[v0] := by cases args; simp_all
  obtain ⟨rfl, rfl⟩ := trodVars_none hV
  obtain ⟨c0, c1, c2, c3, y0, y1, y2, y3, m, rfl, rfl, rfl, hy0, hy1, hy2, hy3⟩ := open_agg4 Try.underlying23 (by kernel_rfl) cellsRun (hval 0 23 v0 rfl rfl) h0
  obtain ⟨n, e0, rfl, wn⟩ := DataW.trod_int Try.underlying3 hy0
  obtain ⟨l, e1, rfl, wl⟩ := DataW.trod_int Try.underlying3 hy1
  obtain ⟨h, e2, rfl, wh⟩ := DataW.trod_int Try.underlying3 hy2
  obtain ⟨s, e3, rfl, ws⟩ := DataW.trod_int Try.underlying3 hy3
  simp at e0 e1 e2 e3
  subst e0 e1 e2 e3
  clear hA0 hval0
  refine (topFitsGrades_c n l h s W).mono fun e W' ⟨he, hb⟩ => ?_
  subst he
  have hargs : ∀ (b0 : Nat) (sp : Nat → Bool) (hd : Bool), DataW.TrodAll enc Try.prog W' b0 sp hd [23] [.agg #[.int .i64 n, .int .i64 l, .int .i64 h, .int .i64 s]] [.agg [.lit (.int .i64 n), .lit (.int .i64 l), .lit (.int .i64 h), .lit (.int .i64 s)]] [] := fun b0 sp hd => by
    have := trodAll_cons_mk (shut_agg4 (enc := enc) (w := W') (base := b0) (spare := sp) (held := hd) (v0 := .int .i64 n) (v1 := .int .i64 l) (v2 := .int .i64 h) (v3 := .int .i64 s) (y0 := (.lit (.int .i64 n), [])) (y1 := (.lit (.int .i64 l), [])) (y2 := (.lit (.int .i64 h), [])) (y3 := (.lit (.int .i64 s), [])) Try.underlying23 (by kernel_rfl) cellsRun
      ⟨1, by simp [DataW.trod, Try.underlying3, wn]⟩ ⟨1, by simp [DataW.trod, Try.underlying3, wl]⟩ ⟨1, by simp [DataW.trod, Try.underlying3, wh]⟩ ⟨1, by simp [DataW.trod, Try.underlying3, ws]⟩) trodAll_mk0
    simpa using this
  exact ⟨_, rfl, _, _, _, [], [], [], hW', trodAll_cons_mk (shut_bool Try.underlying4 _) trodAll_mk0, hargs _ _ _, rfl, hb.frame _, fun h => by cases h⟩

theorem proved : Rows.TopFitsGradesSaid :=
  OpenClaim.holds_of_wide 3 Try.f3 rfl rfl rfl rfl rfl rfl rfl ⟨rfl, rfl, rfl, rfl, rfl⟩ rfl rfl rfl rfl rfl (by kernel_rfl) Try.func3 (by kernel_rfl)
    (of_decide_eq_true (by kernel_rfl)) (by unfold Func.isWrapper; first | (rw [if_pos (by decide +kernel)]; kernel_rfl) | (rw [if_neg (by decide +kernel)]; exact ⟨rfl, rfl⟩))
    (fun os started H enc _ => lifted os started H enc)
end topFitsGrades
end Go.Proofs.Yteaopiogjlinbaa

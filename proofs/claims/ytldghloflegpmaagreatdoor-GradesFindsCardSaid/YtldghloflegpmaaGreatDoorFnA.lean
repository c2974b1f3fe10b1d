/- Contract of package grades: Find. -/
import Derived.Test.YtldghloflegpmaaGreatDoorIt
import Derived.Test.YtldghloflegpmaaGreatDoorGrH
namespace Go.Proofs.YtldghloflegpmaaGreatDoor
open Go.RowKit Go.Shelf Pu Go.Lib
attribute [local go_sem] Oper.semAt_some

def kH (k : Fin 160) : Bool := decide (80 ≤ k.1)
def kL (k : Fin 160) : Int := ((k.1 / 8 % 10 : Nat) : Int)
def kG (k : Fin 160) : Int := ((5 + k.1 % 8 : Nat) : Int)
theorem k_bd (k : Fin 160) : 0 ≤ kL k ∧ kL k ≤ 9 ∧ 5 ≤ kG k ∧ kG k ≤ 12 := by unfold kL kG; omega
def cellsK (k : Fin 160) : List Value := [.bool (kH k), .int .i64 (kL k), .int .i64 (kG k)]
/-- Whether a class has these deviations. -/
def hasD (n lo hi : Int) (k : Fin 160) : Bool := decide (dLow n (kH k) (kL k) (kG k) = lo ∧ dHigh n (kH k) (kL k) (kG k) = hi)
def fndK (n lo hi : Int) (l : List (Fin 160)) : List (Fin 160) := l.filter (hasD n lo hi)
theorem fnd_hit {n lo hi : Int} (pre : List (Fin 160)) {x : Fin 160} (h : hasD n lo hi x = true) : fndK n lo hi (pre ++ [x]) = fndK n lo hi pre ++ [x] := by simp [fndK, h]
theorem fnd_miss {n lo hi : Int} (pre : List (Fin 160)) {x : Fin 160} (h : hasD n lo hi x = false) : fndK n lo hi (pre ++ [x]) = fndK n lo hi pre := by simp [fndK, h]
theorem infoC : (Tryz.prog.info? 40).map (fun i => (i.zero, i.size, i.bytes)) = some (some (.agg #[.bool false, .int .i64 0, .int .i64 0]), 3, 24) := by kernel_rfl

theorem Row.kept {W W' : World} {row : Option Nat} {b : Nat} {cs : Array Value} {T : TypeId} (h : Row W b cs T) (hg : W.grownBy W' row) (hne : some b ≠ row) : Row W' b cs T := (hg.block b h.lt hne).trans h
theorem row_own {β : Type} (b : Nat) (cs : Array Value) (T : TypeId) : Own (fun (_ : β) W => Row W b cs T) := fun s X Y row hs hg hrow =>
  hs.kept hg (fun e' => by obtain ⟨o, ho, hc⟩ := hrow b e'.symm; rw [show X.heap[b]? = _ from hs] at ho; cases ho; cases hc)
theorem grown_below {W W' : World} (h : Below W.heap.size W W') : W.grownBy W' none := ⟨h.os, h.tape, h.output, h.size, fun k hk _ => h.block k hk⟩

theorem own_type {W : World} {n₀ : Nat} {e : TypeId} {size : Nat} {v : Value} {k : Nat} {xs : List Value} (h : W.ownsRow n₀ e size v k xs) {T : TypeId} (hT : T ≠ e) : ∀ r, v.ownBlock = some r → ∀ cs, ¬ Row W r cs T := by
  intro r hr cs hR
  rcases h.2 with ⟨rfl, _⟩ | ⟨g, cap, cur, rfl, _, hg, _⟩
  · simp [Value.ownBlock] at hr
  · obtain rfl : g = r := by simpa [Value.ownBlock] using hr
    unfold Row at hR
    rw [hg] at hR
    cases hR
    exact hT rfl
theorem KT.appended {W w1 : World} {n₀ B : Nat} {t e T : TypeId} {size : Nat} {v : Value} {k : Nat} {xs : List Value} {tmp : Obj} (hv1 : Boxed w1 B t v) (hrow : W.ownsRow n₀ e size v k xs)
    (hgrow : (W.alloc tmp).grownBy w1 v.ownBlock) (v' : Value) (h1 : T ≠ e) (h2 : T ≠ t) : KT T W (w1.setCell ⟨B, 0, none⟩ v') := by
  refine (KT.alloc T W tmp).t ((KT.grown hgrow (own_type (hrow.alloc tmp) h1)).t (KT.grown (grownBy_setCell' w1 B v') ?_))
  intro r e cs hR
  cases e
  unfold Row at hR
  rw [show w1.heap[B]? = _ from hv1] at hR
  cases hR
  exact h2 rfl
theorem keeps_below {W W' : World} (h : Below W.heap.size W W') : KeepsOthers W W' := KeepsOthers.of_grownBy (grown_below h) (fun _ _ e => by cases e)
theorem cells3_new (w : World) (x y z : Value) (t : TypeId) : ∀ j u, [x, y, z][j]? = some u → (w.alloc (.cells #[x, y, z] t)).cell? ((⟨w.heap.size, 0, none⟩ : Addr).add j) = some u := by
  intro j u hj
  match j, hj with
  | 0, hj => simp at hj; subst hj; simp [Addr.add]
  | 1, hj => simp at hj; subst hj; simp [Addr.add]
  | 2, hj => simp at hj; subst hj; simp [Addr.add]
  | k + 3, hj => cases hj
theorem classes_in (F : Fence) (n : Nat) (h5 : F.fn 40) (hro : F.round = none) (w : World) :
    CallsIn F n Tryz.prog 40 #[] w fun e w' => e = .returned (.func (.func 72) #[] #[]) ∧ w' = w := by
  refine callsIn_of_wp Tryz.func40 rfl h5 ?_ hro
  simp only [Tryz.ntmps40, List.size_toArray, List.length_nil, Nat.reduceSub, Array.replicate_succ, Array.replicate_zero, List.push_toArray, List.append_toArray, List.nil_append]
  gi_wp2
  go_ret
  exact ⟨rfl, rfl⟩

theorem classes_stops' (F : Fence) (n : Nat) (h6 : F.fn 72) (hro : F.round = none) (hn : 1 ≤ n) (w : World) :
    SeqStopsK F n Tryz.prog 72 #[] (fun x : Fin 160 => #[Value.agg #[.bool (kH x), .int .i64 (kL x), .int .i64 (kG x)]]) (KT 4) (fun xs => xs = allK) (fun pre => pre <+: allK) 160 w := classes_stops F n h6 hro hn w

set_option maxRecDepth 100000 in
set_option maxHeartbeats 4000000 in
theorem Find_in (nn lo hi : Int) (w : World) (hz : zE nn = 0) :
    CallsIn Fence.wide 3 Tryz.prog 12 #[.int .i64 nn, .agg #[.int .i64 lo, .int .i64 hi]] w fun e W' => ∃ v, e = .returned (.tuple #[v, .int .i64 0]) ∧
      W'.ownsRow w.heap.size 40 3 v (fndK nn lo hi allK).length ((fndK nn lo hi allK).flatMap cellsK) ∧ Below w.heap.size w W' := by
  obtain ⟨i0, hi0, hz0, hz1, hz2⟩ := info_parts infoC
  have hnn := (zE_ok.1 hz).2
  have Hz := Lib.hid hz
  clear hz
  refine callsIn_of_wp_marks Tryz.func12 rfl trivial ?_ rfl
  simp only [Tryz.ntmps12, List.size_toArray, List.length_cons, List.length_nil, Nat.reduceAdd, Nat.reduceSub, Array.replicate_succ, Array.replicate_zero, List.push_toArray, List.append_toArray, List.nil_append, List.cons_append]
  gi_wp2_with (first | (refine ⟨trivial, ?_⟩; gi_at_call 39; refine (callsIn_wide.2 (sized_c _ _)).mono ?_; rintro e w' ⟨rfl, rfl⟩; rw [Hz.out]) | (refine ⟨trivial, ?_⟩; gi_at_call 40; refine (classes_in Fence.wide 2 trivial rfl _).mono ?_; rintro e w' ⟨rfl, rfl⟩))
  obtain ⟨W0, hW0⟩ : ∃ W0, ((w.alloc (.cells #[.int .i64 nn] 3)).alloc (.cells #[.int .i64 lo, .int .i64 hi] 23)).alloc (.cells #[.slice none 0 0] 24) = W0 := ⟨_, rfl⟩
  have hsz : W0.heap.size = w.heap.size + 3 := by rw [← hW0]; simp
  have bO : Boxed W0 (w.heap.size + 1 + 1) 24 (.slice none 0 0) := by
    rw [← hW0]
    simpa using Boxed.new ((w.alloc (.cells #[.int .i64 nn] 3)).alloc (.cells #[.int .i64 lo, .int .i64 hi] 23)) 24 (.slice none 0 0)
  have rN0 : Row W0 w.heap.size #[.int .i64 nn] 3 := by rw [← hW0]; exact ((Row.new w _ _).alloc _).alloc _
  have rL0 : Row W0 (w.heap.size + 1) #[.int .i64 lo, .int .i64 hi] 23 := by
    rw [← hW0]
    have := (Row.new (w.alloc (.cells #[.int .i64 nn] 3)) #[.int .i64 lo, .int .i64 hi] 23).alloc (.cells #[.slice none 0 0] 24)
    simpa using this
  have hB0 : Below w.heap.size w W0 := by rw [← hW0]; exact (((Below.refl _ w).alloc (Nat.le_refl _) _).alloc (by simp) _).alloc (by simp; omega) _
  rw [hW0]
  clear hW0
  refine wpIn_rangeFunc_ownH rfl (by omega) (gf := 72) (lb := #[]) rfl trivial (enters_of Tryz.func72 (by kernel_rfl) rfl)
    (classes_stops' Fence.wide 2 trivial rfl (by omega) W0) KT.t (fun W l o o' _ h ho _ => KT.b W l o o' h ho) (Below.refl _ _) (fun _ => rfl)
    (fun pre W => ((∃ v, Boxed W (w.heap.size + 1 + 1) 24 v ∧ W.ownsRow w.heap.size 40 3 v (fndK nn lo hi pre).length ((fndK nn lo hi pre).flatMap cellsK) ∧ True) ∧ Row W w.heap.size #[.int .i64 nn] 3 ∧ Row W (w.heap.size + 1) #[.int .i64 lo, .int .i64 hi] 23) ∧ Below w.heap.size w W)
    (fun _ _ _ => False)
    (OwnFrom.and (OwnFrom.and (Own.from (holdsRow_own w.heap.size (w.heap.size + 1 + 1) 24 40 3 (fun pre => (fndK nn lo hi pre).length) (fun pre => (fndK nn lo hi pre).flatMap cellsK) (fun _ _ => True)) _) (OwnFrom.and (Own.from (row_own _ _ _) _) (Own.from (row_own _ _ _) _))) (ownFrom_below (Nat.le_refl _) (by omega)))
    (fun _ _ _ _ _ hs _ _ => hs)
    ⟨⟨⟨_, bO, World.ownsRow_nil _ _ _ _, trivial⟩, rN0, rL0⟩, hB0⟩
    (fun x a' W => ∃ Bx, w.heap.size + 1 + 1 < Bx ∧ Row W Bx #[.bool (kH x), .int .i64 (kL x), .int .i64 (kG x)] 40 ∧ a' = { tmps := #[.int .i64 nn, .agg #[.int .i64 lo, .int .i64 hi], .pointer (some ⟨w.heap.size, 0, none⟩), .pointer (some ⟨w.heap.size + 1, 0, none⟩), .slice none 0 0, .int .i64 0, .int .i64 0, .pointer (some ⟨w.heap.size + 1 + 1, 0, none⟩), .pointer (some ⟨Bx, 0, none⟩), .int .i64 nn, .int .i64 0, .int .i64 0, .bool false, undef, .func (.func 72) #[] #[], .agg #[.bool (kH x), .int .i64 (kL x), .int .i64 (kG x)], undef, undef, undef, undef, undef, undef, undef, undef, undef, undef], defers := [] })
    (fun x a' _ X Y row hs hg hr => by obtain ⟨Bx, h1, h2, h3⟩ := hs; exact ⟨Bx, h1, row_own Bx _ 40 () X Y row h2 hg (fun r e => (hr r e).2), h3⟩)
    ?assign ?body ?done ?stop
  case assign =>
    rintro l pre x W K ⟨⟨⟨v, hv, hrow, _⟩, rN, rL⟩, hB⟩ hK
    gi_wp2
    exact hK _ _ ((KeepsOthers.alloc _ _).from _) (KT.alloc _ _ _) ⟨⟨⟨v, hv.alloc _, hrow.alloc _, trivial⟩, rN.alloc _, rL.alloc _⟩, hB.alloc hB.size _⟩ ⟨W.heap.size, hv.lt, Row.new W _ _, rfl⟩
  case body =>
    rintro l pre x a' W hl ⟨r, hr⟩ ⟨⟨⟨v, hv, hrow, _⟩, rN, rL⟩, hB⟩ ⟨Bx, hBx, rX, rfl⟩ hlt
    have cO := hv.cell
    have cN := rN.cell
    have cL := rL.cell
    have cX := rX.cell
    have hk := k_bd x
    have hmx : Tryz.prog.follows .mixedOrders = true := by kernel_rfl
    have hD1 : hasD nn lo hi x = decide (dLow nn (kH x) (kL x) (kG x) = lo ∧ dHigh nn (kH x) (kL x) (kG x) = hi) := rfl
    have HD := Lib.hid hD1
    clear hD1
    have hdv := fun W => deviations_c nn (kL x) (kG x) (kH x) W hnn hk.2.2.1 hk.2.2.2 hk.1 hk.2.1
    generalize dLow nn (kH x) (kL x) (kG x) = da at *
    generalize dHigh nn (kH x) (kL x) (kG x) = db at *
    have HV := Lib.hid hdv
    clear hdv hk
    by_cases h1 : da = lo
    · by_cases h2 : db = hi
      · have hh : hasD nn lo hi x = true := by rw [HD.out]; simp [h1, h2]
        have HH := Lib.hid hh
        clear hh
        subst h1 h2
        gi_wp2_with fail
        gi_region_with_o (refine ⟨trivial, ?_⟩; gi_at_call 41; refine (CallsIn.inRound l (callsIn_wide.2 (HV.out _))).mono ?_; rintro e w' ⟨rfl, hbb⟩; (first | (have hbW : Below W.heap.size W w' := hbb) | (have hbW : Below W.heap.size W w' := (Below.refl _ W).drew.trans hbb)); have rN2 := rN.next hbW; have rL2 := rL.next hbW; have rX2 := rX.next hbW; have cN2 := rN2.cell; have cL2 := rL2.cell; have cX2 := rX2.cell)
        all_goals
          have hg2 := grown_below hbW
          have hv2 := hv.kept hg2 (by simp)
          have hrow2 := hrow.kept hg2 (by cases v.ownBlock <;> simp)
          have hc2 := hv2.cell
          have hB2 := hB.trans (hbW.mono hB.size)
          have hpl : (fndK nn da db pre).length ≤ pre.length := List.length_filter_le _ _
          have hsz2 := hB2.size
          gi_wp2_with (gi_at_builtin; refine wpListIn_append_own _ rfl _ _ 24 rfl w.heap.size 40 i0 (.agg #[.bool false, .int .i64 0, .int .i64 0]) 3 24 Tryz.underlying24 hi0 hz0 hz1 hz2 rfl (by decide) _ _ _ rfl (hrow2.alloc _) ⟨w'.heap.size, 0, none⟩ 1 1 [.bool (kH x), .int .i64 (kL x), .int .i64 (kG x)] rfl rfl (cells3_new _ _ _ _ _) (by simp [Value.oneCell']) (by simp [maxLen]; omega) (by omega) (by simp; omega) ?_; intro v' w1 hown' hgrow _; obtain ⟨g', cap', rfl⟩ := ownsRow_succ hown'; obtain ⟨hv1, hv3, hr3, hk3, hb3⟩ := hv2.appended (by decide) hrow2 hsz2 (by omega) hown' hgrow; have hc1 := hv1.cell; have hf1 := hv1.frozen)
          have HW := KT.appended (T := 4) hv1 hrow2 hgrow (.slice (some ⟨g', 0, none⟩) ((fndK nn da db pre).length + 1) cap') (by decide) (by decide)
          exact ⟨((keeps_below hbW).trans hk3).from _, (KT.below hbW).t HW, ⟨⟨⟨_, hv3, by rw [fnd_hit pre HH.out]; simpa [cellsK] using hr3, trivial⟩, KT.appended (T := 3) hv1 hrow2 hgrow _ (by decide) (by decide) _ _ rN2, KT.appended (T := 23) hv1 hrow2 hgrow _ (by decide) (by decide) _ _ rL2⟩, hB2.trans hb3⟩⟩
      · have hh : hasD nn lo hi x = false := by rw [HD.out]; simp [h2]
        have HH := Lib.hid hh
        clear hh
        gi_wp2_with fail
        gi_region_with_o (refine ⟨trivial, ?_⟩; gi_at_call 41; refine (CallsIn.inRound l (callsIn_wide.2 (HV.out _))).mono ?_; rintro e w' ⟨rfl, hbb⟩; (first | (have hbW : Below W.heap.size W w' := hbb) | (have hbW : Below W.heap.size W w' := (Below.refl _ W).drew.trans hbb)); have rN2 := rN.next hbW; have rL2 := rL.next hbW; have rX2 := rX.next hbW; have cN2 := rN2.cell; have cL2 := rL2.cell; have cX2 := rX2.cell)
        all_goals
          have hg2 := grown_below hbW
          have hv2 := hv.kept hg2 (by simp)
          have hrow2 := hrow.kept hg2 (by cases v.ownBlock <;> simp)
          gi_wp2
          exact ⟨(keeps_below hbW).from _, KT.below hbW, ⟨⟨⟨v, hv2, by rw [fnd_miss pre HH.out]; exact hrow2, trivial⟩, rN2, rL2⟩, hB.trans (hbW.mono hB.size)⟩⟩
    · have hh : hasD nn lo hi x = false := by rw [HD.out]; simp [h1]
      have HH := Lib.hid hh
      clear hh
      gi_wp2_with fail
      gi_region_with_o (refine ⟨trivial, ?_⟩; gi_at_call 41; refine (CallsIn.inRound l (callsIn_wide.2 (HV.out _))).mono ?_; rintro e w' ⟨rfl, hbb⟩; (first | (have hbW : Below W.heap.size W w' := hbb) | (have hbW : Below W.heap.size W w' := (Below.refl _ W).drew.trans hbb)); have rN2 := rN.next hbW; have rL2 := rL.next hbW; have rX2 := rX.next hbW; have cN2 := rN2.cell; have cL2 := rL2.cell; have cX2 := rX2.cell)
      all_goals
        have hg2 := grown_below hbW
        have hv2 := hv.kept hg2 (by simp)
        have hrow2 := hrow.kept hg2 (by cases v.ownBlock <;> simp)
        gi_wp2
        exact ⟨(keeps_below hbW).from _, KT.below hbW, ⟨⟨⟨v, hv2, by rw [fnd_miss pre HH.out]; exact hrow2, trivial⟩, rN2, rL2⟩, hB.trans (hbW.mono hB.size)⟩⟩
  case done =>
    rintro D ys W hD rfl ⟨⟨⟨v, hv, hrow, _⟩, rN, rL⟩, hB⟩ hK
    have hc := hv.cell
    gi_wp2
    refine ⟨by simp, .inl ⟨_, _, rfl, run_takeDeferred hK, ?_⟩⟩
    exact ⟨_, results_tmp2 rfl _ _ _, v, rfl, ownsRow_putObj hrow _ hK rfl, hB.trans (belowK_b (w := W0) (by omega) W D _ _ hD hK rfl rfl)⟩
  case stop =>
    rintro D c pre W _ _ h _
    exact h.elim

/-- Find at a right size. -/
theorem Find_ok (nn lo hi : Int) (w : World) (hz : zE nn = 0) :
    Calls Tryz.prog 12 #[.int .i64 nn, .agg #[.int .i64 lo, .int .i64 hi]] w fun e W' => ∃ v, e = .returned (.tuple #[v, .int .i64 0]) ∧
      W'.ownsRow w.heap.size 40 3 v (fndK nn lo hi allK).length ((fndK nn lo hi allK).flatMap cellsK) ∧ Below w.heap.size w W' :=
  (callsIn_wide (n := 3)).1 (Find_in nn lo hi w hz)
end Go.Proofs.YtldghloflegpmaaGreatDoor

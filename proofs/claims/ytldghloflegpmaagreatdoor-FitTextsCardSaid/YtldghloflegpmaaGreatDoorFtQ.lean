/- Contract of package fit: Parse. -/
import Derived.Test.YtldghloflegpmaaGreatDoorFtP
namespace Go.Proofs.YtldghloflegpmaaGreatDoor
open Go.RowKit Go.Shelf Pu Go.Lib

/-- What a text of a class reads as; 0 for wrong ones. -/
def phB (l : List UInt8) : Bool := if prsE l = 0 then decide ((l.headD 0).toNat < 97) else false
def plI (l : List UInt8) : Int := if prsE l = 0 then pLet (l.headD 0) else 0
def pgI (l : List UInt8) : Int := if prsE l = 0 then dNum (l.drop 1) else 0
theorem prsV_is (l : List UInt8) : prsV l = .tuple #[.agg #[.bool (phB l), .int .i64 (plI l), .int .i64 (pgI l)], .int .i64 (prsE l)] := by
  unfold prsV phB plI pgI clsV
  by_cases h : prsE l = 0
  · rw [if_pos h, if_pos h, if_pos h, if_pos h, h]
  · rw [if_neg h, if_neg h, if_neg h, if_neg h]
/-- The three parts of a text of a fit. -/
def p1 (l : List UInt8) : List UInt8 := (Lib.cut l [32]).1
def p2 (l : List UInt8) : List UInt8 := (Lib.cut (Lib.cut l [32]).2.1 [47]).1
def p3 (l : List UInt8) : List UInt8 := (Lib.cut (Lib.cut l [32]).2.1 [47]).2.1
/-- Whether a text is that of a right fit. -/
def goodT (l : List UInt8) : Prop := prsE (p2 l) = 0 ∧ prsE (p3 l) = 0 ∧ fE (thV (p1 l)) (phB (p2 l)) (plI (p2 l)) (pgI (p2 l)) (phB (p3 l)) (plI (p3 l)) (pgI (p3 l)) = 0 ∧
  txtL (thV (p1 l)) (plI (p2 l)) (pgI (p2 l)) (plI (p3 l)) (pgI (p3 l)) = l
/-- A fit and an error. -/
def fitV (n : Int) (hh : Bool) (hl hg : Int) (sh : Bool) (sl sg e : Int) : Value := .tuple #[.agg (fitC n hh hl hg sh sl sg), .int .i64 e]
instance (l : List UInt8) : Decidable (goodT l) := by unfold goodT; infer_instance
/-- What Parse returns. -/
def fpV (l : List UInt8) : Value :=
  if 4096 < l.length then fitV 0 false 0 0 false 0 0 17
  else if goodT l then fitV (thV (p1 l)) (phB (p2 l)) (plI (p2 l)) (pgI (p2 l)) (phB (p3 l)) (plI (p3 l)) (pgI (p3 l)) 0 else fitV 0 false 0 0 false 0 0 4
theorem cut_len (l sep : List UInt8) : (Lib.cut l sep).1.length ≤ l.length ∧ (Lib.cut l sep).2.1.length ≤ l.length := by
  unfold Lib.cut
  split
  · simp; omega
  · simp
theorem infoFit7 : (Tryz.prog.info? 42).map (·.size) = some 7 := by kernel_rfl
theorem fp_results {tmps : Array Value} {w : World} {b : Nat} {cs : Array Value} {e : Int} (h2 : tmps.getD 2 undef = .pointer (some ⟨b, 0, none⟩)) (h3 : tmps.getD 3 undef = .int .i64 e) (hr : Row w b cs 42) (hs : (Tryz.prog.info? 42).map (·.size) = some cs.size) :
    (results Tryz.f35 tmps).run Tryz.prog w = .ok (.tuple #[.agg cs, .int .i64 e]) w := by
  have h2' : tmps[2]?.getD undef = .pointer (some ⟨b, 0, none⟩) := by simpa using h2
  have h3' : tmps[3]?.getD undef = .int .i64 e := by simpa using h3
  simp [results, Tryz.results35, h2', h3', asAddr, run_loadVar_row (P := Tryz.prog) w b 42 42 cs (0, 0) _ hr Tryz.underlying42 rfl hs]
theorem fit_put7 {w : World} {b : Nat} {n : Int} {hh : Bool} {hl hg : Int} {sh : Bool} {sl sg : Int} (h : Row w b (fitC n hh hl hg sh sl sg) 42) (n' : Int) (hh' : Bool) (hl' hg' : Int) (sh' : Bool) (sl' sg' : Int) :
    Row (((((((w.setCell ⟨b, 0, none⟩ (.int .i64 n')).setCell ⟨b, 1, none⟩ (.bool hh')).setCell ⟨b, 2, none⟩ (.int .i64 hl')).setCell ⟨b, 3, none⟩ (.int .i64 hg')).setCell ⟨b, 4, none⟩ (.bool sh')).setCell ⟨b, 5, none⟩ (.int .i64 sl')).setCell ⟨b, 6, none⟩ (.int .i64 sg')) b (fitC n' hh' hl' hg' sh' sl' sg') 42 := by
  have := ((((((h.put 0 (.int .i64 n')).put 1 (.bool hh')).put 2 (.int .i64 hl')).put 3 (.int .i64 hg')).put 4 (.bool sh')).put 5 (.int .i64 sl')).put 6 (.int .i64 sg')
  simpa using this

set_option maxHeartbeats 2000000 in
theorem fParse_long (s : ByteArray) (w : World) (h : 4096 < s.size) (_hm : s.size ≤ 9223372036854775807) : Calls Tryz.prog 35 #[.string s] w fun e w' => e = .returned (fitV 0 false 0 0 false 0 0 17) ∧ Below w.heap.size w w' := by
  go_enter Tryz.func35, Tryz.ntmps35
  have hr := Row.new w (fitC 0 false 0 0 false 0 0) 42
  have hb := (Below.refl _ w).alloc (Nat.le_refl _) (.cells (fitC 0 false 0 0 false 0 0) 42)
  have hc := hr.cell
  have hf := hr.frozen
  go_wp2
  exact bodyPost_ret (fp_results (cs := fitC 0 false 0 0 false 0 0) (e := 17) rfl rfl hr infoFit7) rfl ⟨rfl, hb⟩

theorem cutS_c (s : ByteArray) (c : UInt8) (w : World) (hs : s.size ≤ 4096) (hG : Gw w) : Calls Tryz.prog 64 #[.string s, .string ⟨#[c]⟩] w
    fun e w' => e = .returned (.tuple #[.string ⟨(Lib.cut s.data.toList [c]).1.toArray⟩, .string ⟨(Lib.cut s.data.toList [c]).2.1.toArray⟩, .bool (Lib.cut s.data.toList [c]).2.2]) ∧ Below w.heap.size w w' := by
  obtain ⟨m, hm⟩ := hG.most
  exact (Tryz.strings_Cut s ⟨#[c]⟩ m w (by omega) hm).mono fun e w' ⟨a, k, h⟩ => ⟨a, by rw [h]; exact below_drewN _ _⟩
set_option maxRecDepth 100000 in
set_option maxHeartbeats 4000000 in
theorem fParse_short (s : ByteArray) (w : World) (h : s.size ≤ 4096) (hG : Gw w) : Calls Tryz.prog 35 #[.string s] w fun e w' => e = .returned (fpV s.data.toList) ∧ Below w.heap.size w w' := by
  have hlen : s.data.toList.length = s.size := by simp
  have l1 := cut_len s.data.toList [32]
  have l2 := cut_len (Lib.cut s.data.toList [32]).2.1 [47]
  have hV : fpV s.data.toList = if goodT s.data.toList then fitV (thV (p1 s.data.toList)) (phB (p2 s.data.toList)) (plI (p2 s.data.toList)) (pgI (p2 s.data.toList)) (phB (p3 s.data.toList)) (plI (p3 s.data.toList)) (pgI (p3 s.data.toList)) 0 else fitV 0 false 0 0 false 0 0 4 := by
    unfold fpV; rw [if_neg (by omega)]
  have hgood : goodT s.data.toList ↔ (prsE (p2 s.data.toList) = 0 ∧ prsE (p3 s.data.toList) = 0 ∧ fE (thV (p1 s.data.toList)) (phB (p2 s.data.toList)) (plI (p2 s.data.toList)) (pgI (p2 s.data.toList)) (phB (p3 s.data.toList)) (plI (p3 s.data.toList)) (pgI (p3 s.data.toList)) = 0 ∧
    txtL (thV (p1 s.data.toList)) (plI (p2 s.data.toList)) (pgI (p2 s.data.toList)) (plI (p3 s.data.toList)) (pgI (p3 s.data.toList)) = s.data.toList) := Iff.rfl
  have hc1 := fun w hG => cutS_c s 32 w h hG
  have hc2 := fun w hG => cutS_c ⟨(Lib.cut s.data.toList [32]).2.1.toArray⟩ 47 w (by rw [mk_size]; omega) hG
  have ht := fun w hG => thousandths_c ⟨(p1 s.data.toList).toArray⟩ w (by rw [mk_size]; unfold p1; omega) hG
  have hp2 := fun w => Parse_c ⟨(p2 s.data.toList).toArray⟩ w (by rw [mk_size]; unfold p2; omega)
  have hp3 := fun w => Parse_c ⟨(p3 s.data.toList).toArray⟩ w (by rw [mk_size]; unfold p3; omega)
  rw [show (⟨(p1 s.data.toList).toArray⟩ : ByteArray).data.toList = p1 s.data.toList from rfl] at ht
  rw [show (⟨(p2 s.data.toList).toArray⟩ : ByteArray).data.toList = p2 s.data.toList from rfl, prsV_is] at hp2
  rw [show (⟨(p3 s.data.toList).toArray⟩ : ByteArray).data.toList = p3 s.data.toList from rfl, prsV_is] at hp3
  rw [show (⟨(Lib.cut s.data.toList [32]).2.1.toArray⟩ : ByteArray).data.toList = (Lib.cut s.data.toList [32]).2.1 from rfl, show (Lib.cut (Lib.cut s.data.toList [32]).2.1 [47]).1 = p2 s.data.toList from rfl, show (Lib.cut (Lib.cut s.data.toList [32]).2.1 [47]).2.1 = p3 s.data.toList from rfl] at hc2
  rw [show (Lib.cut s.data.toList [32]).1 = p1 s.data.toList from rfl] at hc1
  generalize (Lib.cut (Lib.cut s.data.toList [32]).2.1 [47]).2.2 = ok2 at *
  generalize (Lib.cut s.data.toList [32]).2.2 = ok1 at *
  obtain ⟨TR, hTR⟩ : ∃ T : ByteArray, ⟨(Lib.cut s.data.toList [32]).2.1.toArray⟩ = T := ⟨_, rfl⟩
  rw [hTR] at hc1 hc2
  clear l1 l2 hTR
  generalize thV (p1 s.data.toList) = n at *
  generalize phB (p2 s.data.toList) = hh at *
  generalize plI (p2 s.data.toList) = hl at *
  generalize pgI (p2 s.data.toList) = hg at *
  generalize prsE (p2 s.data.toList) = he at *
  generalize phB (p3 s.data.toList) = sh at *
  generalize plI (p3 s.data.toList) = sl at *
  generalize pgI (p3 s.data.toList) = sg at *
  generalize prsE (p3 s.data.toList) = ge at *
  obtain ⟨T1, hT1⟩ : ∃ T : ByteArray, ⟨(p1 s.data.toList).toArray⟩ = T := ⟨_, rfl⟩
  obtain ⟨T2, hT2⟩ : ∃ T : ByteArray, ⟨(p2 s.data.toList).toArray⟩ = T := ⟨_, rfl⟩
  obtain ⟨T3, hT3⟩ : ∃ T : ByteArray, ⟨(p3 s.data.toList).toArray⟩ = T := ⟨_, rfl⟩
  rw [hT1] at hc1 ht
  rw [hT2] at hc2 hp2
  rw [hT3] at hc2 hp3
  have HC1 := Lib.hid hc1
  have HC2 := Lib.hid hc2
  have HT := Lib.hid ht
  have HP2 := Lib.hid hp2
  have HP3 := Lib.hid hp3
  have HV := Lib.hid hV
  have HG := Lib.hid hgood
  have h' : ¬ 4096 < s.size := by omega
  clear hT1 hT2 hT3 hc1 hc2 ht hp2 hp3 hV hgood hlen h
  go_enter Tryz.func35, Tryz.ntmps35
  go_wp2_with fail
  have hr := Row.new w (fitC 0 false 0 0 false 0 0) 42
  have hb := (Below.refl _ w).alloc (Nat.le_refl _) (.cells (fitC 0 false 0 0 false 0 0) 42)
  generalize w.alloc (.cells (fitC 0 false 0 0 false 0 0) 42) = w1 at *
  refine (HC1.out _ (hG.next hb)).mono ?_
  rintro e w2 ⟨rfl, hbb⟩
  have hr := hr.next hbb
  have hb := hb.trans (hbb.mono hb.size)
  clear hbb
  go_wp2_with fail
  refine (HC2.out _ (hG.next hb)).mono ?_
  rintro e w3 ⟨rfl, hbb⟩
  have hr := hr.next hbb
  have hb := hb.trans (hbb.mono hb.size)
  clear hbb
  go_wp2_with fail
  refine (HT.out _ (hG.next hb)).mono ?_
  rintro e w4 ⟨rfl, hbb⟩
  have hlt4 := (hr.next hbb).lt
  have hr := (hr.next hbb).alloc (.cells (fitC n false 0 0 false 0 0) 42)
  have hb := hb.trans (hbb.mono hb.size)
  have hx := Row.new w4 (fitC n false 0 0 false 0 0) 42
  have hxs := hb.size
  have hb := hb.alloc hb.size (.cells (fitC n false 0 0 false 0 0) 42)
  clear hbb
  go_wp2_with fail
  obtain ⟨X, hX⟩ : ∃ X, w4.heap.size = X := ⟨_, rfl⟩
  rw [hX] at hx hxs hlt4 ⊢
  have hXw : w.heap.size ≠ X := by omega
  generalize w4.alloc (.cells (fitC n false 0 0 false 0 0) 42) = w5 at *
  clear hX
  refine (HP2.out _).mono ?_
  rintro e w6 ⟨rfl, hbb⟩
  have hr := hr.next hbb
  have hx := hx.next hbb
  have hb := hb.trans (hbb.mono hb.size)
  clear hbb
  have hc := hx.cell
  have hf := hx.frozen
  go_wp2_with fail
  have hx7 : Row (((w6.setCell ⟨X, 1, none⟩ (.bool hh)).setCell ⟨X, 2, none⟩ (.int .i64 hl)).setCell ⟨X, 3, none⟩ (.int .i64 hg)) X (fitC n hh hl hg false 0 0) 42 := by
    have := ((hx.put 1 (.bool hh)).put 2 (.int .i64 hl)).put 3 (.int .i64 hg)
    simpa using this
  have hr7 := ((hr.other (p := ⟨X, 1, none⟩) hXw (.bool hh)).other (p := ⟨X, 2, none⟩) hXw (.int .i64 hl)).other (p := ⟨X, 3, none⟩) hXw (.int .i64 hg)
  have hb7 := ((hb.setCell (p := ⟨X, 1, none⟩) hxs (.bool hh)).setCell (p := ⟨X, 2, none⟩) hxs (.int .i64 hl)).setCell (p := ⟨X, 3, none⟩) hxs (.int .i64 hg)
  clear hc hf hr hx hb
  generalize ((w6.setCell ⟨X, 1, none⟩ (.bool hh)).setCell ⟨X, 2, none⟩ (.int .i64 hl)).setCell ⟨X, 3, none⟩ (.int .i64 hg) = w7 at *
  refine (HP3.out _).mono ?_
  rintro e w8 ⟨rfl, hbb⟩
  have hr := hr7.next hbb
  have hx := hx7.next hbb
  have hb := hb7.trans (hbb.mono hb7.size)
  clear hbb hr7 hx7 hb7
  have hx9 : Row (((w8.setCell ⟨X, 4, none⟩ (.bool sh)).setCell ⟨X, 5, none⟩ (.int .i64 sl)).setCell ⟨X, 6, none⟩ (.int .i64 sg)) X (fitC n hh hl hg sh sl sg) 42 := by
    have := ((hx.put 4 (.bool sh)).put 5 (.int .i64 sl)).put 6 (.int .i64 sg)
    simpa using this
  have hr9 := ((hr.other (p := ⟨X, 4, none⟩) hXw (.bool sh)).other (p := ⟨X, 5, none⟩) hXw (.int .i64 sl)).other (p := ⟨X, 6, none⟩) hXw (.int .i64 sg)
  have hb9 := ((hb.setCell (p := ⟨X, 4, none⟩) hxs (.bool sh)).setCell (p := ⟨X, 5, none⟩) hxs (.int .i64 sl)).setCell (p := ⟨X, 6, none⟩) hxs (.int .i64 sg)
  have hc := hx.cell
  have hf := hx.frozen
  have hcr := hr.cell
  have hfr := hr.frozen
  by_cases h1 : he = 0 ∧ ge = 0
  case neg =>
    have hv : fpV s.data.toList = fitV 0 false 0 0 false 0 0 4 := by rw [HV.out, if_neg]; rw [HG.out]; exact fun h => h1 ⟨h.1, h.2.1⟩
    have Hv := Lib.hid hv
    clear hv
    by_cases h2 : he = 0
    · have h3 : (ge == 0) = false := by simpa using fun h => h1 ⟨h2, h⟩
      subst h2
      clear h1
      go_wp2
      exact bodyPost_ret (fp_results (cs := fitC 0 false 0 0 false 0 0) (e := 4) rfl rfl (fit_put7 hr9 0 false 0 0 false 0 0) infoFit7) rfl ⟨by rw [Hv.out]; rfl, (((((((hb9.setCell (Nat.le_refl _) _).setCell (Nat.le_refl _) _).setCell (Nat.le_refl _) _).setCell (Nat.le_refl _) _).setCell (Nat.le_refl _) _).setCell (Nat.le_refl _) _).setCell (Nat.le_refl _) _)⟩
    · have h3 : (he == 0) = false := by simpa using h2
      clear h1
      go_wp2
      exact bodyPost_ret (fp_results (cs := fitC 0 false 0 0 false 0 0) (e := 4) rfl rfl (fit_put7 hr9 0 false 0 0 false 0 0) infoFit7) rfl ⟨by rw [Hv.out]; rfl, (((((((hb9.setCell (Nat.le_refl _) _).setCell (Nat.le_refl _) _).setCell (Nat.le_refl _) _).setCell (Nat.le_refl _) _).setCell (Nat.le_refl _) _).setCell (Nat.le_refl _) _).setCell (Nat.le_refl _) _)⟩
  obtain ⟨rfl, rfl⟩ := h1
  go_wp2_with fail
  clear hc hf hcr hfr hr hx hb
  generalize ((w8.setCell ⟨X, 4, none⟩ (.bool sh)).setCell ⟨X, 5, none⟩ (.int .i64 sl)).setCell ⟨X, 6, none⟩ (.int .i64 sg) = w9 at *
  refine (Text_c n hh hl hg sh sl sg _ (hG.next hb9)).mono ?_
  rintro e w10 ⟨rfl, hbb⟩
  have hr := hr9.next hbb
  have hx := hx9.next hbb
  have hb := hb9.trans (hbb.mono hb9.size)
  clear hbb hr9 hx9 hb9
  have hc := hx.cell
  have hf := hx.frozen
  have hcr := hr.cell
  have hfr := hr.frozen
  by_cases hfe : fE n hh hl hg sh sl sg = 0
  case neg =>
    have hv : fpV s.data.toList = fitV 0 false 0 0 false 0 0 4 := by rw [HV.out, if_neg]; rw [HG.out]; exact fun h => hfe h.2.2.1
    have Hv := Lib.hid hv
    have ht : txtV n hh hl hg sh sl sg = .tuple #[.string ⟨#[]⟩, .int .i64 (fE n hh hl hg sh sl sg)] := by unfold txtV; rw [if_neg hfe]
    rw [ht]
    have h3 : (fE n hh hl hg sh sl sg == 0) = false := by simpa using hfe
    clear hv ht
    generalize fE n hh hl hg sh sl sg = x at *
    go_wp2
    exact bodyPost_ret (fp_results (cs := fitC 0 false 0 0 false 0 0) (e := 4) rfl rfl (fit_put7 hr 0 false 0 0 false 0 0) infoFit7) rfl ⟨by rw [Hv.out]; rfl, (((((((hb.setCell (Nat.le_refl _) _).setCell (Nat.le_refl _) _).setCell (Nat.le_refl _) _).setCell (Nat.le_refl _) _).setCell (Nat.le_refl _) _).setCell (Nat.le_refl _) _).setCell (Nat.le_refl _) _)⟩
  have ht : txtV n hh hl hg sh sl sg = .tuple #[.string ⟨(txtL n hl hg sl sg).toArray⟩, .int .i64 0] := by unfold txtV; rw [if_pos hfe]
  rw [ht]
  by_cases heq : txtL n hl hg sl sg = s.data.toList
  case neg =>
    have hv : fpV s.data.toList = fitV 0 false 0 0 false 0 0 4 := by rw [HV.out, if_neg]; rw [HG.out]; exact fun h => heq h.2.2.2
    have Hv := Lib.hid hv
    obtain ⟨T, hT⟩ : ∃ T : ByteArray, ⟨(txtL n hl hg sl sg).toArray⟩ = T := ⟨_, rfl⟩
    rw [hT]
    have hne : ¬ T.toList = s.toList := by
      rw [ByteArray.toList_eq, ByteArray.toList_eq, ← hT]
      exact heq
    have hbe : (T.toList == s.toList) = false := by simpa using hne
    clear hv ht hT
    go_wp2
    exact bodyPost_ret (fp_results (cs := fitC 0 false 0 0 false 0 0) (e := 4) rfl rfl (fit_put7 hr 0 false 0 0 false 0 0) infoFit7) rfl ⟨by rw [Hv.out]; rfl, (((((((hb.setCell (Nat.le_refl _) _).setCell (Nat.le_refl _) _).setCell (Nat.le_refl _) _).setCell (Nat.le_refl _) _).setCell (Nat.le_refl _) _).setCell (Nat.le_refl _) _).setCell (Nat.le_refl _) _)⟩
  have hv : fpV s.data.toList = fitV n hh hl hg sh sl sg 0 := by rw [HV.out, if_pos]; rw [HG.out]; exact ⟨by first | rfl | trivial, by first | rfl | trivial, hfe, heq⟩
  have Hv := Lib.hid hv
  have hs : (⟨(txtL n hl hg sl sg).toArray⟩ : ByteArray) = s := by rw [heq]
  rw [hs]
  clear hv ht hs heq hfe
  go_wp2
  exact bodyPost_ret (fp_results (cs := fitC n hh hl hg sh sl sg) (e := 0) rfl rfl (fit_put7 hr n hh hl hg sh sl sg) infoFit7) rfl ⟨by rw [Hv.out]; rfl, (((((((hb.setCell (Nat.le_refl _) _).setCell (Nat.le_refl _) _).setCell (Nat.le_refl _) _).setCell (Nat.le_refl _) _).setCell (Nat.le_refl _) _).setCell (Nat.le_refl _) _).setCell (Nat.le_refl _) _)⟩

theorem fParse_c (s : ByteArray) (w : World) (hs : s.size ≤ 9223372036854775807) (hG : Gw w) : Calls Tryz.prog 35 #[.string s] w fun e w' => e = .returned (fpV s.data.toList) ∧ Below w.heap.size w w' := by
  by_cases h : 4096 < s.size
  · have hlen : s.data.toList.length = s.size := by simp
    have : fpV s.data.toList = fitV 0 false 0 0 false 0 0 17 := by unfold fpV; rw [if_pos (by omega)]
    rw [this]
    exact fParse_long s w h hs
  · exact fParse_short s w (by omega) hG
end Go.Proofs.YtldghloflegpmaaGreatDoor

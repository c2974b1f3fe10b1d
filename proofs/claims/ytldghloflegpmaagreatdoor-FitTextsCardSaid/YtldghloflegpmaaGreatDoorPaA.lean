/- Contract of package grades: a text is read. -/
import Derived.Test.YtldghloflegpmaaGreatDoorRow
import Derived.Test.YtldghloflegpmaaGreatDoorShl
import Derived.Test.YtldghloflegpmaaGreatDoorPuP
import Derived.Lib.SmallJoins
namespace Go.Proofs.YtldghloflegpmaaGreatDoor
open Go.RowKit Pu Go.Lib

set_option maxRecDepth 100000 in
set_option maxHeartbeats 4000000 in
theorem Parse_short (s : ByteArray) (w : World) (h : s.size < 2) : Calls Tryz.prog 47 #[.string s] w fun e w' => e = .returned (.tuple #[.agg #[.bool false, .int .i64 0, .int .i64 0], .int .i64 4]) ∧ Below w.heap.size w w' := by
  go_enter Tryz.func47, Tryz.ntmps47
  go_wp2
  exact bodyPost_ret (v := .tuple #[.agg #[.bool false, .int .i64 0, .int .i64 0], .int .i64 4]) (by simp [results, Tryz.results47, go_sem]) rfl ⟨rfl, (Below.refl _ w).alloc (Nat.le_refl _) _⟩
set_option maxRecDepth 100000 in
set_option maxHeartbeats 4000000 in
theorem Parse_long (s : ByteArray) (w : World) (h : 4 < s.size) (_hm : s.size ≤ 9223372036854775807) : Calls Tryz.prog 47 #[.string s] w fun e w' => e = .returned (.tuple #[.agg #[.bool false, .int .i64 0, .int .i64 0], .int .i64 4]) ∧ Below w.heap.size w w' := by
  have h2 : ¬ s.size < 2 := by omega
  go_enter Tryz.func47, Tryz.ntmps47
  go_wp2
  exact bodyPost_ret (v := .tuple #[.agg #[.bool false, .int .i64 0, .int .i64 0], .int .i64 4]) (by simp [results, Tryz.results47, go_sem]) rfl ⟨rfl, (Below.refl _ w).alloc (Nat.le_refl _) _⟩

theorem extract_one (s : ByteArray) (h : 0 < s.size) : s.extract 0 1 = ⟨#[s[0]'h]⟩ := by
  cases s with
  | mk d =>
    cases d with
    | mk l =>
      cases l with
      | nil => simp [ByteArray.size] at h
      | cons b r =>
        apply ByteArray.ext
        simp [ByteArray.data_extract]
        rfl
theorem index_small (s : ByteArray) (h : 0 < s.size) (w : World) : Calls Tryz.prog 79 #[.string ⟨#[100, 101, 102, 103, 104, 106, 107, 109, 110, 112]⟩, .string (s.extract 0 1)] w
    fun e w' => e = .returned (.int .i64 (Lib.indexByte [100, 101, 102, 103, 104, 106, 107, 109, 110, 112] (s[0]'h))) ∧ w = w' := by
  rw [extract_one s h]
  exact (Tryz.strings_Index_one _ _ _).mono fun e w' ⟨a, b⟩ => ⟨a, b.symm⟩
theorem index_caps (s : ByteArray) (h : 0 < s.size) (w : World) : Calls Tryz.prog 79 #[.string ⟨#[68, 69, 70, 71, 72, 74, 75, 77, 78, 80]⟩, .string (s.extract 0 1)] w
    fun e w' => e = .returned (.int .i64 (Lib.indexByte [68, 69, 70, 71, 72, 74, 75, 77, 78, 80] (s[0]'h))) ∧ w = w' := by
  rw [extract_one s h]
  exact (Tryz.strings_Index_one _ _ _).mono fun e w' ⟨a, b⟩ => ⟨a, b.symm⟩
theorem upper_letters (w : World) : Calls Tryz.prog 80 #[.string ⟨#[100, 101, 102, 103, 104, 106, 107, 109, 110, 112]⟩] w
    fun e w' => e = .returned (.string ⟨#[68, 69, 70, 71, 72, 74, 75, 77, 78, 80]⟩) ∧ Below w.heap.size w w' :=
  (Tryz.strings_ToUpper_ascii ⟨#[100, 101, 102, 103, 104, 106, 107, 109, 110, 112]⟩ w (by decide) (ascii_of_all (by decide))).mono fun e w' ⟨a, b⟩ => ⟨by rw [a]; rfl, b⟩

/-- A class, and an error. -/
def clsV (h : Bool) (l g e : Int) : Value := .tuple #[.agg #[.bool h, .int .i64 l, .int .i64 g], .int .i64 e]
/-- What Parse returns. -/
def prsV (l : List UInt8) : Value := if prsE l = 0 then clsV (decide ((l.headD 0).toNat < 97)) (pLet (l.headD 0)) (dNum (l.drop 1)) 0 else clsV false 0 0 (prsE l)
theorem headD_get (s : ByteArray) (h : 0 < s.size) : s.data.toList.headD 0 = s[0]'h := by
  cases s with
  | mk d =>
    cases d with
    | mk l =>
      cases l with
      | nil => simp [ByteArray.size] at h
      | cons b r => rfl
theorem extract_drop (s : ByteArray) : (s.extract 1 s.size).data.toList = s.data.toList.drop 1 := by
  simp [ByteArray.data_extract]
  exact List.take_of_length_le (by simp)

set_option maxRecDepth 100000 in
set_option maxHeartbeats 4000000 in
theorem Parse_mid (s : ByteArray) (w : World) (h2 : 2 ≤ s.size) (h4 : s.size ≤ 4) : Calls Tryz.prog 47 #[.string s] w fun e w' => e = .returned (prsV s.data.toList) ∧ Below w.heap.size w w' := by
  have h2' : ¬ s.size < 2 := by omega
  have h4' : ¬ 4 < s.size := by omega
  have g0 : 0 < s.size := by omega
  have g1 : (1 : Int) ≤ (s.size : Int) := by omega
  have hcast : decide (((s[0]'g0).toNat : Int) < 97) = decide ((s[0]'g0).toNat < 97) := decide_eq_decide.2 (by omega)
  have Hcast := Lib.hid hcast
  clear hcast
  go_enter Tryz.func47, Tryz.ntmps47
  go_upto_region 3 with fail
  go_cut [4] (fun s4 wx => s4 = .pointer (some ⟨w.heap.size + 1, 0, none⟩) ∧ Row wx w.heap.size #[.bool false, .int .i64 0, .int .i64 0] 40 ∧
    Row wx (w.heap.size + 1) #[.bool (decide ((s[0]'g0).toNat < 97)), .int .i64 (Lib.indexByte [100, 101, 102, 103, 104, 106, 107, 109, 110, 112] (s[0]'g0)), .int .i64 0] 40 ∧ Below w.heap.size w wx)
  case first =>
    go_region_held3 (fun w' => True) (trivial)
      (first | (go_at_call 79; refine (index_small s g0 _).mono ?_; rintro e w' ⟨rfl, rfl⟩))
    all_goals (go_wp2_with fail; go_meet)
    all_goals
      refine ⟨rfl, ((Row.new w _ _).alloc _).drw, ?_, (((Below.refl _ w).alloc (Nat.le_refl _) _).alloc (by simp) _).drew⟩
      rw [← Hcast.out]
      have := (Row.new (w.alloc (.cells #[.bool false, .int .i64 0, .int .i64 0] 40)) #[.bool (decide (((s[0]'g0).toNat : Int) < 97)), .int .i64 (Lib.indexByte [100, 101, 102, 103, 104, 106, 107, 109, 110, 112] (s[0]'g0)), .int .i64 0] 40).drw
      simpa using this
  case rest =>
    obtain ⟨rfl, hr0, hr1, hb1⟩ := hcut
    obtain ⟨V, rfl⟩ : ∃ V, V = wc := ⟨_, rfl⟩
    have hc1 := hr1.cell
    have hf1 := hr1.frozen
    go_upto_if 24 with fail
    go_cut [] (fun wx => Row wx w.heap.size #[.bool false, .int .i64 0, .int .i64 0] 40 ∧
      Row wx (w.heap.size + 1) #[.bool (decide ((s[0]'g0).toNat < 97)), .int .i64 (pLet (s[0]'g0)), .int .i64 0] 40 ∧ Below w.heap.size w wx)
    case first =>
      by_cases hc : (s[0]'g0).toNat < 97
      · have e : pLet (s[0]'g0) = Lib.indexByte [68, 69, 70, 71, 72, 74, 75, 77, 78, 80] (s[0]'g0) := by unfold pLet; rw [if_pos hc]
        have E := Lib.hid e
        clear e
        go_wp2_with fail
        clear hc1 hf1
        go_region_held3 (fun w' => True) (trivial)
          (first | (go_at_call 79; refine (index_caps s g0 _).mono ?_; rintro e w' ⟨rfl, rfl⟩) | (go_at_call 80; refine (upper_letters _).mono ?_; rintro e w' ⟨rfl, hbb⟩; have hq0 := hr0.drw.next hbb; have hq1 := hr1.drw.next hbb; have hc1 := hq1.cell; have hf1 := hq1.frozen))
        all_goals (go_wp2_with fail; go_meet)
        rw [E.out]
        exact ⟨hq0.other (by simp) _, hq1.put 1 _, (((hb1.drew).trans (hbb.mono hb1.size)).setCell (by simp) _)⟩
      · have e : pLet (s[0]'g0) = Lib.indexByte [100, 101, 102, 103, 104, 106, 107, 109, 110, 112] (s[0]'g0) := by unfold pLet; rw [if_neg hc]
        have E := Lib.hid e
        clear e
        go_wp2_with fail
        go_meet
        rw [E.out]
        exact ⟨hr0, hr1, hb1⟩
    case rest =>
      obtain ⟨hr0, hr1, hb1⟩ := hcut
      obtain ⟨U, rfl⟩ : ∃ U, U = wc := ⟨_, rfl⟩
      clear hc1 hf1
      have hc1 := hr1.cell
      have hc0 := hr0.cell
      have hf0 := hr0.frozen
      obtain ⟨L, hL⟩ : ∃ L, pLet (s[0]'g0) = L := ⟨_, rfl⟩
      rw [hL] at hr1 hc1
      obtain ⟨d, hd⟩ : ∃ d, s.extract 1 s.size = d := ⟨_, rfl⟩
      have hds : d.size = s.size - 1 := by rw [← hd]; simp
      have hdl : d.data.toList = s.data.toList.drop 1 := by rw [← hd]; exact extract_drop s
      have hlen : s.data.toList.length = s.size := by simp
      have hE : prsE s.data.toList = if L < 0 then 4 else if ¬ Lib.trimS d.data.toList digC = [] then 4 else if (d.data.toList.headD 0).toNat = 48 ∧ 1 < d.data.toList.length then 4 else gE (dNum d.data.toList) := by
        unfold prsE; rw [if_neg (show ¬ (s.data.toList.length < 2 ∨ 4 < s.data.toList.length) by omega), headD_get s g0, hL, hdl]
      have hP : prsV s.data.toList = if prsE s.data.toList = 0 then clsV (decide ((s[0]'g0).toNat < 97)) L (dNum d.data.toList) 0 else clsV false 0 0 (prsE s.data.toList) := by
        unfold prsV; rw [headD_get s g0, hL, ← hdl]
      have HD := Lib.hid hds
      have HE := Lib.hid hE
      have HP := Lib.hid hP
      have h1n : d.data.toList ≠ [] := by
        intro e
        have h1 : d.data.toList.length = d.size := by simp
        rw [e, List.length_nil] at h1
        omega
      have H1 := Lib.hid h1n
      clear hL hds hE hP hdl hlen h1n
      by_cases h0 : L < 0
      · have e4 : prsE s.data.toList = 4 := by rw [HE.out]; (repeat' split) <;> first | rfl | exact absurd h0 ‹_›
        have e : prsV s.data.toList = clsV false 0 0 4 := by rw [HP.out, e4, if_neg (show ¬ (4 : Int) = 0 by decide)]
        have E := Lib.hid e
        clear e e4
        go_wp2
        exact bodyPost_ret (v := clsV false 0 0 4) (by simp [results, Tryz.results47, go_sem, hc0, clsV]) rfl ⟨by rw [E.out], ((hb1.setCell (by simp) _).setCell (by simp) _).setCell (by simp) _⟩
      · have d0 : 0 < d.size := by rw [HD.out]; omega
        have d0' : 0 < (d.size : Int) := by omega
        go_wp2_with fail
        refine (Tryz.strings_Trim_laid d ⟨#[48, 49, 50, 51, 52, 53, 54, 55, 56, 57]⟩ _ (by rw [HD.out]; omega) (by decide) (ascii_of_all (by decide))).mono ?_
        rintro e w3 ⟨rfl, hbb⟩
        obtain ⟨T, hT⟩ : ∃ T, Lib.trimS d.data.toList (ByteArray.mk #[48, 49, 50, 51, 52, 53, 54, 55, 56, 57]).data.toList = T := ⟨_, rfl⟩
        have hT' : Lib.trimS d.data.toList digC = T := hT
        rw [hT]
        have HT := Lib.hid hT'
        have hr0 := hr0.next hbb
        have hr1 := hr1.next hbb
        have hb3 := hb1.trans (hbb.mono hb1.size)
        clear hbb hT hT' hc0 hf0 hc1
        have hc1 := hr1.cell
        have hf1 := hr1.frozen
        have hc0 := hr0.cell
        have hf0 := hr0.frozen
        by_cases hT0 : T = []
        · subst hT0
          by_cases hz : (d.data.toList.headD 0).toNat = 48 ∧ 1 < d.data.toList.length
          · have e4 : prsE s.data.toList = 4 := by rw [HE.out]; (repeat' split) <;> first | rfl | exact absurd hz ‹_›
            have e : prsV s.data.toList = clsV false 0 0 4 := by rw [HP.out, e4, if_neg (show ¬ (4 : Int) = 0 by decide)]
            have E := Lib.hid e
            have hz1 : ((d[0]'d0).toNat : Int) = 48 := by have := hz.1; rw [headD_get d d0] at this; omega
            have hz2 : (1 : Int) < (d.size : Int) := by have := hz.2; simp at this; omega
            clear e e4 hz
            go_wp2
            exact bodyPost_ret (v := clsV false 0 0 4) (by simp [results, Tryz.results47, go_sem, hc0, clsV]) rfl ⟨by rw [E.out], ((hb3.setCell (by simp) _).setCell (by simp) _).setCell (by simp) _⟩
          · have hA := dNum_of H1.out HT.out
            have hE' : prsE s.data.toList = gE (dNum d.data.toList) := by rw [HE.out, HT.out]; (repeat' split) <;> first | rfl | omega | exact absurd ‹_› hz | exact absurd rfl ‹_›
            have HE' := Lib.hid hE'
            have hz' : ¬ (((d[0]'d0).toNat : Int) = 48 ∧ (1 : Int) < (d.size : Int)) := by
              intro h
              refine hz ⟨?_, ?_⟩
              · rw [headD_get d d0]; omega
              · simp; omega
            have HZ := Lib.hid hz'
            have HAt := Lib.hid hA
            have hAt := fun W => Tryz.strconv_Atoi d (dNum d.data.toList) (by rw [HD.out]; omega) hA W
            have HAc := Lib.hid hAt
            clear hA hE' hz hz' hAt
            generalize dNum d.data.toList = g at *
            by_cases hz1 : ((d[0]'d0).toNat : Int) = 48
            · have hz2 : ¬ (1 : Int) < (d.size : Int) := fun h => HZ.out ⟨hz1, h⟩
              go_wp2_with fail
              refine (HAc.out _).mono ?_
              rintro e w4 ⟨rfl, tt, hw4⟩
              have hbb : Below w3.heap.size w3 w4 := by rw [hw4]; exact Go.Joins.below_bytesWorld _ _ _ _ (Nat.le_refl _)
              have hr0 := hr0.next hbb
              have hr1 := hr1.next hbb
              have hb4 := hb3.trans (hbb.mono hb3.size)
              clear hbb hw4 hc0 hf0 hc1 hf1
              have hc1 := hr1.cell
              have hf1 := hr1.frozen
              go_wp2_with fail
              refine (graded_c _ _).mono ?_
              rintro e w5 ⟨rfl, rfl⟩
              have hr0 := hr0.other (p := ⟨w.heap.size + 1, 2, none⟩) (by simp) (.int .i64 g)
              have hr1 := hr1.put 2 (.int .i64 g)
              have hb4 := hb4.setCell (p := ⟨w.heap.size + 1, 2, none⟩) (by simp) (.int .i64 g)
              generalize w4.setCell ⟨w.heap.size + 1, 2, none⟩ (.int .i64 g) = w6 at *
              clear hc1 hf1
              have hc1 := hr1.cell
              have hc0 := hr0.cell
              have hf0 := hr0.frozen
              by_cases hg : gE g = 0
              · have e : prsV s.data.toList = clsV (decide ((s[0]'g0).toNat < 97)) L g 0 := by rw [HP.out, HE'.out, if_pos hg]
                have E := Lib.hid e
                rw [hg]
                clear e hg
                go_wp2
                exact bodyPost_ret (v := clsV (decide ((s[0]'g0).toNat < 97)) L g 0) (by simp [results, Tryz.results47, go_sem, hc0, clsV]) rfl ⟨by rw [E.out], ((hb4.setCell (by simp) _).setCell (by simp) _).setCell (by simp) _⟩
              · have e : prsV s.data.toList = clsV false 0 0 (gE g) := by rw [HP.out, HE'.out, if_neg hg]
                have E := Lib.hid e
                have hx : (gE g == 0) = false := by simpa using hg
                clear e hg
                go_wp2
                exact bodyPost_ret (v := clsV false 0 0 (gE g)) (by simp [results, Tryz.results47, go_sem, hc0, clsV]) rfl ⟨by rw [E.out], ((hb4.setCell (by simp) _).setCell (by simp) _).setCell (by simp) _⟩
            · skip
              go_wp2_with fail
              refine (HAc.out _).mono ?_
              rintro e w4 ⟨rfl, tt, hw4⟩
              have hbb : Below w3.heap.size w3 w4 := by rw [hw4]; exact Go.Joins.below_bytesWorld _ _ _ _ (Nat.le_refl _)
              have hr0 := hr0.next hbb
              have hr1 := hr1.next hbb
              have hb4 := hb3.trans (hbb.mono hb3.size)
              clear hbb hw4 hc0 hf0 hc1 hf1
              have hc1 := hr1.cell
              have hf1 := hr1.frozen
              go_wp2_with fail
              refine (graded_c _ _).mono ?_
              rintro e w5 ⟨rfl, rfl⟩
              have hr0 := hr0.other (p := ⟨w.heap.size + 1, 2, none⟩) (by simp) (.int .i64 g)
              have hr1 := hr1.put 2 (.int .i64 g)
              have hb4 := hb4.setCell (p := ⟨w.heap.size + 1, 2, none⟩) (by simp) (.int .i64 g)
              generalize w4.setCell ⟨w.heap.size + 1, 2, none⟩ (.int .i64 g) = w6 at *
              clear hc1 hf1
              have hc1 := hr1.cell
              have hc0 := hr0.cell
              have hf0 := hr0.frozen
              by_cases hg : gE g = 0
              · have e : prsV s.data.toList = clsV (decide ((s[0]'g0).toNat < 97)) L g 0 := by rw [HP.out, HE'.out, if_pos hg]
                have E := Lib.hid e
                rw [hg]
                clear e hg
                go_wp2
                exact bodyPost_ret (v := clsV (decide ((s[0]'g0).toNat < 97)) L g 0) (by simp [results, Tryz.results47, go_sem, hc0, clsV]) rfl ⟨by rw [E.out], ((hb4.setCell (by simp) _).setCell (by simp) _).setCell (by simp) _⟩
              · have e : prsV s.data.toList = clsV false 0 0 (gE g) := by rw [HP.out, HE'.out, if_neg hg]
                have E := Lib.hid e
                have hx : (gE g == 0) = false := by simpa using hg
                clear e hg
                go_wp2
                exact bodyPost_ret (v := clsV false 0 0 (gE g)) (by simp [results, Tryz.results47, go_sem, hc0, clsV]) rfl ⟨by rw [E.out], ((hb4.setCell (by simp) _).setCell (by simp) _).setCell (by simp) _⟩
        · have e4 : prsE s.data.toList = 4 := by rw [HE.out, HT.out]; (repeat' split) <;> first | rfl | exact absurd hT0 ‹_›
          have e : prsV s.data.toList = clsV false 0 0 4 := by rw [HP.out, e4, if_neg (show ¬ (4 : Int) = 0 by decide)]
          have E := Lib.hid e
          have hT1 : T.isEmpty = false := by simpa using hT0
          clear e e4 hT0
          go_wp2
          exact bodyPost_ret (v := clsV false 0 0 4) (by simp [results, Tryz.results47, go_sem, hc0, clsV]) rfl ⟨by rw [E.out], ((hb3.setCell (by simp) _).setCell (by simp) _).setCell (by simp) _⟩
end Go.Proofs.YtldghloflegpmaaGreatDoor

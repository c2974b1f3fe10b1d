/- Contracts of the reference for grades: place, Parse. -/
import Derived.Test.YteaopiogjlinbaaGreatDoorRfC
import Derived.Test.YteaopiogjlinbaaGreatDoorPaB
import Derived.Test.YteaopiogjlinbaaGreatDoorRo2
import Derived.Test.YteaopiogjlinbaaGreatDoorPuQ
namespace Go.Proofs.YteaopiogjlinbaaGreatDoor
open Go.RowKit Pu Go.Lib

/-- An index behind i. -/
def behind (i : Nat) (x : Int) : Int := if x = -1 then -1 else i + x
theorem indexByte_ge : ∀ (l : List UInt8) (b : UInt8), -1 ≤ Lib.indexByte l b
  | [], _ => by unfold Lib.indexByte; omega
  | c :: l, b => by
    have := indexByte_ge l b
    unfold Lib.indexByte
    (repeat' split) <;> omega
theorem index_step {l : List UInt8} {b c : UInt8} {i : Nat} (hc : l[i]? = some c) (hn : ¬ c.toNat = b.toNat) (h : Lib.indexByte l b = behind i (Lib.indexByte (l.drop i) b)) : Lib.indexByte l b = behind (i + 1) (Lib.indexByte (l.drop (i + 1)) b) := by
  rw [h]
  have hi : i < l.length := by
    rcases Nat.lt_or_ge i l.length with h' | h'
    · exact h'
    · rw [List.getElem?_eq_none h'] at hc; cases hc
  rw [List.drop_eq_getElem_cons hi]
  have hc' : l[i] = c := by rw [List.getElem?_eq_getElem hi] at hc; exact Option.some.inj hc
  rw [hc']
  have hne : (c == b) = false := by
    cases h : c == b with
    | false => rfl
    | true => exact absurd (by rw [beq_iff_eq.1 h]) hn
  have hge := indexByte_ge (l.drop (i + 1)) b
  show behind i (if (c == b) = true then _ else _) = _
  rw [hne]
  unfold behind
  simp only [Bool.false_eq_true, if_false, beq_iff_eq]
  (repeat' split) <;> omega
theorem index_hit {l : List UInt8} {b c : UInt8} {i : Nat} (hc : l[i]? = some c) (he : c.toNat = b.toNat) (h : Lib.indexByte l b = behind i (Lib.indexByte (l.drop i) b)) : Lib.indexByte l b = i := by
  rw [h]
  have hi : i < l.length := by
    rcases Nat.lt_or_ge i l.length with h' | h'
    · exact h'
    · rw [List.getElem?_eq_none h'] at hc; cases hc
  rw [List.drop_eq_getElem_cons hi]
  have hc' : l[i] = c := by rw [List.getElem?_eq_getElem hi] at hc; exact Option.some.inj hc
  have hcb : c = b := by
    apply UInt8.toNat_inj.1; exact he
  rw [hc', hcb]
  show behind i (if (b == b) = true then _ else _) = _
  simp [behind]
theorem index_end {l : List UInt8} {b : UInt8} {i : Nat} (hi : l.length ≤ i) (h : Lib.indexByte l b = behind i (Lib.indexByte (l.drop i) b)) : Lib.indexByte l b = -1 := by
  rw [h, List.drop_eq_nil_of_le hi]
  rfl

set_option maxHeartbeats 2000000 in
theorem place_c (s : ByteArray) (b : UInt8) (w : World) (hs : s.size ≤ 1000) : Calls Tryz.prog 65 #[.string s, .int .u8 (b.toNat : Int)] w fun e w' => e = .returned (.int .i64 (Lib.indexByte s.data.toList b)) ∧ w = w' := by
  have h0 : Lib.indexByte s.data.toList b = behind 0 (Lib.indexByte (s.data.toList.drop 0) b) := by
    have := indexByte_ge s.data.toList b
    rw [List.drop_zero]; unfold behind; split <;> omega
  have H0 := Lib.hid h0
  clear h0
  go_enter Tryz.func65, Tryz.ntmps65
  go_wp2_with fail
  go_loopw [5] (fun g wr => ∃ k : Nat, k ≤ s.size ∧ g = .int .i64 (k : Int) ∧ Hid (Lib.indexByte s.data.toList b = behind k (Lib.indexByte (s.data.toList.drop k) b)) ∧ w = wr) (fun g _ => s.size - (intOf g).toNat)
  case atStart => exact ⟨0, by omega, rfl, H0, rfl⟩
  case round =>
    obtain ⟨k, hk, rfl, HK, rfl⟩ := hrel
    by_cases hlt : k < s.size
    · have hc : s.data.toList[k]? = some (s[k]'hlt) := by
        rw [Array.getElem?_toList, Array.getElem?_eq_getElem (by simpa using hlt)]; rfl
      by_cases he : (s[k]'hlt).toNat = b.toNat
      · have e := index_hit hc he HK.out
        have E := Lib.hid e
        have he' : ((s[k]'hlt).toNat : Int) = (b.toNat : Int) := by omega
        clear hc e he
        go_wp2
        go_ret
        exact ⟨by rw [E.out]; rfl, rfl⟩
      · have e := index_step hc he HK.out
        have E := Lib.hid e
        have he' : ¬ ((s[k]'hlt).toNat : Int) = (b.toNat : Int) := by omega
        clear hc e he
        go_wp2
        go_roundw
        case rel => exact ⟨k + 1, by omega, by go_num, E, trivial⟩
        case measure => simp [intOf]; omega
    · have e := index_end (by simp; omega) HK.out
      have E := Lib.hid e
      clear e
      go_wp2
      go_ret
      exact ⟨by rw [E.out]; rfl, rfl⟩

set_option maxRecDepth 100000 in
set_option maxHeartbeats 4000000 in
theorem rParse_short (s : ByteArray) (w : World) (h : s.size < 2) : Calls Tryz.prog 19 #[.string s] w fun e w' => e = .returned (.tuple #[.agg #[.bool false, .int .i64 0, .int .i64 0], .int .i64 4]) ∧ Below w.heap.size w w' := by
  go_enter Tryz.func19, Tryz.ntmps19
  go_wp2
  exact bodyPost_ret (v := .tuple #[.agg #[.bool false, .int .i64 0, .int .i64 0], .int .i64 4]) (by simp [results, Tryz.results19, go_sem]) rfl ⟨rfl, (Below.refl _ w).alloc (Nat.le_refl _) _⟩
set_option maxRecDepth 100000 in
set_option maxHeartbeats 4000000 in
theorem rParse_long (s : ByteArray) (w : World) (h : 4 < s.size) (_hm : s.size ≤ 9223372036854775807) : Calls Tryz.prog 19 #[.string s] w fun e w' => e = .returned (.tuple #[.agg #[.bool false, .int .i64 0, .int .i64 0], .int .i64 4]) ∧ Below w.heap.size w w' := by
  have h2 : ¬ s.size < 2 := by omega
  go_enter Tryz.func19, Tryz.ntmps19
  go_wp2
  exact bodyPost_ret (v := .tuple #[.agg #[.bool false, .int .i64 0, .int .i64 0], .int .i64 4]) (by simp [results, Tryz.results19, go_sem]) rfl ⟨rfl, (Below.refl _ w).alloc (Nat.le_refl _) _⟩

theorem place_small (b : UInt8) (w : World) : Calls Tryz.prog 65 #[.string ⟨#[100, 101, 102, 103, 104, 106, 107, 109, 110, 112]⟩, .int .u8 (b.toNat : Int)] w fun e w' => e = .returned (.int .i64 (sIdx b)) ∧ w = w' := place_c _ b w (by decide)
theorem place_caps (b : UInt8) (w : World) : Calls Tryz.prog 65 #[.string ⟨#[68, 69, 70, 71, 72, 74, 75, 77, 78, 80]⟩, .int .u8 (b.toNat : Int)] w fun e w' => e = .returned (.int .i64 (cIdx b)) ∧ w = w' := place_c _ b w (by decide)

set_option maxRecDepth 100000 in
set_option maxHeartbeats 4000000 in
theorem rParse_mid (s : ByteArray) (w : World) (h2 : 2 ≤ s.size) (h4 : s.size ≤ 4) : Calls Tryz.prog 19 #[.string s] w fun e w' => e = .returned (prsV s.data.toList) ∧ Below w.heap.size w w' := by
  have h2' : ¬ s.size < 2 := by omega
  have h4' : ¬ 4 < s.size := by omega
  have g0 : 0 < s.size := by omega
  have g1 : 1 < s.size := by omega
  go_enter Tryz.func19, Tryz.ntmps19
  go_wp2_with fail
  refine (place_small (s[0]'g0) _).mono ?_
  rintro e w2 ⟨rfl, rfl⟩
  go_upto_if 22 with fail
  go_cut [] (fun wx => Row wx w.heap.size #[.bool false, .int .i64 0, .int .i64 0] 28 ∧
      Row wx (w.heap.size + 1) #[.bool (rHole (s[0]'g0)), .int .i64 (rLet (s[0]'g0)), .int .i64 0] 28 ∧ Below w.heap.size w wx)
  case first =>
    by_cases hc : sIdx (s[0]'g0) < 0
    · have e1 : rLet (s[0]'g0) = cIdx (s[0]'g0) := by unfold rLet; rw [if_pos hc]
      have e2 : rHole (s[0]'g0) = true := by unfold rHole; simpa using hc
      have E1 := Lib.hid e1; have E2 := Lib.hid e2
      clear e1 e2
      go_wp2_with fail
      refine (place_caps (s[0]'g0) _).mono ?_
      rintro e w2 ⟨rfl, rfl⟩
      go_wp2_with fail
      go_meet
      rw [E1.out, E2.out]
      refine ⟨(Row.new w _ _).alloc _, ?_, ((Below.refl _ w).alloc (Nat.le_refl _) _).alloc (by simp) _⟩
      simpa using Row.new (w.alloc (.cells #[.bool false, .int .i64 0, .int .i64 0] 28)) _ 28
    · have e1 : rLet (s[0]'g0) = sIdx (s[0]'g0) := by unfold rLet; rw [if_neg hc]
      have e2 : rHole (s[0]'g0) = false := by unfold rHole; simpa using hc
      have E1 := Lib.hid e1; have E2 := Lib.hid e2
      clear e1 e2
      go_wp2_with fail
      go_meet
      rw [E1.out, E2.out]
      refine ⟨(Row.new w _ _).alloc _, ?_, ((Below.refl _ w).alloc (Nat.le_refl _) _).alloc (by simp) _⟩
      simpa using Row.new (w.alloc (.cells #[.bool false, .int .i64 0, .int .i64 0] 28)) _ 28
  case rest =>
    obtain ⟨hr0, hr1, hb1⟩ := hcut
    obtain ⟨U, rfl⟩ : ∃ U, U = wc := ⟨_, rfl⟩
    have hc1 := hr1.cell
    have hc0 := hr0.cell
    have hf0 := hr0.frozen
    have hf1 := hr1.frozen
    have hrl := rLet_eq (s[0]'g0)
    have hrh := rHole_eq (s[0]'g0)
    have hp9 := pLet_le (s[0]'g0)
    rw [hrl] at hr1 hc1
    obtain ⟨L, hL⟩ : ∃ L, pLet (s[0]'g0) = L := ⟨_, rfl⟩
    rw [hL] at hr1 hc1 hrh hp9
    obtain ⟨H, hH⟩ : ∃ H, rHole (s[0]'g0) = H := ⟨_, rfl⟩
    rw [hH] at hr1 hc1 hrh
    obtain ⟨d, hd⟩ : ∃ d, s.data.toList.drop 1 = d := ⟨_, rfl⟩
    have hlen : s.data.toList.length = s.size := by simp
    have hds : d.length = s.size - 1 := by rw [← hd, List.length_drop, hlen]
    have hat : ∀ j (hj : j + 1 < s.size), d[j]? = some (s[j + 1]'hj) := by
      intro j hj
      rw [← hd, List.getElem?_drop, Nat.add_comm 1 j, Array.getElem?_toList, Array.getElem?_eq_getElem (by simpa using hj)]; rfl
    have hE : prsE s.data.toList = if L < 0 then 4 else if ¬ Lib.trimS d digC = [] then 4 else if (d.headD 0).toNat = 48 ∧ 1 < d.length then 4 else gE (dNum d) := by
      unfold prsE; rw [if_neg (show ¬ (s.data.toList.length < 2 ∨ 4 < s.data.toList.length) by omega), headD_get s g0, hL, hd]
    have hP : prsV s.data.toList = if prsE s.data.toList = 0 then clsV (decide ((s[0]'g0).toNat < 97)) L (dNum d) 0 else clsV false 0 0 (prsE s.data.toList) := by
      unfold prsV; rw [headD_get s g0, hL, hd]
    have h4V : prsE s.data.toList = 4 → prsV s.data.toList = clsV false 0 0 4 := fun e4 => by rw [hP, e4, if_neg (show ¬ (4 : Int) = 0 by decide)]
    have hne : d ≠ [] := by intro e; rw [e, List.length_nil] at hds; omega
    have hhead : d.headD 0 = s[1]'g1 := by
      have := hat 0 g1
      cases d with
      | nil => exact absurd rfl hne
      | cons x r => simp at this; simp [this]
    have HE := Lib.hid hE
    have HP := Lib.hid hP
    have HV := Lib.hid h4V
    have HN := Lib.hid hne
    have HA := Lib.hid hat
    have HD := Lib.hid hds
    have HH := Lib.hid hhead
    have HR := Lib.hid hrh
    clear hrl hL hH hd hlen hds hat hE hP h4V hne hhead hrh
    by_cases h0 : L < 0
    · have e := HV.out (by rw [HE.out]; (repeat' split) <;> first | rfl | exact absurd h0 ‹_›)
      have E := Lib.hid e
      clear e
      go_wp2
      exact bodyPost_ret (v := clsV false 0 0 4) (by simp [results, Tryz.results19, go_sem, hc0, clsV]) rfl ⟨by rw [E.out], ((hb1.setCell (by simp) _).setCell (by simp) _).setCell (by simp) _⟩
    · by_cases hz : ((s[1]'g1).toNat : Int) = 48 ∧ (2 : Int) < (s.size : Int)
      · have e := HV.out (by
          have hz' : (d.headD 0).toNat = 48 ∧ 1 < d.length := by rw [HH.out, HD.out]; omega
          rw [HE.out]; (repeat' split) <;> first | rfl | exact absurd hz' ‹_›)
        have E := Lib.hid e
        obtain ⟨hz1, hz2⟩ := hz
        clear e
        go_wp2
        exact bodyPost_ret (v := clsV false 0 0 4) (by simp [results, Tryz.results19, go_sem, hc0, clsV]) rfl ⟨by rw [E.out], ((hb1.setCell (by simp) _).setCell (by simp) _).setCell (by simp) _⟩
      · have HZ := Lib.hid hz
        have L0 : 0 ≤ L := by omega
        have hHr := HR.out L0
        have HA2 : Hid (∀ k, 1 ≤ k → ∀ (hk : k < s.size), d[k - 1]? = some (s[k]'hk)) := fun k h1 hk => by
          obtain ⟨j, rfl⟩ : ∃ j, k = j + 1 := ⟨k - 1, by omega⟩
          exact HA.out j hk
        have hz1 : ((s[1]'g1).toNat : Int) = 48 ∧ ¬ (2 : Int) < (s.size : Int) ∨ ¬ ((s[1]'g1).toNat : Int) = 48 := by omega
        have HHr := Lib.hid hHr
        clear hz hHr
        rcases hz1 with ⟨hz1, hz2⟩ | hz1
        all_goals
          go_wp2_with fail
          go_loopw [5] (fun g wr => ∃ k m : Nat, 1 ≤ k ∧ k ≤ s.size ∧ g = .int .i64 (k : Int) ∧ Hid (Pre d (k - 1) m) ∧ Row wr w.heap.size #[.bool false, .int .i64 0, .int .i64 0] 28 ∧
            Row wr (w.heap.size + 1) #[.bool H, .int .i64 L, .int .i64 (m : Int)] 28 ∧ Below w.heap.size w wr) (fun g _ => s.size - (intOf g).toNat)
          case atStart => exact ⟨1, 0, by omega, by omega, rfl, Pre.zero d, hr0, hr1, hb1⟩
          case round =>
            obtain ⟨k, m, hk1, hk, rfl, HPr, hr0, hr1, hbr⟩ := hrel
            have hm := (HPr.out).lt (by omega)
            have hm1 : 0 ≤ (m : Int) := by omega
            have hm2 : (m : Int) < 1000 := by omega
            clear hc0 hc1 hf0 hf1 hm
            have hc1 := hr1.cell
            have hc0 := hr0.cell
            have hf0 := hr0.frozen
            have hf1 := hr1.frozen
            by_cases hlt : k < s.size
            · have hat := (HA2.out) k hk1 hlt
              have HAt := Lib.hid hat
              clear hat
              by_cases hd1 : ((s[k]'hlt).toNat : Int) < 48
              · have e := HV.out (by
                  have hz' : ¬ Lib.trimS d digC = [] := trim_bad HAt.out (by omega)
                  rw [HE.out]; (repeat' split) <;> first | rfl | exact absurd hz' ‹_›)
                have E := Lib.hid e
                clear e
                go_wp2
                exact bodyPost_ret (v := clsV false 0 0 4) (by simp [results, Tryz.results19, go_sem, hc0, clsV]) rfl ⟨by rw [E.out], ((hbr.setCell (by simp) _).setCell (by simp) _).setCell (by simp) _⟩
              · by_cases hd2 : 57 < ((s[k]'hlt).toNat : Int)
                · have e := HV.out (by
                    have hz' : ¬ Lib.trimS d digC = [] := trim_bad HAt.out (by omega)
                    rw [HE.out]; (repeat' split) <;> first | rfl | exact absurd hz' ‹_›)
                  have E := Lib.hid e
                  clear e
                  go_wp2
                  exact bodyPost_ret (v := clsV false 0 0 4) (by simp [results, Tryz.results19, go_sem, hc0, clsV]) rfl ⟨by rw [E.out], ((hbr.setCell (by simp) _).setCell (by simp) _).setCell (by simp) _⟩
                · have hpn := (HPr.out).step HAt.out (by omega) (by omega)
                  have hkk : k - 1 + 1 = k := by omega
                  rw [hkk] at hpn
                  have HPN := Lib.hid hpn
                  have hval : 10 * (m : Int) + (((s[k]'hlt).toNat : Int) - 48) = ((m * 10 + ((s[k]'hlt).toNat - 48) : Nat) : Int) := by omega
                  have HVl := Lib.hid hval
                  clear hpn hkk hval
                  go_wp2_with fail
                  go_region_with fail
                  all_goals
                    go_wp2
                    go_roundw
                    case rel =>
                      rw [HVl.out]
                      exact ⟨k + 1, _, by omega, by omega, by go_num, HPN, (hr0.other (by simp) _).drw, by simpa using (hr1.put 2 _).drw, ((hbr.setCell (by simp) _).drew)⟩
                    case measure => simp [intOf]; omega
            · have ⟨ht, hm'⟩ := (HPr.out).all (by rw [HD.out]; omega) HN.out
              have hcE : cE L m = gE m := by unfold cE; rw [if_neg (by omega)]
              have hz' : ¬ ((d.headD 0).toNat = 48 ∧ 1 < d.length) := by rw [HH.out, HD.out]; intro h; exact HZ.out (by omega)
              have hE' : prsE s.data.toList = gE m := by
                rw [HE.out, hm', ht]; (repeat' split) <;> first | rfl | omega | exact absurd ‹_› hz' | exact absurd rfl ‹_›
              have HC := Lib.hid hcE
              have HE' := Lib.hid hE'
              have HM := Lib.hid hm'
              clear ht hm' hcE hz' hE'
              go_wp2_with fail
              refine (rCheck_c _ _ _ _).mono ?_
              rintro e w5 ⟨rfl, hbb⟩
              rw [HC.out]
              have hr0 := hr0.next hbb
              have hr1 := hr1.next hbb
              have hb5 := hbr.trans (hbb.mono hbr.size)
              clear hbb hc0 hc1 hf0 hf1
              have hc1 := hr1.cell
              have hc0 := hr0.cell
              have hf0 := hr0.frozen
              have hf1 := hr1.frozen
              by_cases hg : gE m = 0
              · have e : prsV s.data.toList = clsV H L m 0 := by rw [HP.out, HE'.out, if_pos hg, HHr.out, HM.out]
                have E := Lib.hid e
                rw [hg]
                clear e hg
                go_wp2
                exact bodyPost_ret (v := clsV H L m 0) (by simp [results, Tryz.results19, go_sem, hc0, clsV]) rfl ⟨by rw [E.out], ((hb5.setCell (by simp) _).setCell (by simp) _).setCell (by simp) _⟩
              · have e : prsV s.data.toList = clsV false 0 0 (gE m) := by rw [HP.out, HE'.out, if_neg hg]
                have E := Lib.hid e
                have hx : (gE m == 0) = false := by simpa using hg
                clear e hg
                go_wp2
                exact bodyPost_ret (v := clsV false 0 0 (gE m)) (by simp [results, Tryz.results19, go_sem, hc0, clsV]) rfl ⟨by rw [E.out], ((hb5.setCell (by simp) _).setCell (by simp) _).setCell (by simp) _⟩

theorem rParse_c (s : ByteArray) (w : World) (hm : s.size ≤ 9223372036854775807) : Calls Tryz.prog 19 #[.string s] w fun e w' => e = .returned (prsV s.data.toList) ∧ Below w.heap.size w w' := by
  have hlen : s.data.toList.length = s.size := by simp
  by_cases h2 : s.size < 2
  · have e : prsE s.data.toList = 4 := by unfold prsE; rw [if_pos (Or.inl (by omega))]
    have e' : prsV s.data.toList = clsV false 0 0 4 := by unfold prsV; rw [e, if_neg (by decide)]
    rw [e']
    exact rParse_short s w h2
  · by_cases h4 : 4 < s.size
    · have e : prsE s.data.toList = 4 := by unfold prsE; rw [if_pos (Or.inr (by omega))]
      have e' : prsV s.data.toList = clsV false 0 0 4 := by unfold prsV; rw [e, if_neg (by decide)]
      rw [e']
      exact rParse_long s w h4 hm
    · exact rParse_mid s w (by omega) (by omega)
end Go.Proofs.YteaopiogjlinbaaGreatDoor

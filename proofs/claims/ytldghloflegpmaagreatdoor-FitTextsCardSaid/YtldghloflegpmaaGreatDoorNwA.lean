/- Plain: the digits of a class's text, one by one; its letter, looked for twice. No program in sight. More of rows: behind an allocation, whatever is laid. Contracts of the reference for grades: place, Parse. Contracts of the reference for grades: digits, Format. One, two, three blocks held over a region that draws its order. Some blocks held over a region that draws its order. -/
import Derived.Test.YtldghloflegpmaaGreatDoorPuP
import Derived.Test.YtldghloflegpmaaGreatDoorRow
import Derived.Test.YtldghloflegpmaaGreatDoorRfC
import Derived.Test.YtldghloflegpmaaGreatDoorPaB
import Derived.Deep.QuietTactic
import Derived.BigQuiet
namespace Go.Proofs.YtldghloflegpmaaGreatDoor
open Pu Go.Lib

/-- The first k bytes are digits that spell m. -/
def Pre (d : List UInt8) (k m : Nat) : Prop := Lib.decFrom 0 (d.take k) = some m ∧ ∀ b ∈ d.take k, 48 ≤ b.toNat ∧ b.toNat ≤ 57
theorem Pre.zero (d : List UInt8) : Pre d 0 0 := ⟨rfl, fun b hb => by simp at hb⟩
theorem Pre.step {d : List UInt8} {k m : Nat} {c : UInt8} (h : Pre d k m) (hc : d[k]? = some c) (h1 : 48 ≤ c.toNat) (h2 : c.toNat ≤ 57) : Pre d (k + 1) (m * 10 + (c.toNat - 48)) := by
  refine ⟨Lib.decFrom_take d k 0 m c _ h.1 hc (by unfold Lib.digitVal; rw [if_pos ⟨h1, h2⟩]), fun b hb => ?_⟩
  have hk : k < d.length := by
    rcases Nat.lt_or_ge k d.length with h' | h'
    · exact h'
    · rw [List.getElem?_eq_none h'] at hc; cases hc
  rw [List.take_succ_eq_append_getElem hk] at hb
  have hc' : d[k] = c := by rw [List.getElem?_eq_getElem hk] at hc; exact Option.some.inj hc
  rw [hc'] at hb
  rcases List.mem_append.1 hb with hb | hb
  · exact h.2 b hb
  · simp at hb; subst hb; exact ⟨h1, h2⟩
theorem Pre.lt {d : List UInt8} {k m : Nat} (h : Pre d k m) (hk : k ≤ 3) : m < 1000 := by
  have := Lib.decFrom_lt _ _ _ h.1
  have hl : (d.take k).length ≤ 3 := by rw [List.length_take]; omega
  have h10 : 10 ^ (d.take k).length ≤ 10 ^ 3 := Nat.pow_le_pow_right (by omega) hl
  omega
theorem trimLeft_all : ∀ {l cs : List UInt8}, (∀ b ∈ l, cs.contains b = true) → l.dropWhile (cs.contains ·) = []
  | [], _, _ => rfl
  | x :: l, cs, h => by
    rw [List.dropWhile_cons, if_pos (h x (by simp))]
    exact trimLeft_all fun b hb => h b (by simp [hb])
theorem dropWhile_sub {p : UInt8 → Bool} : ∀ {l : List UInt8} {b : UInt8}, b ∈ l.dropWhile p → b ∈ l
  | [], _, hb => by cases hb
  | x :: l, b, hb => by
    rw [List.dropWhile_cons] at hb
    by_cases hx : p x = true
    · rw [if_pos hx] at hb; exact List.mem_cons_of_mem _ (dropWhile_sub hb)
    · rw [if_neg hx] at hb; exact hb
theorem trim_of_all {l cs : List UInt8} (h : ∀ b ∈ l, cs.contains b = true) : Lib.trimS l cs = [] := by
  unfold Lib.trimS Lib.trimLeftS
  refine trimLeft_all fun b hb => h b ?_
  unfold Lib.trimRightS at hb
  have := dropWhile_sub (p := (cs.contains ·)) (l := l.reverse) (b := b) (by simpa using hb)
  simpa using this
theorem memq_dig {b : UInt8} (h1 : 48 ≤ b.toNat) (h2 : b.toNat ≤ 57) : digC.contains b = true := by
  have key : ∀ n, n < 58 → 48 ≤ n → digC.contains (UInt8.ofNat n) = true := by decide
  have := key b.toNat (by omega) h1
  rwa [UInt8.ofNat_toNat] at this
theorem Pre.all {d : List UInt8} {k m : Nat} (h : Pre d k m) (hk : d.length ≤ k) (hne : d ≠ []) : Lib.trimS d digC = [] ∧ dNum d = m := by
  have ht : d.take k = d := List.take_of_length_le hk
  have h1 := h.1; have h2 := h.2
  rw [ht] at h1 h2
  refine ⟨trim_of_all fun b hb => memq_dig (h2 b hb).1 (h2 b hb).2, ?_⟩
  obtain ⟨n, hn, hn'⟩ := atoi_all hne h2
  rw [hn'] at h1
  unfold dNum; rw [hn, Option.some.inj h1]; rfl
theorem trim_bad {d : List UInt8} {k : Nat} {c : UInt8} (hc : d[k]? = some c) (h : c.toNat < 48 ∨ 57 < c.toNat) : ¬ Lib.trimS d digC = [] := by
  intro e
  have hm : c ∈ d := List.mem_of_getElem? hc
  have := dig_mem (trim_all e c hm)
  omega

/-- The letter as the reference looks for it. -/
def sIdx (c : UInt8) : Int := Lib.indexByte [100, 101, 102, 103, 104, 106, 107, 109, 110, 112] c
def cIdx (c : UInt8) : Int := Lib.indexByte [68, 69, 70, 71, 72, 74, 75, 77, 78, 80] c
def rLet (c : UInt8) : Int := if sIdx c < 0 then cIdx c else sIdx c
def rHole (c : UInt8) : Bool := decide (sIdx c < 0)
set_option maxRecDepth 100000 in
theorem let_all : ∀ n, n < 256 → rLet (UInt8.ofNat n) = pLet (UInt8.ofNat n) ∧ (0 ≤ pLet (UInt8.ofNat n) → rHole (UInt8.ofNat n) = decide ((UInt8.ofNat n).toNat < 97)) ∧ pLet (UInt8.ofNat n) ≤ 9 := by decide +kernel
theorem rLet_eq (c : UInt8) : rLet c = pLet c := by
  have := (let_all c.toNat c.toNat_lt).1
  rwa [UInt8.ofNat_toNat] at this
theorem rHole_eq (c : UInt8) (h : 0 ≤ pLet c) : rHole c = decide (c.toNat < 97) := by
  have := (let_all c.toNat c.toNat_lt).2.1
  rw [UInt8.ofNat_toNat] at this
  exact this h
theorem pLet_le (c : UInt8) : pLet c ≤ 9 := by
  have := (let_all c.toNat c.toNat_lt).2.2
  rwa [UInt8.ofNat_toNat] at this
end Go.Proofs.YtldghloflegpmaaGreatDoor

namespace Go.Proofs.YtldghloflegpmaaGreatDoor
open Go.RowKit Go.Lib

theorem Row.cellA {w : World} {b : Nat} {cs : Array Value} {T : TypeId} (h : Row w b cs T) : ∀ (o : Obj) (j : Nat), (w.alloc o).cell? ⟨b, j, none⟩ = cs[j]? := fun o => (h.alloc o).cell
theorem Row.frozenA {w : World} {b : Nat} {cs : Array Value} {T : TypeId} (h : Row w b cs T) : ∀ (o : Obj) (j : Nat), (w.alloc o).frozen? ⟨b, j, none⟩ = false := fun o => (h.alloc o).frozen
end Go.Proofs.YtldghloflegpmaaGreatDoor

namespace Go.Proofs.YtldghloflegpmaaGreatDoor
open Go.RowKit Pu Go.Lib

/-- An index behind i. -/
def behind (i : Nat) (x : Int) : Int := if x = -1 then -1 else i + x
theorem indexByte_ge : ∀ (l : List UInt8) (b : UInt8), -1 ≤ Lib.indexByte l b
  | [], _ => by unfold Lib.indexByte; omega
  | c :: l, b => by
    have := indexByte_ge l b
    unfold Lib.indexByte
    (repeat' split) <;> omega
theorem index_step {l : List UInt8} {b c : UInt8} {i : Nat} (hc : l[i]? = some c) (hn : ¬ c.toNat = b.toNat) (h : Lib.indexByte l b = behind i (Lib.indexByte (l.drop i) b)) : Lib.indexByte l b = behind (i + 1) (Lib.indexByte (l.drop (i + 1)) b) := by
  rw [h]
  have hi : i < l.length := by
    rcases Nat.lt_or_ge i l.length with h' | h'
    · exact h'
    · rw [List.getElem?_eq_none h'] at hc; cases hc
  rw [List.drop_eq_getElem_cons hi]
  have hc' : l[i] = c := by rw [List.getElem?_eq_getElem hi] at hc; exact Option.some.inj hc
  rw [hc']
  have hne : (c == b) = false := by
    cases h : c == b with
    | false => rfl
    | true => exact absurd (by rw [beq_iff_eq.1 h]) hn
  have hge := indexByte_ge (l.drop (i + 1)) b
  show behind i (if (c == b) = true then _ else _) = _
  rw [hne]
  unfold behind
  simp only [Bool.false_eq_true, if_false, beq_iff_eq]
  (repeat' split) <;> omega
theorem index_hit {l : List UInt8} {b c : UInt8} {i : Nat} (hc : l[i]? = some c) (he : c.toNat = b.toNat) (h : Lib.indexByte l b = behind i (Lib.indexByte (l.drop i) b)) : Lib.indexByte l b = i := by
  rw [h]
  have hi : i < l.length := by
    rcases Nat.lt_or_ge i l.length with h' | h'
    · exact h'
    · rw [List.getElem?_eq_none h'] at hc; cases hc
  rw [List.drop_eq_getElem_cons hi]
  have hc' : l[i] = c := by rw [List.getElem?_eq_getElem hi] at hc; exact Option.some.inj hc
  have hcb : c = b := by
    apply UInt8.toNat_inj.1; exact he
  rw [hc', hcb]
  show behind i (if (b == b) = true then _ else _) = _
  simp [behind]
theorem index_end {l : List UInt8} {b : UInt8} {i : Nat} (hi : l.length ≤ i) (h : Lib.indexByte l b = behind i (Lib.indexByte (l.drop i) b)) : Lib.indexByte l b = -1 := by
  rw [h, List.drop_eq_nil_of_le hi]
  rfl

set_option maxHeartbeats 2000000 in
theorem place_c (s : ByteArray) (b : UInt8) (w : World) (hs : s.size ≤ 1000) : Calls Tryz.prog 105 #[.string s, .int .u8 (b.toNat : Int)] w fun e w' => e = .returned (.int .i64 (Lib.indexByte s.data.toList b)) ∧ w = w' := by
  have h0 : Lib.indexByte s.data.toList b = behind 0 (Lib.indexByte (s.data.toList.drop 0) b) := by
    have := indexByte_ge s.data.toList b
    rw [List.drop_zero]; unfold behind; split <;> omega
  have H0 := Lib.hid h0
  clear h0
  go_enter Tryz.func105, Tryz.ntmps105
  go_wp2_with fail
  go_loopw [5] (fun g wr => ∃ k : Nat, k ≤ s.size ∧ g = .int .i64 (k : Int) ∧ Hid (Lib.indexByte s.data.toList b = behind k (Lib.indexByte (s.data.toList.drop k) b)) ∧ w = wr) (fun g _ => s.size - (intOf g).toNat)
  case atStart => exact ⟨0, by omega, rfl, H0, rfl⟩
  case round =>
    obtain ⟨k, hk, rfl, HK, rfl⟩ := hrel
    by_cases hlt : k < s.size
    · have hc : s.data.toList[k]? = some (s[k]'hlt) := by
        rw [Array.getElem?_toList, Array.getElem?_eq_getElem (by simpa using hlt)]; rfl
      by_cases he : (s[k]'hlt).toNat = b.toNat
      · have e := index_hit hc he HK.out
        have E := Lib.hid e
        have he' : ((s[k]'hlt).toNat : Int) = (b.toNat : Int) := by omega
        clear hc e he
        go_wp2
        go_ret
        exact ⟨by rw [E.out]; rfl, rfl⟩
      · have e := index_step hc he HK.out
        have E := Lib.hid e
        have he' : ¬ ((s[k]'hlt).toNat : Int) = (b.toNat : Int) := by omega
        clear hc e he
        go_wp2
        go_roundw
        case rel => exact ⟨k + 1, by omega, by go_num, E, trivial⟩
        case measure => simp [intOf]; omega
    · have e := index_end (by simp; omega) HK.out
      have E := Lib.hid e
      clear e
      go_wp2
      go_ret
      exact ⟨by rw [E.out]; rfl, rfl⟩

set_option maxRecDepth 100000 in
set_option maxHeartbeats 4000000 in
theorem rParse_short (s : ByteArray) (w : World) (h : s.size < 2) : Calls Tryz.prog 68 #[.string s] w fun e w' => e = .returned (.tuple #[.agg #[.bool false, .int .i64 0, .int .i64 0], .int .i64 4]) ∧ Below w.heap.size w w' := by
  go_enter Tryz.func68, Tryz.ntmps68
  go_wp2
  exact bodyPost_ret (v := .tuple #[.agg #[.bool false, .int .i64 0, .int .i64 0], .int .i64 4]) (by simp [results, Tryz.results68, go_sem]) rfl ⟨rfl, (Below.refl _ w).alloc (Nat.le_refl _) _⟩
set_option maxRecDepth 100000 in
set_option maxHeartbeats 4000000 in
theorem rParse_long (s : ByteArray) (w : World) (h : 4 < s.size) (_hm : s.size ≤ 9223372036854775807) : Calls Tryz.prog 68 #[.string s] w fun e w' => e = .returned (.tuple #[.agg #[.bool false, .int .i64 0, .int .i64 0], .int .i64 4]) ∧ Below w.heap.size w w' := by
  have h2 : ¬ s.size < 2 := by omega
  go_enter Tryz.func68, Tryz.ntmps68
  go_wp2
  exact bodyPost_ret (v := .tuple #[.agg #[.bool false, .int .i64 0, .int .i64 0], .int .i64 4]) (by simp [results, Tryz.results68, go_sem]) rfl ⟨rfl, (Below.refl _ w).alloc (Nat.le_refl _) _⟩

theorem place_small (b : UInt8) (w : World) : Calls Tryz.prog 105 #[.string ⟨#[100, 101, 102, 103, 104, 106, 107, 109, 110, 112]⟩, .int .u8 (b.toNat : Int)] w fun e w' => e = .returned (.int .i64 (sIdx b)) ∧ w = w' := place_c _ b w (by decide)
theorem place_caps (b : UInt8) (w : World) : Calls Tryz.prog 105 #[.string ⟨#[68, 69, 70, 71, 72, 74, 75, 77, 78, 80]⟩, .int .u8 (b.toNat : Int)] w fun e w' => e = .returned (.int .i64 (cIdx b)) ∧ w = w' := place_c _ b w (by decide)

set_option maxRecDepth 100000 in
set_option maxHeartbeats 4000000 in
theorem rParse_mid (s : ByteArray) (w : World) (h2 : 2 ≤ s.size) (h4 : s.size ≤ 4) : Calls Tryz.prog 68 #[.string s] w fun e w' => e = .returned (prsV s.data.toList) ∧ Below w.heap.size w w' := by
  have h2' : ¬ s.size < 2 := by omega
  have h4' : ¬ 4 < s.size := by omega
  have g0 : 0 < s.size := by omega
  have g1 : 1 < s.size := by omega
  go_enter Tryz.func68, Tryz.ntmps68
  go_wp2_with fail
  refine (place_small (s[0]'g0) _).mono ?_
  rintro e w2 ⟨rfl, rfl⟩
  go_upto_if 22 with fail
  go_cut [] (fun wx => Row wx w.heap.size #[.bool false, .int .i64 0, .int .i64 0] 47 ∧
      Row wx (w.heap.size + 1) #[.bool (rHole (s[0]'g0)), .int .i64 (rLet (s[0]'g0)), .int .i64 0] 47 ∧ Below w.heap.size w wx)
  case first =>
    by_cases hc : sIdx (s[0]'g0) < 0
    · have e1 : rLet (s[0]'g0) = cIdx (s[0]'g0) := by unfold rLet; rw [if_pos hc]
      have e2 : rHole (s[0]'g0) = true := by unfold rHole; simpa using hc
      have E1 := Lib.hid e1; have E2 := Lib.hid e2
      clear e1 e2
      go_wp2_with fail
      refine (place_caps (s[0]'g0) _).mono ?_
      rintro e w2 ⟨rfl, rfl⟩
      go_wp2_with fail
      go_meet
      rw [E1.out, E2.out]
      refine ⟨(Row.new w _ _).alloc _, ?_, ((Below.refl _ w).alloc (Nat.le_refl _) _).alloc (by simp) _⟩
      simpa using Row.new (w.alloc (.cells #[.bool false, .int .i64 0, .int .i64 0] 47)) _ 47
    · have e1 : rLet (s[0]'g0) = sIdx (s[0]'g0) := by unfold rLet; rw [if_neg hc]
      have e2 : rHole (s[0]'g0) = false := by unfold rHole; simpa using hc
      have E1 := Lib.hid e1; have E2 := Lib.hid e2
      clear e1 e2
      go_wp2_with fail
      go_meet
      rw [E1.out, E2.out]
      refine ⟨(Row.new w _ _).alloc _, ?_, ((Below.refl _ w).alloc (Nat.le_refl _) _).alloc (by simp) _⟩
      simpa using Row.new (w.alloc (.cells #[.bool false, .int .i64 0, .int .i64 0] 47)) _ 47
  case rest =>
    obtain ⟨hr0, hr1, hb1⟩ := hcut
    obtain ⟨U, rfl⟩ : ∃ U, U = wc := ⟨_, rfl⟩
    have hc1 := hr1.cell
    have hc0 := hr0.cell
    have hf0 := hr0.frozen
    have hf1 := hr1.frozen
    have hrl := rLet_eq (s[0]'g0)
    have hrh := rHole_eq (s[0]'g0)
    have hp9 := pLet_le (s[0]'g0)
    rw [hrl] at hr1 hc1
    obtain ⟨L, hL⟩ : ∃ L, pLet (s[0]'g0) = L := ⟨_, rfl⟩
    rw [hL] at hr1 hc1 hrh hp9
    obtain ⟨H, hH⟩ : ∃ H, rHole (s[0]'g0) = H := ⟨_, rfl⟩
    rw [hH] at hr1 hc1 hrh
    obtain ⟨d, hd⟩ : ∃ d, s.data.toList.drop 1 = d := ⟨_, rfl⟩
    have hlen : s.data.toList.length = s.size := by simp
    have hds : d.length = s.size - 1 := by rw [← hd, List.length_drop, hlen]
    have hat : ∀ j (hj : j + 1 < s.size), d[j]? = some (s[j + 1]'hj) := by
      intro j hj
      rw [← hd, List.getElem?_drop, Nat.add_comm 1 j, Array.getElem?_toList, Array.getElem?_eq_getElem (by simpa using hj)]; rfl
    have hE : prsE s.data.toList = if L < 0 then 4 else if ¬ Lib.trimS d digC = [] then 4 else if (d.headD 0).toNat = 48 ∧ 1 < d.length then 4 else gE (dNum d) := by
      unfold prsE; rw [if_neg (show ¬ (s.data.toList.length < 2 ∨ 4 < s.data.toList.length) by omega), headD_get s g0, hL, hd]
    have hP : prsV s.data.toList = if prsE s.data.toList = 0 then clsV (decide ((s[0]'g0).toNat < 97)) L (dNum d) 0 else clsV false 0 0 (prsE s.data.toList) := by
      unfold prsV; rw [headD_get s g0, hL, hd]
    have h4V : prsE s.data.toList = 4 → prsV s.data.toList = clsV false 0 0 4 := fun e4 => by rw [hP, e4, if_neg (show ¬ (4 : Int) = 0 by decide)]
    have hne : d ≠ [] := by intro e; rw [e, List.length_nil] at hds; omega
    have hhead : d.headD 0 = s[1]'g1 := by
      have := hat 0 g1
      cases d with
      | nil => exact absurd rfl hne
      | cons x r => simp at this; simp [this]
    have HE := Lib.hid hE
    have HP := Lib.hid hP
    have HV := Lib.hid h4V
    have HN := Lib.hid hne
    have HA := Lib.hid hat
    have HD := Lib.hid hds
    have HH := Lib.hid hhead
    have HR := Lib.hid hrh
    clear hrl hL hH hd hlen hds hat hE hP h4V hne hhead hrh
    by_cases h0 : L < 0
    · have e := HV.out (by rw [HE.out]; (repeat' split) <;> first | rfl | exact absurd h0 ‹_›)
      have E := Lib.hid e
      clear e
      go_wp2
      exact bodyPost_ret (v := clsV false 0 0 4) (by simp [results, Tryz.results68, go_sem, hc0, clsV]) rfl ⟨by rw [E.out], ((hb1.setCell (by simp) _).setCell (by simp) _).setCell (by simp) _⟩
    · by_cases hz : ((s[1]'g1).toNat : Int) = 48 ∧ (2 : Int) < (s.size : Int)
      · have e := HV.out (by
          have hz' : (d.headD 0).toNat = 48 ∧ 1 < d.length := by rw [HH.out, HD.out]; omega
          rw [HE.out]; (repeat' split) <;> first | rfl | exact absurd hz' ‹_›)
        have E := Lib.hid e
        obtain ⟨hz1, hz2⟩ := hz
        clear e
        go_wp2
        exact bodyPost_ret (v := clsV false 0 0 4) (by simp [results, Tryz.results68, go_sem, hc0, clsV]) rfl ⟨by rw [E.out], ((hb1.setCell (by simp) _).setCell (by simp) _).setCell (by simp) _⟩
      · have HZ := Lib.hid hz
        have L0 : 0 ≤ L := by omega
        have hHr := HR.out L0
        have HA2 : Hid (∀ k, 1 ≤ k → ∀ (hk : k < s.size), d[k - 1]? = some (s[k]'hk)) := fun k h1 hk => by
          obtain ⟨j, rfl⟩ : ∃ j, k = j + 1 := ⟨k - 1, by omega⟩
          exact HA.out j hk
        have hz1 : ((s[1]'g1).toNat : Int) = 48 ∧ ¬ (2 : Int) < (s.size : Int) ∨ ¬ ((s[1]'g1).toNat : Int) = 48 := by omega
        have HHr := Lib.hid hHr
        clear hz hHr
        rcases hz1 with ⟨hz1, hz2⟩ | hz1
        all_goals
          go_wp2_with fail
          go_loopw [5] (fun g wr => ∃ k m : Nat, 1 ≤ k ∧ k ≤ s.size ∧ g = .int .i64 (k : Int) ∧ Hid (Pre d (k - 1) m) ∧ Row wr w.heap.size #[.bool false, .int .i64 0, .int .i64 0] 47 ∧
            Row wr (w.heap.size + 1) #[.bool H, .int .i64 L, .int .i64 (m : Int)] 47 ∧ Below w.heap.size w wr) (fun g _ => s.size - (intOf g).toNat)
          case atStart => exact ⟨1, 0, by omega, by omega, rfl, Pre.zero d, hr0, hr1, hb1⟩
          case round =>
            obtain ⟨k, m, hk1, hk, rfl, HPr, hr0, hr1, hbr⟩ := hrel
            have hm := (HPr.out).lt (by omega)
            have hm1 : 0 ≤ (m : Int) := by omega
            have hm2 : (m : Int) < 1000 := by omega
            clear hc0 hc1 hf0 hf1 hm
            have hc1 := hr1.cell
            have hc0 := hr0.cell
            have hf0 := hr0.frozen
            have hf1 := hr1.frozen
            by_cases hlt : k < s.size
            · have hat := (HA2.out) k hk1 hlt
              have HAt := Lib.hid hat
              clear hat
              by_cases hd1 : ((s[k]'hlt).toNat : Int) < 48
              · have e := HV.out (by
                  have hz' : ¬ Lib.trimS d digC = [] := trim_bad HAt.out (by omega)
                  rw [HE.out]; (repeat' split) <;> first | rfl | exact absurd hz' ‹_›)
                have E := Lib.hid e
                clear e
                go_wp2
                exact bodyPost_ret (v := clsV false 0 0 4) (by simp [results, Tryz.results68, go_sem, hc0, clsV]) rfl ⟨by rw [E.out], ((hbr.setCell (by simp) _).setCell (by simp) _).setCell (by simp) _⟩
              · by_cases hd2 : 57 < ((s[k]'hlt).toNat : Int)
                · have e := HV.out (by
                    have hz' : ¬ Lib.trimS d digC = [] := trim_bad HAt.out (by omega)
                    rw [HE.out]; (repeat' split) <;> first | rfl | exact absurd hz' ‹_›)
                  have E := Lib.hid e
                  clear e
                  go_wp2
                  exact bodyPost_ret (v := clsV false 0 0 4) (by simp [results, Tryz.results68, go_sem, hc0, clsV]) rfl ⟨by rw [E.out], ((hbr.setCell (by simp) _).setCell (by simp) _).setCell (by simp) _⟩
                · have hpn := (HPr.out).step HAt.out (by omega) (by omega)
                  have hkk : k - 1 + 1 = k := by omega
                  rw [hkk] at hpn
                  have HPN := Lib.hid hpn
                  have hval : 10 * (m : Int) + (((s[k]'hlt).toNat : Int) - 48) = ((m * 10 + ((s[k]'hlt).toNat - 48) : Nat) : Int) := by omega
                  have HVl := Lib.hid hval
                  clear hpn hkk hval
                  go_wp2_with fail
                  go_region_with fail
                  all_goals
                    go_wp2
                    go_roundw
                    case rel =>
                      rw [HVl.out]
                      exact ⟨k + 1, _, by omega, by omega, by go_num, HPN, (hr0.other (by simp) _).drw, by simpa using (hr1.put 2 _).drw, ((hbr.setCell (by simp) _).drew)⟩
                    case measure => simp [intOf]; omega
            · have ⟨ht, hm'⟩ := (HPr.out).all (by rw [HD.out]; omega) HN.out
              have hcE : cE L m = gE m := by unfold cE; rw [if_neg (by omega)]
              have hz' : ¬ ((d.headD 0).toNat = 48 ∧ 1 < d.length) := by rw [HH.out, HD.out]; intro h; exact HZ.out (by omega)
              have hE' : prsE s.data.toList = gE m := by
                rw [HE.out, hm', ht]; (repeat' split) <;> first | rfl | omega | exact absurd ‹_› hz' | exact absurd rfl ‹_›
              have HC := Lib.hid hcE
              have HE' := Lib.hid hE'
              have HM := Lib.hid hm'
              clear ht hm' hcE hz' hE'
              go_wp2_with fail
              refine (rCheck_c _ _ _ _).mono ?_
              rintro e w5 ⟨rfl, hbb⟩
              rw [HC.out]
              have hr0 := hr0.next hbb
              have hr1 := hr1.next hbb
              have hb5 := hbr.trans (hbb.mono hbr.size)
              clear hbb hc0 hc1 hf0 hf1
              have hc1 := hr1.cell
              have hc0 := hr0.cell
              have hf0 := hr0.frozen
              have hf1 := hr1.frozen
              by_cases hg : gE m = 0
              · have e : prsV s.data.toList = clsV H L m 0 := by rw [HP.out, HE'.out, if_pos hg, HHr.out, HM.out]
                have E := Lib.hid e
                rw [hg]
                clear e hg
                go_wp2
                exact bodyPost_ret (v := clsV H L m 0) (by simp [results, Tryz.results68, go_sem, hc0, clsV]) rfl ⟨by rw [E.out], ((hb5.setCell (by simp) _).setCell (by simp) _).setCell (by simp) _⟩
              · have e : prsV s.data.toList = clsV false 0 0 (gE m) := by rw [HP.out, HE'.out, if_neg hg]
                have E := Lib.hid e
                have hx : (gE m == 0) = false := by simpa using hg
                clear e hg
                go_wp2
                exact bodyPost_ret (v := clsV false 0 0 (gE m)) (by simp [results, Tryz.results68, go_sem, hc0, clsV]) rfl ⟨by rw [E.out], ((hb5.setCell (by simp) _).setCell (by simp) _).setCell (by simp) _⟩

theorem rParse_c (s : ByteArray) (w : World) (hm : s.size ≤ 9223372036854775807) : Calls Tryz.prog 68 #[.string s] w fun e w' => e = .returned (prsV s.data.toList) ∧ Below w.heap.size w w' := by
  have hlen : s.data.toList.length = s.size := by simp
  by_cases h2 : s.size < 2
  · have e : prsE s.data.toList = 4 := by unfold prsE; rw [if_pos (Or.inl (by omega))]
    have e' : prsV s.data.toList = clsV false 0 0 4 := by unfold prsV; rw [e, if_neg (by decide)]
    rw [e']
    exact rParse_short s w h2
  · by_cases h4 : 4 < s.size
    · have e : prsE s.data.toList = 4 := by unfold prsE; rw [if_pos (Or.inr (by omega))]
      have e' : prsV s.data.toList = clsV false 0 0 4 := by unfold prsV; rw [e, if_neg (by decide)]
      rw [e']
      exact rParse_long s w h4 hm
    · exact rParse_mid s w (by omega) (by omega)
end Go.Proofs.YtldghloflegpmaaGreatDoor

namespace Go.Proofs.YtldghloflegpmaaGreatDoor
open Go.RowKit Pu Go.Lib

theorem dec_one (k : Nat) (h : k < 10) : (ByteArray.mk #[48, 49, 50, 51, 52, 53, 54, 55, 56, 57]).extract k (k + 1) = ⟨(Lib.decDigits k).toArray⟩ := by
  rw [Lib.decDigits, dif_pos h]
  match k, h with
  | 0, _ => rfl
  | 1, _ => rfl
  | 2, _ => rfl
  | 3, _ => rfl
  | 4, _ => rfl
  | 5, _ => rfl
  | 6, _ => rfl
  | 7, _ => rfl
  | 8, _ => rfl
  | 9, _ => rfl
theorem dig_at (k : Nat) (h : k < 10) : (ByteArray.mk #[48, 49, 50, 51, 52, 53, 54, 55, 56, 57]).extract k (k + 1) = ⟨#[UInt8.ofNat (48 + k)]⟩ := by
  rw [dec_one k h, Lib.decDigits, dif_pos h]
theorem dec_two (k : Nat) (h : k < 3) : Lib.decDigits (10 + k) = [49, UInt8.ofNat (48 + k)] := by
  rw [Lib.decDigits, dif_neg (by omega), show (10 + k) / 10 = 1 by omega, show (10 + k) % 10 = k by omega, Lib.decDigits, dif_pos (by omega)]
  rfl
theorem caps_at (i : Nat) (h : i < 10) : (ByteArray.mk #[68, 69, 70, 71, 72, 74, 75, 77, 78, 80]).extract i (i + 1) = ⟨#[cpL i]⟩ :=
  match i, h with
  | 0, _ => by decide
  | 1, _ => by decide
  | 2, _ => by decide
  | 3, _ => by decide
  | 4, _ => by decide
  | 5, _ => by decide
  | 6, _ => by decide
  | 7, _ => by decide
  | 8, _ => by decide
  | 9, _ => by decide
theorem two_bytes (r : Nat) (h : r < 3) : (⟨#[49]⟩ : ByteArray) ++ ⟨#[48 + UInt8.ofNat r]⟩ = ⟨[49, UInt8.ofNat (48 + r)].toArray⟩ :=
  match r, h with
  | 0, _ => rfl
  | 1, _ => rfl
  | 2, _ => rfl
theorem ret_one {a b : ByteArray} (h : a = b) : Ending.returned (.string a) = .returned (.string b) := by rw [h]

set_option maxHeartbeats 2000000 in
theorem digits_low (k : Nat) (w : World) (hk : k < 10) : Calls Tryz.prog 149 #[.int .i64 (k : Int)] w fun e w' => e = .returned (.string ⟨(Lib.decDigits k).toArray⟩) ∧ ∃ m, w' = w.drewN m := by
  have h1 : (k : Int) < 10 := by omega
  have h2 : (k : Int) ≤ (k : Int) + 1 := by omega
  have h3 : (k : Int) + 1 ≤ 10 := by omega
  have hx := Lib.hid (dec_one k hk)
  go_enter Tryz.func149, Tryz.ntmps149
  go_wp2
  go_ret
  exact ⟨ret_one hx.out, 0, rfl⟩
set_option maxHeartbeats 2000000 in
theorem digits_high (n : Int) (r : Nat) (w : World) (hk1 : 10 ≤ n) (hk : n < 13) (hr : n = 10 + r) : Calls Tryz.prog 149 #[.int .i64 n] w fun e w' => e = .returned (.string ⟨(Lib.decDigits (10 + r)).toArray⟩) ∧ ∃ m, w' = w.drewN m := by
  have h1 : ¬ n < 10 := by omega
  have q1 := Int.tdiv_eq_ediv_of_nonneg (a := n) (b := 10) (by omega)
  have q2 := Int.tmod_eq_emod_of_nonneg (a := n) (b := 10) (by omega)
  have h2 : n / 10 = 1 := by omega
  have h3 : n % 10 = (r : Int) := by omega
  have hr0 : (0 : Int) ≤ (r : Int) := by omega
  have hr1 : (r : Int) ≤ (r : Int) + 1 := by omega
  have hr2 : (r : Int) + 1 ≤ 10 := by omega
  have hx1 := dig_at r (by omega)
  have hx2 := dig_at 1 (by omega)
  have hd := Lib.hid (dec_two r (by omega))
  have hr3 : r < 3 := by omega
  clear hr
  go_enter Tryz.func149, Tryz.ntmps149
  go_wp2_with fail
  go_region
  go_wp2
  go_ret
  exact ⟨ret_one (by rw [hd.out]; exact two_bytes r hr3), 1, rfl⟩
/-- The digits of a grade. -/
theorem digits_c (g : Int) (w : World) (h5 : 5 ≤ g) (h12 : g ≤ 12) : Calls Tryz.prog 149 #[.int .i64 g] w fun e w' => e = .returned (.string ⟨(Lib.decDigits g.toNat).toArray⟩) ∧ ∃ m, w' = w.drewN m := by
  by_cases h : g < 10
  · obtain ⟨k, rfl⟩ : ∃ k : Nat, g = (k : Int) := ⟨g.toNat, by omega⟩
    exact digits_low k w (by omega)
  · obtain ⟨r, hr⟩ : ∃ r : Nat, g = 10 + (r : Int) := ⟨(g - 10).toNat, by omega⟩
    have := digits_high g r w (by omega) (by omega) hr
    rw [show g.toNat = 10 + r by omega]
    exact this

set_option maxRecDepth 100000 in
set_option maxHeartbeats 2000000 in
theorem rFormat_ok (h : Bool) (l g : Int) (w : World) (hl0 : 0 ≤ l) (hl9 : l ≤ 9) (h5 : 5 ≤ g) (h12 : g ≤ 12) : Calls Tryz.prog 100 #[.agg #[.bool h, .int .i64 l, .int .i64 g]] w
    fun e w' => e = .returned (.tuple #[.string ⟨(fmtL h l g).toArray⟩, .int .i64 0]) ∧ Below w.heap.size w w' := by
  obtain ⟨i, rfl⟩ : ∃ i : Nat, l = (i : Int) := ⟨l.toNat, by omega⟩
  have hi : i < 10 := by omega
  have hsm := small_at i hi
  have hcp := caps_at i hi
  have hdg := fun W => digits_c g W h5 h12
  have hd2 := dec_len (show g.toNat < 100 by omega)
  have hd9 : ¬ 9223372036854775807 < 1 + (Lib.decDigits g.toNat).length := by omega
  have hfm : fmtL h (i : Int) g = (if h then cpL i else smL i) :: Lib.decDigits g.toNat := rfl
  have HF := Lib.hid hfm
  generalize Lib.decDigits g.toNat = D at *
  have HG := Lib.hid hdg
  have hz : cE (i : Int) g = 0 := cE_ok.2 ⟨⟨hl0, hl9⟩, h5, h12⟩
  have Hz := Lib.hid hz
  have hi1 : (i : Int) ≤ (i : Int) + 1 := by omega
  have hi2 : (i : Int) + 1 ≤ 10 := by omega
  have hi3 : (0 : Int) ≤ (i : Int) + 1 := by omega
  have hw : IntKind.i64.wrap ((i : Int) + 1) = (i : Int) + 1 := by rw [IntWalk.i64_in _ (by omega)]
  clear hdg hz hd2 hfm
  cases h
  · go_enter Tryz.func100, Tryz.ntmps100
    go_wp2_with fail
    refine (rCheck_c _ _ _ _).mono ?_
    rintro e w2 ⟨rfl, hbb⟩
    rw [Hz.out]
    have hr0 := (Row.new w #[.bool false, .int .i64 i, .int .i64 g] 47).next hbb
    have hb2 := ((Below.refl _ w).alloc (Nat.le_refl _) (.cells #[.bool false, .int .i64 i, .int .i64 g] 47)).trans (hbb.mono (by simp))
    clear hbb
    have hc0 := hr0.cell
    go_wp2_with fail
    go_quiet ((go_at_call 149; exact Calls.quiet_of (HG.out _)))
    go_wp2
    go_ret2
    exact ⟨ret_str (by rw [cons_bytes, HF.out]; rfl), hb2.trans ⟨rfl, rfl, rfl, Nat.le_refl _, fun _ _ => rfl⟩⟩
  · go_enter Tryz.func100, Tryz.ntmps100
    go_wp2_with fail
    refine (rCheck_c _ _ _ _).mono ?_
    rintro e w2 ⟨rfl, hbb⟩
    rw [Hz.out]
    have hr0 := (Row.new w #[.bool true, .int .i64 i, .int .i64 g] 47).next hbb
    have hb2 := ((Below.refl _ w).alloc (Nat.le_refl _) (.cells #[.bool true, .int .i64 i, .int .i64 g] 47)).trans (hbb.mono (by simp))
    clear hbb
    have hc0 := hr0.cell
    go_wp2_with fail
    go_quiet ((go_at_call 149; exact Calls.quiet_of (HG.out _)))
    go_wp2
    go_ret2
    exact ⟨ret_str (by rw [cons_bytes, HF.out]; rfl), hb2.trans ⟨rfl, rfl, rfl, Nat.le_refl _, fun _ _ => rfl⟩⟩

set_option maxHeartbeats 1000000 in
theorem rFormat_err (h : Bool) (l g x : Int) (w : World) (hc : cE l g = x) (hx : (x == 0) = false) : Calls Tryz.prog 100 #[.agg #[.bool h, .int .i64 l, .int .i64 g]] w
    fun e w' => e = .returned (.tuple #[.string ⟨#[]⟩, .int .i64 x]) ∧ Below w.heap.size w w' := by
  have Hc := Lib.hid hc
  clear hc
  go_enter Tryz.func100, Tryz.ntmps100
  go_wp2_with fail
  refine (rCheck_c _ _ _ _).mono ?_
  rintro e w2 ⟨rfl, hbb⟩
  rw [Hc.out]
  have hb2 := ((Below.refl _ w).alloc (Nat.le_refl _) (.cells #[.bool h, .int .i64 l, .int .i64 g] 47)).trans (hbb.mono (by simp))
  go_wp2
  go_ret2
  exact ⟨rfl, hb2⟩
theorem rFormat_c (h : Bool) (l g : Int) (w : World) : Calls Tryz.prog 100 #[.agg #[.bool h, .int .i64 l, .int .i64 g]] w fun e w' => e = .returned (fmtV h l g) ∧ Below w.heap.size w w' := by
  unfold fmtV
  by_cases hc : cE l g = 0
  · rw [if_pos hc]
    obtain ⟨⟨a, b⟩, c, d⟩ := cE_ok.1 hc
    exact rFormat_ok h l g w a b c d
  · rw [if_neg hc]
    exact rFormat_err h l g _ w rfl (cE_ne hc)
end Go.Proofs.YtldghloflegpmaaGreatDoor

namespace Go.Proofs.YtldghloflegpmaaGreatDoor
open Go.RowKit Go.Lib

/-- One, two, three blocks whose cells are known, and what lay below. -/
def H1 (B : Nat) (w0 : World) (b0 : Nat) (c0 : Array Value) (T0 : TypeId) (w : World) : Prop := (B ≤ w0.heap.size ∧ Below B w0 w) ∧ Row w b0 c0 T0
def S1 (B : Nat) (w0 : World) (b0 : Nat) (c0 : Array Value) (T0 : TypeId) (w : World) : Prop := H1 B w0 b0 c0 T0 w ∧ (∀ j, w.cell? ⟨b0, j, none⟩ = c0[j]?)
theorem S1.of {B : Nat} {w0 : World} {b0 : Nat} {c0 : Array Value} {T0 : TypeId} {w : World} (h : H1 B w0 b0 c0 T0 w) : S1 B w0 b0 c0 T0 w := ⟨h, h.2.cell⟩
theorem S1.drew {B : Nat} {w0 : World} {b0 : Nat} {c0 : Array Value} {T0 : TypeId} {w : World} (h : S1 B w0 b0 c0 T0 w) : S1 B w0 b0 c0 T0 w.drew := S1.of ⟨⟨h.1.1.1, h.1.1.2.drew⟩, h.1.2.drw⟩
theorem S1.call {B : Nat} {w0 : World} {b0 : Nat} {c0 : Array Value} {T0 : TypeId} {w w' : World} (h : S1 B w0 b0 c0 T0 w) (hb : Below w.heap.size w w') : S1 B w0 b0 c0 T0 w' := S1.of ⟨⟨h.1.1.1, h.1.1.2.trans (hb.mono (Nat.le_trans h.1.1.1 h.1.1.2.size))⟩, h.1.2.next hb⟩
def H2 (B : Nat) (w0 : World) (b0 : Nat) (c0 : Array Value) (T0 : TypeId) (b1 : Nat) (c1 : Array Value) (T1 : TypeId) (w : World) : Prop := (B ≤ w0.heap.size ∧ Below B w0 w) ∧ Row w b0 c0 T0 ∧ Row w b1 c1 T1
def S2 (B : Nat) (w0 : World) (b0 : Nat) (c0 : Array Value) (T0 : TypeId) (b1 : Nat) (c1 : Array Value) (T1 : TypeId) (w : World) : Prop := H2 B w0 b0 c0 T0 b1 c1 T1 w ∧ (∀ j, w.cell? ⟨b0, j, none⟩ = c0[j]?) ∧ (∀ j, w.cell? ⟨b1, j, none⟩ = c1[j]?)
theorem S2.of {B : Nat} {w0 : World} {b0 : Nat} {c0 : Array Value} {T0 : TypeId} {b1 : Nat} {c1 : Array Value} {T1 : TypeId} {w : World} (h : H2 B w0 b0 c0 T0 b1 c1 T1 w) : S2 B w0 b0 c0 T0 b1 c1 T1 w := ⟨h, h.2.1.cell, h.2.2.cell⟩
theorem S2.drew {B : Nat} {w0 : World} {b0 : Nat} {c0 : Array Value} {T0 : TypeId} {b1 : Nat} {c1 : Array Value} {T1 : TypeId} {w : World} (h : S2 B w0 b0 c0 T0 b1 c1 T1 w) : S2 B w0 b0 c0 T0 b1 c1 T1 w.drew := S2.of ⟨⟨h.1.1.1, h.1.1.2.drew⟩, h.1.2.1.drw, h.1.2.2.drw⟩
theorem S2.call {B : Nat} {w0 : World} {b0 : Nat} {c0 : Array Value} {T0 : TypeId} {b1 : Nat} {c1 : Array Value} {T1 : TypeId} {w w' : World} (h : S2 B w0 b0 c0 T0 b1 c1 T1 w) (hb : Below w.heap.size w w') : S2 B w0 b0 c0 T0 b1 c1 T1 w' := S2.of ⟨⟨h.1.1.1, h.1.1.2.trans (hb.mono (Nat.le_trans h.1.1.1 h.1.1.2.size))⟩, h.1.2.1.next hb, h.1.2.2.next hb⟩
def H3 (B : Nat) (w0 : World) (b0 : Nat) (c0 : Array Value) (T0 : TypeId) (b1 : Nat) (c1 : Array Value) (T1 : TypeId) (b2 : Nat) (c2 : Array Value) (T2 : TypeId) (w : World) : Prop := (B ≤ w0.heap.size ∧ Below B w0 w) ∧ Row w b0 c0 T0 ∧ Row w b1 c1 T1 ∧ Row w b2 c2 T2
def S3 (B : Nat) (w0 : World) (b0 : Nat) (c0 : Array Value) (T0 : TypeId) (b1 : Nat) (c1 : Array Value) (T1 : TypeId) (b2 : Nat) (c2 : Array Value) (T2 : TypeId) (w : World) : Prop := H3 B w0 b0 c0 T0 b1 c1 T1 b2 c2 T2 w ∧ (∀ j, w.cell? ⟨b0, j, none⟩ = c0[j]?) ∧ (∀ j, w.cell? ⟨b1, j, none⟩ = c1[j]?) ∧ (∀ j, w.cell? ⟨b2, j, none⟩ = c2[j]?)
theorem S3.of {B : Nat} {w0 : World} {b0 : Nat} {c0 : Array Value} {T0 : TypeId} {b1 : Nat} {c1 : Array Value} {T1 : TypeId} {b2 : Nat} {c2 : Array Value} {T2 : TypeId} {w : World} (h : H3 B w0 b0 c0 T0 b1 c1 T1 b2 c2 T2 w) : S3 B w0 b0 c0 T0 b1 c1 T1 b2 c2 T2 w := ⟨h, h.2.1.cell, h.2.2.1.cell, h.2.2.2.cell⟩
theorem S3.drew {B : Nat} {w0 : World} {b0 : Nat} {c0 : Array Value} {T0 : TypeId} {b1 : Nat} {c1 : Array Value} {T1 : TypeId} {b2 : Nat} {c2 : Array Value} {T2 : TypeId} {w : World} (h : S3 B w0 b0 c0 T0 b1 c1 T1 b2 c2 T2 w) : S3 B w0 b0 c0 T0 b1 c1 T1 b2 c2 T2 w.drew := S3.of ⟨⟨h.1.1.1, h.1.1.2.drew⟩, h.1.2.1.drw, h.1.2.2.1.drw, h.1.2.2.2.drw⟩
theorem S3.call {B : Nat} {w0 : World} {b0 : Nat} {c0 : Array Value} {T0 : TypeId} {b1 : Nat} {c1 : Array Value} {T1 : TypeId} {b2 : Nat} {c2 : Array Value} {T2 : TypeId} {w w' : World} (h : S3 B w0 b0 c0 T0 b1 c1 T1 b2 c2 T2 w) (hb : Below w.heap.size w w') : S3 B w0 b0 c0 T0 b1 c1 T1 b2 c2 T2 w' := S3.of ⟨⟨h.1.1.1, h.1.1.2.trans (hb.mono (Nat.le_trans h.1.1.1 h.1.1.2.size))⟩, h.1.2.1.next hb, h.1.2.2.1.next hb, h.1.2.2.2.next hb⟩
end Go.Proofs.YtldghloflegpmaaGreatDoor

namespace Go.Proofs.YtldghloflegpmaaGreatDoor
open Go.RowKit Go.Lib

/-- Some blocks whose cells are known, and what lay below. -/
def HL (B : Nat) (w0 : World) (R : List (Nat × Array Value × TypeId)) (w : World) : Prop := (B ≤ w0.heap.size ∧ Below B w0 w) ∧ ∀ r ∈ R, Row w r.1 r.2.1 r.2.2
theorem HL.drew {B : Nat} {w0 : World} {R : List (Nat × Array Value × TypeId)} {w : World} (h : HL B w0 R w) : HL B w0 R w.drew := ⟨⟨h.1.1, h.1.2.drew⟩, fun r hr => (h.2 r hr).drw⟩
theorem HL.call {B : Nat} {w0 : World} {R : List (Nat × Array Value × TypeId)} {w w' : World} (h : HL B w0 R w) (hb : Below w.heap.size w w') : HL B w0 R w' :=
  ⟨⟨h.1.1, h.1.2.trans (hb.mono (Nat.le_trans h.1.1 h.1.2.size))⟩, fun r hr => (h.2 r hr).next hb⟩
theorem HL.al {B : Nat} {w0 : World} {R : List (Nat × Array Value × TypeId)} {w : World} {o : Obj} (h : HL B w0 R w) : HL B w0 R (w.alloc o) :=
  ⟨⟨h.1.1, h.1.2.alloc (Nat.le_trans h.1.1 h.1.2.size) _⟩, fun r hr => (h.2 r hr).alloc _⟩
def L1 (B : Nat) (w0 : World) (b0 : Nat) (c0 : Array Value) (T0 : TypeId) (w : World) : Prop := HL B w0 [(b0, c0, T0)] w ∧ (∀ j, w.cell? ⟨b0, j, none⟩ = c0[j]?)
theorem L1.of {B : Nat} {w0 : World} {b0 : Nat} {c0 : Array Value} {T0 : TypeId} {w : World} (h : HL B w0 [(b0, c0, T0)] w) : L1 B w0 b0 c0 T0 w := ⟨h, (h.2 (b0, c0, T0) (by simp)).cell⟩
theorem L1.drew {B : Nat} {w0 : World} {b0 : Nat} {c0 : Array Value} {T0 : TypeId} {w : World} (h : L1 B w0 b0 c0 T0 w) : L1 B w0 b0 c0 T0 w.drew := L1.of h.1.drew
theorem L1.call {B : Nat} {w0 : World} {b0 : Nat} {c0 : Array Value} {T0 : TypeId} {w w' : World} (h : L1 B w0 b0 c0 T0 w) (hb : Below w.heap.size w w') : L1 B w0 b0 c0 T0 w' := L1.of (h.1.call hb)
theorem L1.al {B : Nat} {w0 : World} {b0 : Nat} {c0 : Array Value} {T0 : TypeId} {w : World} {o : Obj} (h : L1 B w0 b0 c0 T0 w) : L1 B w0 b0 c0 T0 (w.alloc o) := L1.of h.1.al
theorem L1.mk {B : Nat} {w0 : World} {b0 : Nat} {c0 : Array Value} {T0 : TypeId} {w : World} (h0 : B ≤ w0.heap.size) (h : Below B w0 w) (r0 : Row w b0 c0 T0) : L1 B w0 b0 c0 T0 w := L1.of ⟨⟨h0, h⟩, by simp only [List.forall_mem_cons]; exact ⟨r0, by simp⟩⟩
theorem L1.out {B : Nat} {w0 : World} {b0 : Nat} {c0 : Array Value} {T0 : TypeId} {w : World} (h : L1 B w0 b0 c0 T0 w) : Below B w0 w ∧ Row w b0 c0 T0 := ⟨h.1.1.2, h.1.2 (b0, c0, T0) (by simp)⟩
def L2 (B : Nat) (w0 : World) (b0 : Nat) (c0 : Array Value) (T0 : TypeId) (b1 : Nat) (c1 : Array Value) (T1 : TypeId) (w : World) : Prop := HL B w0 [(b0, c0, T0), (b1, c1, T1)] w ∧ (∀ j, w.cell? ⟨b0, j, none⟩ = c0[j]?) ∧ (∀ j, w.cell? ⟨b1, j, none⟩ = c1[j]?)
theorem L2.of {B : Nat} {w0 : World} {b0 : Nat} {c0 : Array Value} {T0 : TypeId} {b1 : Nat} {c1 : Array Value} {T1 : TypeId} {w : World} (h : HL B w0 [(b0, c0, T0), (b1, c1, T1)] w) : L2 B w0 b0 c0 T0 b1 c1 T1 w := ⟨h, (h.2 (b0, c0, T0) (by simp)).cell, (h.2 (b1, c1, T1) (by simp)).cell⟩
theorem L2.drew {B : Nat} {w0 : World} {b0 : Nat} {c0 : Array Value} {T0 : TypeId} {b1 : Nat} {c1 : Array Value} {T1 : TypeId} {w : World} (h : L2 B w0 b0 c0 T0 b1 c1 T1 w) : L2 B w0 b0 c0 T0 b1 c1 T1 w.drew := L2.of h.1.drew
theorem L2.call {B : Nat} {w0 : World} {b0 : Nat} {c0 : Array Value} {T0 : TypeId} {b1 : Nat} {c1 : Array Value} {T1 : TypeId} {w w' : World} (h : L2 B w0 b0 c0 T0 b1 c1 T1 w) (hb : Below w.heap.size w w') : L2 B w0 b0 c0 T0 b1 c1 T1 w' := L2.of (h.1.call hb)
theorem L2.al {B : Nat} {w0 : World} {b0 : Nat} {c0 : Array Value} {T0 : TypeId} {b1 : Nat} {c1 : Array Value} {T1 : TypeId} {w : World} {o : Obj} (h : L2 B w0 b0 c0 T0 b1 c1 T1 w) : L2 B w0 b0 c0 T0 b1 c1 T1 (w.alloc o) := L2.of h.1.al
theorem L2.mk {B : Nat} {w0 : World} {b0 : Nat} {c0 : Array Value} {T0 : TypeId} {b1 : Nat} {c1 : Array Value} {T1 : TypeId} {w : World} (h0 : B ≤ w0.heap.size) (h : Below B w0 w) (r0 : Row w b0 c0 T0) (r1 : Row w b1 c1 T1) : L2 B w0 b0 c0 T0 b1 c1 T1 w := L2.of ⟨⟨h0, h⟩, by simp only [List.forall_mem_cons]; exact ⟨r0, r1, by simp⟩⟩
theorem L2.out {B : Nat} {w0 : World} {b0 : Nat} {c0 : Array Value} {T0 : TypeId} {b1 : Nat} {c1 : Array Value} {T1 : TypeId} {w : World} (h : L2 B w0 b0 c0 T0 b1 c1 T1 w) : Below B w0 w ∧ Row w b0 c0 T0 ∧ Row w b1 c1 T1 := ⟨h.1.1.2, h.1.2 (b0, c0, T0) (by simp), h.1.2 (b1, c1, T1) (by simp)⟩
def L3 (B : Nat) (w0 : World) (b0 : Nat) (c0 : Array Value) (T0 : TypeId) (b1 : Nat) (c1 : Array Value) (T1 : TypeId) (b2 : Nat) (c2 : Array Value) (T2 : TypeId) (w : World) : Prop := HL B w0 [(b0, c0, T0), (b1, c1, T1), (b2, c2, T2)] w ∧ (∀ j, w.cell? ⟨b0, j, none⟩ = c0[j]?) ∧ (∀ j, w.cell? ⟨b1, j, none⟩ = c1[j]?) ∧ (∀ j, w.cell? ⟨b2, j, none⟩ = c2[j]?)
theorem L3.of {B : Nat} {w0 : World} {b0 : Nat} {c0 : Array Value} {T0 : TypeId} {b1 : Nat} {c1 : Array Value} {T1 : TypeId} {b2 : Nat} {c2 : Array Value} {T2 : TypeId} {w : World} (h : HL B w0 [(b0, c0, T0), (b1, c1, T1), (b2, c2, T2)] w) : L3 B w0 b0 c0 T0 b1 c1 T1 b2 c2 T2 w := ⟨h, (h.2 (b0, c0, T0) (by simp)).cell, (h.2 (b1, c1, T1) (by simp)).cell, (h.2 (b2, c2, T2) (by simp)).cell⟩
theorem L3.drew {B : Nat} {w0 : World} {b0 : Nat} {c0 : Array Value} {T0 : TypeId} {b1 : Nat} {c1 : Array Value} {T1 : TypeId} {b2 : Nat} {c2 : Array Value} {T2 : TypeId} {w : World} (h : L3 B w0 b0 c0 T0 b1 c1 T1 b2 c2 T2 w) : L3 B w0 b0 c0 T0 b1 c1 T1 b2 c2 T2 w.drew := L3.of h.1.drew
theorem L3.call {B : Nat} {w0 : World} {b0 : Nat} {c0 : Array Value} {T0 : TypeId} {b1 : Nat} {c1 : Array Value} {T1 : TypeId} {b2 : Nat} {c2 : Array Value} {T2 : TypeId} {w w' : World} (h : L3 B w0 b0 c0 T0 b1 c1 T1 b2 c2 T2 w) (hb : Below w.heap.size w w') : L3 B w0 b0 c0 T0 b1 c1 T1 b2 c2 T2 w' := L3.of (h.1.call hb)
theorem L3.al {B : Nat} {w0 : World} {b0 : Nat} {c0 : Array Value} {T0 : TypeId} {b1 : Nat} {c1 : Array Value} {T1 : TypeId} {b2 : Nat} {c2 : Array Value} {T2 : TypeId} {w : World} {o : Obj} (h : L3 B w0 b0 c0 T0 b1 c1 T1 b2 c2 T2 w) : L3 B w0 b0 c0 T0 b1 c1 T1 b2 c2 T2 (w.alloc o) := L3.of h.1.al
theorem L3.mk {B : Nat} {w0 : World} {b0 : Nat} {c0 : Array Value} {T0 : TypeId} {b1 : Nat} {c1 : Array Value} {T1 : TypeId} {b2 : Nat} {c2 : Array Value} {T2 : TypeId} {w : World} (h0 : B ≤ w0.heap.size) (h : Below B w0 w) (r0 : Row w b0 c0 T0) (r1 : Row w b1 c1 T1) (r2 : Row w b2 c2 T2) : L3 B w0 b0 c0 T0 b1 c1 T1 b2 c2 T2 w := L3.of ⟨⟨h0, h⟩, by simp only [List.forall_mem_cons]; exact ⟨r0, r1, r2, by simp⟩⟩
theorem L3.out {B : Nat} {w0 : World} {b0 : Nat} {c0 : Array Value} {T0 : TypeId} {b1 : Nat} {c1 : Array Value} {T1 : TypeId} {b2 : Nat} {c2 : Array Value} {T2 : TypeId} {w : World} (h : L3 B w0 b0 c0 T0 b1 c1 T1 b2 c2 T2 w) : Below B w0 w ∧ Row w b0 c0 T0 ∧ Row w b1 c1 T1 ∧ Row w b2 c2 T2 := ⟨h.1.1.2, h.1.2 (b0, c0, T0) (by simp), h.1.2 (b1, c1, T1) (by simp), h.1.2 (b2, c2, T2) (by simp)⟩
def L4 (B : Nat) (w0 : World) (b0 : Nat) (c0 : Array Value) (T0 : TypeId) (b1 : Nat) (c1 : Array Value) (T1 : TypeId) (b2 : Nat) (c2 : Array Value) (T2 : TypeId) (b3 : Nat) (c3 : Array Value) (T3 : TypeId) (w : World) : Prop := HL B w0 [(b0, c0, T0), (b1, c1, T1), (b2, c2, T2), (b3, c3, T3)] w ∧ (∀ j, w.cell? ⟨b0, j, none⟩ = c0[j]?) ∧ (∀ j, w.cell? ⟨b1, j, none⟩ = c1[j]?) ∧ (∀ j, w.cell? ⟨b2, j, none⟩ = c2[j]?) ∧ (∀ j, w.cell? ⟨b3, j, none⟩ = c3[j]?)
theorem L4.of {B : Nat} {w0 : World} {b0 : Nat} {c0 : Array Value} {T0 : TypeId} {b1 : Nat} {c1 : Array Value} {T1 : TypeId} {b2 : Nat} {c2 : Array Value} {T2 : TypeId} {b3 : Nat} {c3 : Array Value} {T3 : TypeId} {w : World} (h : HL B w0 [(b0, c0, T0), (b1, c1, T1), (b2, c2, T2), (b3, c3, T3)] w) : L4 B w0 b0 c0 T0 b1 c1 T1 b2 c2 T2 b3 c3 T3 w := ⟨h, (h.2 (b0, c0, T0) (by simp)).cell, (h.2 (b1, c1, T1) (by simp)).cell, (h.2 (b2, c2, T2) (by simp)).cell, (h.2 (b3, c3, T3) (by simp)).cell⟩
theorem L4.drew {B : Nat} {w0 : World} {b0 : Nat} {c0 : Array Value} {T0 : TypeId} {b1 : Nat} {c1 : Array Value} {T1 : TypeId} {b2 : Nat} {c2 : Array Value} {T2 : TypeId} {b3 : Nat} {c3 : Array Value} {T3 : TypeId} {w : World} (h : L4 B w0 b0 c0 T0 b1 c1 T1 b2 c2 T2 b3 c3 T3 w) : L4 B w0 b0 c0 T0 b1 c1 T1 b2 c2 T2 b3 c3 T3 w.drew := L4.of h.1.drew
theorem L4.call {B : Nat} {w0 : World} {b0 : Nat} {c0 : Array Value} {T0 : TypeId} {b1 : Nat} {c1 : Array Value} {T1 : TypeId} {b2 : Nat} {c2 : Array Value} {T2 : TypeId} {b3 : Nat} {c3 : Array Value} {T3 : TypeId} {w w' : World} (h : L4 B w0 b0 c0 T0 b1 c1 T1 b2 c2 T2 b3 c3 T3 w) (hb : Below w.heap.size w w') : L4 B w0 b0 c0 T0 b1 c1 T1 b2 c2 T2 b3 c3 T3 w' := L4.of (h.1.call hb)
theorem L4.al {B : Nat} {w0 : World} {b0 : Nat} {c0 : Array Value} {T0 : TypeId} {b1 : Nat} {c1 : Array Value} {T1 : TypeId} {b2 : Nat} {c2 : Array Value} {T2 : TypeId} {b3 : Nat} {c3 : Array Value} {T3 : TypeId} {w : World} {o : Obj} (h : L4 B w0 b0 c0 T0 b1 c1 T1 b2 c2 T2 b3 c3 T3 w) : L4 B w0 b0 c0 T0 b1 c1 T1 b2 c2 T2 b3 c3 T3 (w.alloc o) := L4.of h.1.al
theorem L4.mk {B : Nat} {w0 : World} {b0 : Nat} {c0 : Array Value} {T0 : TypeId} {b1 : Nat} {c1 : Array Value} {T1 : TypeId} {b2 : Nat} {c2 : Array Value} {T2 : TypeId} {b3 : Nat} {c3 : Array Value} {T3 : TypeId} {w : World} (h0 : B ≤ w0.heap.size) (h : Below B w0 w) (r0 : Row w b0 c0 T0) (r1 : Row w b1 c1 T1) (r2 : Row w b2 c2 T2) (r3 : Row w b3 c3 T3) : L4 B w0 b0 c0 T0 b1 c1 T1 b2 c2 T2 b3 c3 T3 w := L4.of ⟨⟨h0, h⟩, by simp only [List.forall_mem_cons]; exact ⟨r0, r1, r2, r3, by simp⟩⟩
theorem L4.out {B : Nat} {w0 : World} {b0 : Nat} {c0 : Array Value} {T0 : TypeId} {b1 : Nat} {c1 : Array Value} {T1 : TypeId} {b2 : Nat} {c2 : Array Value} {T2 : TypeId} {b3 : Nat} {c3 : Array Value} {T3 : TypeId} {w : World} (h : L4 B w0 b0 c0 T0 b1 c1 T1 b2 c2 T2 b3 c3 T3 w) : Below B w0 w ∧ Row w b0 c0 T0 ∧ Row w b1 c1 T1 ∧ Row w b2 c2 T2 ∧ Row w b3 c3 T3 := ⟨h.1.1.2, h.1.2 (b0, c0, T0) (by simp), h.1.2 (b1, c1, T1) (by simp), h.1.2 (b2, c2, T2) (by simp), h.1.2 (b3, c3, T3) (by simp)⟩
def L5 (B : Nat) (w0 : World) (b0 : Nat) (c0 : Array Value) (T0 : TypeId) (b1 : Nat) (c1 : Array Value) (T1 : TypeId) (b2 : Nat) (c2 : Array Value) (T2 : TypeId) (b3 : Nat) (c3 : Array Value) (T3 : TypeId) (b4 : Nat) (c4 : Array Value) (T4 : TypeId) (w : World) : Prop := HL B w0 [(b0, c0, T0), (b1, c1, T1), (b2, c2, T2), (b3, c3, T3), (b4, c4, T4)] w ∧ (∀ j, w.cell? ⟨b0, j, none⟩ = c0[j]?) ∧ (∀ j, w.cell? ⟨b1, j, none⟩ = c1[j]?) ∧ (∀ j, w.cell? ⟨b2, j, none⟩ = c2[j]?) ∧ (∀ j, w.cell? ⟨b3, j, none⟩ = c3[j]?) ∧ (∀ j, w.cell? ⟨b4, j, none⟩ = c4[j]?)
theorem L5.of {B : Nat} {w0 : World} {b0 : Nat} {c0 : Array Value} {T0 : TypeId} {b1 : Nat} {c1 : Array Value} {T1 : TypeId} {b2 : Nat} {c2 : Array Value} {T2 : TypeId} {b3 : Nat} {c3 : Array Value} {T3 : TypeId} {b4 : Nat} {c4 : Array Value} {T4 : TypeId} {w : World} (h : HL B w0 [(b0, c0, T0), (b1, c1, T1), (b2, c2, T2), (b3, c3, T3), (b4, c4, T4)] w) : L5 B w0 b0 c0 T0 b1 c1 T1 b2 c2 T2 b3 c3 T3 b4 c4 T4 w := ⟨h, (h.2 (b0, c0, T0) (by simp)).cell, (h.2 (b1, c1, T1) (by simp)).cell, (h.2 (b2, c2, T2) (by simp)).cell, (h.2 (b3, c3, T3) (by simp)).cell, (h.2 (b4, c4, T4) (by simp)).cell⟩
theorem L5.drew {B : Nat} {w0 : World} {b0 : Nat} {c0 : Array Value} {T0 : TypeId} {b1 : Nat} {c1 : Array Value} {T1 : TypeId} {b2 : Nat} {c2 : Array Value} {T2 : TypeId} {b3 : Nat} {c3 : Array Value} {T3 : TypeId} {b4 : Nat} {c4 : Array Value} {T4 : TypeId} {w : World} (h : L5 B w0 b0 c0 T0 b1 c1 T1 b2 c2 T2 b3 c3 T3 b4 c4 T4 w) : L5 B w0 b0 c0 T0 b1 c1 T1 b2 c2 T2 b3 c3 T3 b4 c4 T4 w.drew := L5.of h.1.drew
theorem L5.call {B : Nat} {w0 : World} {b0 : Nat} {c0 : Array Value} {T0 : TypeId} {b1 : Nat} {c1 : Array Value} {T1 : TypeId} {b2 : Nat} {c2 : Array Value} {T2 : TypeId} {b3 : Nat} {c3 : Array Value} {T3 : TypeId} {b4 : Nat} {c4 : Array Value} {T4 : TypeId} {w w' : World} (h : L5 B w0 b0 c0 T0 b1 c1 T1 b2 c2 T2 b3 c3 T3 b4 c4 T4 w) (hb : Below w.heap.size w w') : L5 B w0 b0 c0 T0 b1 c1 T1 b2 c2 T2 b3 c3 T3 b4 c4 T4 w' := L5.of (h.1.call hb)
theorem L5.al {B : Nat} {w0 : World} {b0 : Nat} {c0 : Array Value} {T0 : TypeId} {b1 : Nat} {c1 : Array Value} {T1 : TypeId} {b2 : Nat} {c2 : Array Value} {T2 : TypeId} {b3 : Nat} {c3 : Array Value} {T3 : TypeId} {b4 : Nat} {c4 : Array Value} {T4 : TypeId} {w : World} {o : Obj} (h : L5 B w0 b0 c0 T0 b1 c1 T1 b2 c2 T2 b3 c3 T3 b4 c4 T4 w) : L5 B w0 b0 c0 T0 b1 c1 T1 b2 c2 T2 b3 c3 T3 b4 c4 T4 (w.alloc o) := L5.of h.1.al
theorem L5.mk {B : Nat} {w0 : World} {b0 : Nat} {c0 : Array Value} {T0 : TypeId} {b1 : Nat} {c1 : Array Value} {T1 : TypeId} {b2 : Nat} {c2 : Array Value} {T2 : TypeId} {b3 : Nat} {c3 : Array Value} {T3 : TypeId} {b4 : Nat} {c4 : Array Value} {T4 : TypeId} {w : World} (h0 : B ≤ w0.heap.size) (h : Below B w0 w) (r0 : Row w b0 c0 T0) (r1 : Row w b1 c1 T1) (r2 : Row w b2 c2 T2) (r3 : Row w b3 c3 T3) (r4 : Row w b4 c4 T4) : L5 B w0 b0 c0 T0 b1 c1 T1 b2 c2 T2 b3 c3 T3 b4 c4 T4 w := L5.of ⟨⟨h0, h⟩, by simp only [List.forall_mem_cons]; exact ⟨r0, r1, r2, r3, r4, by simp⟩⟩
theorem L5.out {B : Nat} {w0 : World} {b0 : Nat} {c0 : Array Value} {T0 : TypeId} {b1 : Nat} {c1 : Array Value} {T1 : TypeId} {b2 : Nat} {c2 : Array Value} {T2 : TypeId} {b3 : Nat} {c3 : Array Value} {T3 : TypeId} {b4 : Nat} {c4 : Array Value} {T4 : TypeId} {w : World} (h : L5 B w0 b0 c0 T0 b1 c1 T1 b2 c2 T2 b3 c3 T3 b4 c4 T4 w) : Below B w0 w ∧ Row w b0 c0 T0 ∧ Row w b1 c1 T1 ∧ Row w b2 c2 T2 ∧ Row w b3 c3 T3 ∧ Row w b4 c4 T4 := ⟨h.1.1.2, h.1.2 (b0, c0, T0) (by simp), h.1.2 (b1, c1, T1) (by simp), h.1.2 (b2, c2, T2) (by simp), h.1.2 (b3, c3, T3) (by simp), h.1.2 (b4, c4, T4) (by simp)⟩
def L6 (B : Nat) (w0 : World) (b0 : Nat) (c0 : Array Value) (T0 : TypeId) (b1 : Nat) (c1 : Array Value) (T1 : TypeId) (b2 : Nat) (c2 : Array Value) (T2 : TypeId) (b3 : Nat) (c3 : Array Value) (T3 : TypeId) (b4 : Nat) (c4 : Array Value) (T4 : TypeId) (b5 : Nat) (c5 : Array Value) (T5 : TypeId) (w : World) : Prop := HL B w0 [(b0, c0, T0), (b1, c1, T1), (b2, c2, T2), (b3, c3, T3), (b4, c4, T4), (b5, c5, T5)] w ∧ (∀ j, w.cell? ⟨b0, j, none⟩ = c0[j]?) ∧ (∀ j, w.cell? ⟨b1, j, none⟩ = c1[j]?) ∧ (∀ j, w.cell? ⟨b2, j, none⟩ = c2[j]?) ∧ (∀ j, w.cell? ⟨b3, j, none⟩ = c3[j]?) ∧ (∀ j, w.cell? ⟨b4, j, none⟩ = c4[j]?) ∧ (∀ j, w.cell? ⟨b5, j, none⟩ = c5[j]?)
theorem L6.of {B : Nat} {w0 : World} {b0 : Nat} {c0 : Array Value} {T0 : TypeId} {b1 : Nat} {c1 : Array Value} {T1 : TypeId} {b2 : Nat} {c2 : Array Value} {T2 : TypeId} {b3 : Nat} {c3 : Array Value} {T3 : TypeId} {b4 : Nat} {c4 : Array Value} {T4 : TypeId} {b5 : Nat} {c5 : Array Value} {T5 : TypeId} {w : World} (h : HL B w0 [(b0, c0, T0), (b1, c1, T1), (b2, c2, T2), (b3, c3, T3), (b4, c4, T4), (b5, c5, T5)] w) : L6 B w0 b0 c0 T0 b1 c1 T1 b2 c2 T2 b3 c3 T3 b4 c4 T4 b5 c5 T5 w := ⟨h, (h.2 (b0, c0, T0) (by simp)).cell, (h.2 (b1, c1, T1) (by simp)).cell, (h.2 (b2, c2, T2) (by simp)).cell, (h.2 (b3, c3, T3) (by simp)).cell, (h.2 (b4, c4, T4) (by simp)).cell, (h.2 (b5, c5, T5) (by simp)).cell⟩
theorem L6.drew {B : Nat} {w0 : World} {b0 : Nat} {c0 : Array Value} {T0 : TypeId} {b1 : Nat} {c1 : Array Value} {T1 : TypeId} {b2 : Nat} {c2 : Array Value} {T2 : TypeId} {b3 : Nat} {c3 : Array Value} {T3 : TypeId} {b4 : Nat} {c4 : Array Value} {T4 : TypeId} {b5 : Nat} {c5 : Array Value} {T5 : TypeId} {w : World} (h : L6 B w0 b0 c0 T0 b1 c1 T1 b2 c2 T2 b3 c3 T3 b4 c4 T4 b5 c5 T5 w) : L6 B w0 b0 c0 T0 b1 c1 T1 b2 c2 T2 b3 c3 T3 b4 c4 T4 b5 c5 T5 w.drew := L6.of h.1.drew
theorem L6.call {B : Nat} {w0 : World} {b0 : Nat} {c0 : Array Value} {T0 : TypeId} {b1 : Nat} {c1 : Array Value} {T1 : TypeId} {b2 : Nat} {c2 : Array Value} {T2 : TypeId} {b3 : Nat} {c3 : Array Value} {T3 : TypeId} {b4 : Nat} {c4 : Array Value} {T4 : TypeId} {b5 : Nat} {c5 : Array Value} {T5 : TypeId} {w w' : World} (h : L6 B w0 b0 c0 T0 b1 c1 T1 b2 c2 T2 b3 c3 T3 b4 c4 T4 b5 c5 T5 w) (hb : Below w.heap.size w w') : L6 B w0 b0 c0 T0 b1 c1 T1 b2 c2 T2 b3 c3 T3 b4 c4 T4 b5 c5 T5 w' := L6.of (h.1.call hb)
theorem L6.al {B : Nat} {w0 : World} {b0 : Nat} {c0 : Array Value} {T0 : TypeId} {b1 : Nat} {c1 : Array Value} {T1 : TypeId} {b2 : Nat} {c2 : Array Value} {T2 : TypeId} {b3 : Nat} {c3 : Array Value} {T3 : TypeId} {b4 : Nat} {c4 : Array Value} {T4 : TypeId} {b5 : Nat} {c5 : Array Value} {T5 : TypeId} {w : World} {o : Obj} (h : L6 B w0 b0 c0 T0 b1 c1 T1 b2 c2 T2 b3 c3 T3 b4 c4 T4 b5 c5 T5 w) : L6 B w0 b0 c0 T0 b1 c1 T1 b2 c2 T2 b3 c3 T3 b4 c4 T4 b5 c5 T5 (w.alloc o) := L6.of h.1.al
theorem L6.mk {B : Nat} {w0 : World} {b0 : Nat} {c0 : Array Value} {T0 : TypeId} {b1 : Nat} {c1 : Array Value} {T1 : TypeId} {b2 : Nat} {c2 : Array Value} {T2 : TypeId} {b3 : Nat} {c3 : Array Value} {T3 : TypeId} {b4 : Nat} {c4 : Array Value} {T4 : TypeId} {b5 : Nat} {c5 : Array Value} {T5 : TypeId} {w : World} (h0 : B ≤ w0.heap.size) (h : Below B w0 w) (r0 : Row w b0 c0 T0) (r1 : Row w b1 c1 T1) (r2 : Row w b2 c2 T2) (r3 : Row w b3 c3 T3) (r4 : Row w b4 c4 T4) (r5 : Row w b5 c5 T5) : L6 B w0 b0 c0 T0 b1 c1 T1 b2 c2 T2 b3 c3 T3 b4 c4 T4 b5 c5 T5 w := L6.of ⟨⟨h0, h⟩, by simp only [List.forall_mem_cons]; exact ⟨r0, r1, r2, r3, r4, r5, by simp⟩⟩
theorem L6.out {B : Nat} {w0 : World} {b0 : Nat} {c0 : Array Value} {T0 : TypeId} {b1 : Nat} {c1 : Array Value} {T1 : TypeId} {b2 : Nat} {c2 : Array Value} {T2 : TypeId} {b3 : Nat} {c3 : Array Value} {T3 : TypeId} {b4 : Nat} {c4 : Array Value} {T4 : TypeId} {b5 : Nat} {c5 : Array Value} {T5 : TypeId} {w : World} (h : L6 B w0 b0 c0 T0 b1 c1 T1 b2 c2 T2 b3 c3 T3 b4 c4 T4 b5 c5 T5 w) : Below B w0 w ∧ Row w b0 c0 T0 ∧ Row w b1 c1 T1 ∧ Row w b2 c2 T2 ∧ Row w b3 c3 T3 ∧ Row w b4 c4 T4 ∧ Row w b5 c5 T5 := ⟨h.1.1.2, h.1.2 (b0, c0, T0) (by simp), h.1.2 (b1, c1, T1) (by simp), h.1.2 (b2, c2, T2) (by simp), h.1.2 (b3, c3, T3) (by simp), h.1.2 (b4, c4, T4) (by simp), h.1.2 (b5, c5, T5) (by simp)⟩
end Go.Proofs.YtldghloflegpmaaGreatDoor

/- Contracts of the reference's layer 14: Worth, Value. Contract of the reference's layer 16: whole. Contract of the reference's layer 14: Decimal. Contracts of the reference for fits: Written, Text. Contract of the reference for fits: until; what its Parse must return. Contract of the reference for fits: Parse. The walk of FitTexts. -/
import Derived.Test.YtldghloflegpmaaGreatDoorNwB
import Derived.Test.YtldghloflegpmaaGreatDoorNwA
import Derived.Deep.RegionHeld3
import Derived.Test.YtldghloflegpmaaGreatDoorLxB
import Derived.Test.YtldghloflegpmaaGreatDoorRfD
import Derived.Test.YtldghloflegpmaaGreatDoorFtT
import Derived.Test.YtldghloflegpmaaGreatDoorPuR
import Derived.Test.YtldghloflegpmaaGreatDoorFwA
namespace Go.Proofs.YtldghloflegpmaaGreatDoor
open Go.RowKit Go.Shelf Pu Go.Lib

/-- A text's digits as a number, the power of ten by which it is divided, and whether the point has been seen. -/
def wStep (s : Nat × Nat × Bool) (c : UInt8) : Nat × Nat × Bool := if c = 46 then (s.1, s.2.1, true) else (s.1 * 10 + (c.toNat - 48), if s.2.2 then s.2.1 * 10 else s.2.1, s.2.2)
def wst (l : List UInt8) : Nat × Nat × Bool := l.foldl wStep (0, 1, false)
theorem wst_take (s : ByteArray) (k : Nat) (h : k < s.size) : wst (s.data.toList.take (k + 1)) = wStep (wst (s.data.toList.take k)) (s[k]'h) := by
  have hl : s.data.toList.length = s.size := by simp
  have ha := at_list s k h
  rw [List.getElem?_eq_getElem (by omega)] at ha
  rw [List.take_succ_eq_append_getElem (by omega), Option.some.inj ha]
  simp [wst]
theorem w_bd : ∀ (l : List UInt8) (s : Nat × Nat × Bool), dotD l → (l.foldl wStep s).1 < (s.1 + 1) * 10 ^ l.length ∧ (0 < s.2.1 → 0 < (l.foldl wStep s).2.1) ∧ (l.foldl wStep s).2.1 ≤ s.2.1 * 10 ^ l.length
  | [], s, _ => by simp
  | c :: l, s, h => by
    have hd : dotD l := fun b hb => h b (List.mem_cons_of_mem _ hb)
    obtain ⟨a, b, d⟩ := w_bd l (wStep s c) hd
    rw [List.foldl_cons, List.length_cons, Nat.pow_succ]
    have e1 : ((wStep s c).1 + 1) * 10 ^ l.length ≤ (s.1 + 1) * (10 ^ l.length * 10) := by
      have : (wStep s c).1 + 1 ≤ (s.1 + 1) * 10 := by
        unfold wStep
        split
        · simp only; omega
        · rename_i h46
          rcases h c (by simp) with h | h
          · exact absurd h h46
          · simp only; omega
      have h2 := Nat.mul_le_mul_right (10 ^ l.length) this
      rw [Nat.mul_assoc, Nat.mul_comm 10] at h2
      exact h2
    have e2 : (wStep s c).2.1 * 10 ^ l.length ≤ s.2.1 * (10 ^ l.length * 10) := by
      have : (wStep s c).2.1 ≤ s.2.1 * 10 := by
        unfold wStep
        split
        · simp only; omega
        · simp only; split <;> omega
      have h2 := Nat.mul_le_mul_right (10 ^ l.length) this
      rw [Nat.mul_assoc, Nat.mul_comm 10] at h2
      exact h2
    refine ⟨by omega, fun h0 => b ?_, by omega⟩
    unfold wStep
    split
    · exact h0
    · simp only; split <;> omega
theorem wst_bd {l : List UInt8} (h : dotD l) (hl : l.length ≤ 24) : (nT (wst l).1).size ≤ 25 ∧ (nT (wst l).2.1).size ≤ 25 ∧ (wst l).2.1 ≠ 0 := by
  obtain ⟨a, b, c⟩ := w_bd l (0, 1, false) h
  have hp : 10 ^ l.length ≤ 10 ^ 24 := Nat.pow_le_pow_right (by omega) hl
  simp only [Nat.zero_add, Nat.one_mul] at a c
  refine ⟨nT_size_le (k := 24) ?_, nT_size_le (k := 24) ?_, ?_⟩
  · have : (wst l).1 < 10 ^ l.length := a
    have e : 10 ^ (24 + 1) = 10 ^ 24 * 10 := rfl
    omega
  · have : (wst l).2.1 ≤ 10 ^ l.length := c
    have e : 10 ^ (24 + 1) = 10 ^ 24 * 10 := rfl
    omega
  · have : 0 < (wst l).2.1 := b (by decide)
    omega
theorem dotD_take {l : List UInt8} (h : dotD l) (k : Nat) : dotD (l.take k) := fun b hb => h b (List.mem_of_mem_take hb)

theorem w_dig (x : Nat) (h : 48 ≤ x) (h2 : x ≤ 57) : IntKind.i64.wrap (IntKind.u8.wrap ((x : Int) - 48)) = (x : Int) - 48 := by
  have e1 : IntKind.u8.wrap ((x : Int) - 48) = (x : Int) - 48 := by simp [IntKind.wrap, IntKind.bits, IntKind.signed]; omega
  rw [e1]
  simp [IntKind.wrap, IntKind.bits, IntKind.signed]; omega

set_option maxRecDepth 100000 in
set_option maxHeartbeats 8000000 in
theorem rWorth_c (s : ByteArray) (w : World) (hd : dotD s.data.toList) (hz : s.size ≤ 24) (W P : Nat) (hWP : (wst s.data.toList).1 = W ∧ (wst s.data.toList).2.1 = P) :
    Calls Tryz.prog 154 #[.string s] w fun e w' => e = .returned (.string (rT (W / Nat.gcd W P) (P / Nat.gcd W P))) ∧ Below w.heap.size w w' := by
  have hl : s.data.toList.length = s.size := by simp
  go_enter Tryz.func154, Tryz.ntmps154
  go_wp2_with fail
  go_loopw [3, 4, 5, 6] (fun a b c d wr => ∃ (k : Nat) (st : Nat × Nat × Bool), k ≤ s.size ∧ d = .int .i64 (k : Int) ∧ a = .string (nT st.1) ∧ b = .string (nT st.2.1) ∧ c = .bool st.2.2 ∧ Hid (wst (s.data.toList.take k) = st) ∧ Below w.heap.size w wr) (fun _ _ _ d _ => s.size - (intOf d).toNat)
  case atStart => exact ⟨0, (0, 1, false), by omega, rfl, by rw [nT_zero], by rw [nT_one], rfl, Lib.hid (by rw [List.take_zero]; rfl), Below.refl _ _⟩
  case round =>
    obtain ⟨k, ⟨W0, P0, B0⟩, hk, rfl, rfl, rfl, rfl, HK, hb⟩ := hrel
    simp only at HK ⊢
    by_cases hlt : k < s.size
    · have htk := wst_take s k hlt
      rw [HK.out] at htk
      have hbt := hd _ (at_mem s k hlt)
      have hbd := wst_bd (dotD_take hd k) (by rw [List.length_take]; omega)
      rw [HK.out] at hbd
      obtain ⟨z1, z2, _⟩ := hbd
      simp only at z1 z2
      by_cases h46 : (s[k]'hlt).toNat = 46
      · have e46 : (s[k]'hlt) = 46 := UInt8.toNat_inj.1 h46
        have h46' : ((s[k]'hlt).toNat : Int) = 46 := by omega
        unfold wStep at htk
        rw [if_pos e46] at htk
        have HT := Lib.hid htk
        clear htk HK hbt e46
        go_wp2
        go_roundw
        case rel => exact ⟨k + 1, (W0, P0, true), by omega, by go_num, rfl, rfl, rfl, HT, hb⟩
        case measure => first | (simp [intOf]; done) | (simp [intOf]; omega)
      · have hdg : 48 ≤ (s[k]'hlt).toNat ∧ (s[k]'hlt).toNat ≤ 57 := by
          rcases hbt with h | h
          · exact absurd (by rw [h]; rfl) h46
          · exact h
        have e46 : ¬ (s[k]'hlt) = 46 := fun h => h46 (by rw [h]; rfl)
        have h46' : ¬ ((s[k]'hlt).toNat : Int) = 46 := by omega
        unfold wStep at htk
        rw [if_neg e46] at htk
        simp only at htk
        obtain ⟨d, hdd⟩ : ∃ d, (s[k]'hlt).toNat - 48 = d := ⟨_, rfl⟩
        rw [hdd] at htk
        have t10 : (nT 10).size ≤ 60 := by rw [nT_ten]; decide
        have h1 := fun w => rTimes_c W0 10 w (by omega) t10
        have h4 := fun w => rTimes_c P0 10 w (by omega) t10
        rw [nT_ten] at h1 h4
        have h2 := fun w => rOf01_c d w (by omega)
        have hdi : (d : Int) = IntKind.i64.wrap (IntKind.u8.wrap (((s[k]'hlt).toNat : Int) - 48)) := by
          rw [w_dig _ hdg.1 hdg.2]; omega
        rw [hdi] at h2
        have zd : (nT d).size ≤ 60 := Nat.le_trans (nT_size_le (k := 0) (by omega)) (by omega)
        have zw : (nT (W0 * 10)).size ≤ 60 := by
          have h := sz_lt (u := W0) z1
          have : W0 * 10 < 10 ^ (25 + 1) := by
            have e : 10 ^ (25 + 1) = 10 ^ 25 * 10 := rfl
            omega
          have := nT_size_le this
          omega
        have h3 := fun w => rPlus_nn (W0 * 10) d w zw zd
        have H1 := Lib.hid h1
        have H2 := Lib.hid h2
        have H3 := Lib.hid h3
        have H4 := Lib.hid h4
        have HT := Lib.hid htk
        clear h1 h2 h3 h4 htk HK hbt e46 hdi hdd t10 z1 z2 zd zw
        generalize nT d = td at *
        obtain ⟨W1, hW1⟩ : ∃ x, W0 * 10 = x := ⟨_, rfl⟩
        obtain ⟨P1, hP1⟩ : ∃ x, P0 * 10 = x := ⟨_, rfl⟩
        rw [hW1] at H1 H3 HT
        rw [hP1] at H4 HT
        clear hW1 hP1
        go_wp2_with fail
        have hS : HL w.heap.size w [] wr := ⟨⟨Nat.le_refl _, hb⟩, by simp⟩
        go_region_held3 (fun w' => HL w.heap.size w [] w')
          (first | exact hS | exact HL.drew hS | (refine HL.drew ?_; assumption) | (refine HL.call ?_ hbb; assumption) | (refine HL.call (HL.drew ?_) hbb; assumption))
          (first | (go_at_call 146; refine (H1.out _).mono ?_; rintro e w' ⟨rfl, hbb⟩) | (go_at_call 148; refine (H2.out _).mono ?_; rintro e w' ⟨rfl, hbb⟩) | (go_at_call 205; refine (H3.out _).mono ?_; rintro e w' ⟨rfl, hbb⟩))
        all_goals
          rename_i hHeld
          have hb2 := hHeld.1.2
          cases B0 with
          | true =>
            go_wp2_with fail
            refine (H4.out _).mono ?_
            rintro e w9 ⟨rfl, hbb⟩
            have hb3 := hb2.trans (hbb.mono hb2.size)
            go_wp2
            go_roundw
            case rel => exact ⟨k + 1, (W1 + d, P1, true), by omega, by go_num, rfl, rfl, rfl, HT, hb3⟩
            case measure => first | (simp [intOf]; done) | (simp [intOf]; omega)
          | false =>
            go_wp2
            go_roundw
            case rel => exact ⟨k + 1, (W1 + d, P0, false), by omega, by go_num, rfl, rfl, rfl, HT, hb2⟩
            case measure => first | (simp [intOf]; done) | (simp [intOf]; omega)
    · obtain rfl : k = s.size := by omega
      have e : s.data.toList.take s.size = s.data.toList := List.take_of_length_le (by omega)
      have hk2 := HK.out
      rw [e] at hk2
      obtain ⟨e1, e2⟩ := hWP
      have hbd := wst_bd hd (by omega)
      rw [e1, e2] at hbd
      rw [hk2] at e1 e2
      simp only at e1 e2
      subst e1 e2
      have H1 := Lib.hid (fun w => rLowest_c W0 P0 w (by omega) (by omega) hbd.2.2)
      clear HK hk2 e hbd
      go_wp2_with fail
      refine (H1.out _).mono ?_
      rintro e w9 ⟨rfl, hbb⟩
      go_wp2
      go_ret
      exact ⟨rfl, hb.trans (hbb.mono hb.size)⟩

set_option maxHeartbeats 4000000 in
theorem rValue_c (s : ByteArray) (w : World) (hz : s.size ≤ 4500) (W P : Nat) (hWP : (wst s.data.toList).1 = W ∧ (wst s.data.toList).2.1 = P) :
    Calls Tryz.prog 103 #[.string s] w fun e w' => e = .returned (.tuple #[.string (if nbE s.data.toList = 0 then rT (W / Nat.gcd W P) (P / Nat.gcd W P) else ⟨#[]⟩), .int .i64 (nbE s.data.toList)]) ∧ Below w.heap.size w w' := by
  have h0 := fun w => rNumber_c s w hz
  have ho := fun (h : nbE s.data.toList = 0) => nbE_ok h
  generalize nbE s.data.toList = E at *
  have H0 := Lib.hid h0
  by_cases h : E = 0
  · subst h
    obtain ⟨hd, hz2, _⟩ := ho rfl
    have hl : s.data.toList.length = s.size := by simp
    have H1 := Lib.hid (fun w => rWorth_c s w hd (by omega) W P hWP)
    rw [if_pos rfl]
    clear h0 ho
    go_enter Tryz.func103, Tryz.ntmps103
    go_wp2_with fail
    refine (H0.out _).mono ?_
    rintro e w2 ⟨rfl, rfl⟩
    go_wp2_with fail
    refine (H1.out _).mono ?_
    rintro e w3 ⟨rfl, hbb⟩
    go_wp2
    go_ret2
    exact ⟨rfl, hbb⟩
  · rw [if_neg h]
    clear h0 ho
    go_enter Tryz.func103, Tryz.ntmps103
    go_wp2_with fail
    refine (H0.out _).mono ?_
    rintro e w2 ⟨rfl, rfl⟩
    go_wp2
    go_ret2
    exact ⟨rfl, Below.refl _ _⟩
end Go.Proofs.YtldghloflegpmaaGreatDoor

namespace Go.Proofs.YtldghloflegpmaaGreatDoor
open Go.RowKit Go.Shelf Pu Go.Lib

theorem wst_dig : ∀ (l : List UInt8) (a p : Nat) (b : Bool), isD l → l.foldl wStep (a, p, b) = (a * 10 ^ l.length + val l, if b then p * 10 ^ l.length else p, b)
  | [], a, p, b, _ => by simp [val_nil]
  | c :: l, a, p, b, h => by
    have hc := h c (by simp)
    have hd : isD l := fun x hx => h x (List.mem_cons_of_mem _ hx)
    have h46 : ¬ c = 46 := fun e => by rw [e] at hc; exact absurd hc.1 (by decide)
    rw [List.foldl_cons]
    have e : wStep (a, p, b) c = (a * 10 + (c.toNat - 48), if b then p * 10 else p, b) := by unfold wStep; rw [if_neg h46]
    rw [e, wst_dig l _ _ _ hd, val_cons, List.length_cons, Nat.pow_succ]
    refine Prod.ext ?_ (Prod.ext ?_ rfl)
    · simp only
      rw [Nat.add_mul, Nat.mul_assoc, Nat.mul_comm 10, Nat.add_assoc]
    · simp only
      cases b with
      | true => simp only [if_true]; rw [Nat.mul_assoc, Nat.mul_comm 10]
      | false => rfl
theorem th_mulE {a V r u E T N : Nat} (hTE : E * T = N) (g : V * E = r) (hu : u = N * a + r) : (a * T + V) * N = u * T := by
  rw [hu, ← g, Nat.add_mul, Nat.add_mul, Nat.mul_assoc V E T, hTE, Nat.mul_comm (a * T) N, Nat.mul_assoc N a T]
theorem th_mul {a V k r u : Nat} (hk : k = 0 ∨ k = 1 ∨ k = 2 ∨ k = 3) (g : V * 10 ^ (3 - k) = r) (hu : u = 1000 * a + r) : (a * 10 ^ k + V) * 1000 = u * 10 ^ k :=
  th_mulE (by rcases hk with rfl | rfl | rfl | rfl <;> decide) g hu
theorem wst_th (u : Nat) : (wst (thL u)).1 * 1000 = u * (wst (thL u)).2.1 ∧ (wst (thL u)).2.1 ≠ 0 := by
  rw [thL_eq]
  have hr : u % 1000 < 1000 := Nat.mod_lt _ (by omega)
  have hu : u = 1000 * (u / 1000) + u % 1000 := (Nat.div_add_mod u 1000).symm
  obtain ⟨f1, _, _, _⟩ := fr_all ⟨u % 1000, hr⟩
  obtain ⟨_, g2⟩ := fr_more ⟨u % 1000, hr⟩
  have dF := fr2_dig hr
  simp only at f1 g2 dF
  obtain ⟨r, hrr⟩ : ∃ r, u % 1000 = r := ⟨_, rfl⟩
  obtain ⟨a, haa⟩ : ∃ a, u / 1000 = a := ⟨_, rfl⟩
  rw [hrr] at f1 g2 dF hu hr
  rw [haa] at hu
  rw [hrr, haa]
  by_cases h0 : r = 0
  · rw [if_pos h0, List.append_nil]
    unfold wst
    rw [wst_dig _ _ _ _ (isD_dD a), val_dD]
    simp only [Nat.zero_mul, Nat.zero_add, Bool.false_eq_true, if_false, Nat.mul_one]
    exact ⟨by omega, by omega⟩
  · rw [if_neg h0]
    unfold wst
    rw [List.foldl_append, wst_dig _ _ _ _ (isD_dD a), val_dD, List.foldl_cons]
    have e : wStep (0 * 10 ^ (Lib.decDigits a).length + a, if false = true then 1 * 10 ^ (Lib.decDigits a).length else 1, false) 46 = (a, 1, true) := by
      unfold wStep; rw [if_pos rfl]; simp
    rw [e, wst_dig _ _ _ _ dF]
    simp only [if_true, Nat.one_mul]
    generalize val (fr2 r) = V at *
    generalize (fr2 r).length = k at *
    refine ⟨?_, Nat.pos_iff_ne_zero.1 (Nat.pow_pos (by decide))⟩
    have hk : k = 0 ∨ k = 1 ∨ k = 2 ∨ k = 3 := by omega
    exact th_mul hk g2 hu
theorem th_low {u W P p q m : Nat} (h : W * 1000 = u * P) (h0 : P ≠ 0) (hp : W / Nat.gcd W P = p) (hq : P / Nat.gcd W P = q) (hm : p * 1000 = m) : rT (m / Nat.gcd m q) (q / Nat.gcd m q) = nT u := by
  have hg : 0 < Nat.gcd W P := Nat.gcd_pos_of_pos_right W (by omega)
  have e1 : p * Nat.gcd W P = W := by rw [← hp]; exact Nat.div_mul_cancel (Nat.gcd_dvd_left W P)
  have e2 : q * Nat.gcd W P = P := by rw [← hq]; exact Nat.div_mul_cancel (Nat.gcd_dvd_right W P)
  generalize Nat.gcd W P = g at *
  have e3 : m = u * q := by
    apply Nat.eq_of_mul_eq_mul_right hg
    rw [← hm, Nat.mul_right_comm, e1, h, Nat.mul_assoc, e2]
  have hq0 : 0 < q := by
    rcases Nat.eq_zero_or_pos q with h | h
    · rw [h] at e2; omega
    · exact h
  have e4 : Nat.gcd m q = q := by rw [e3]; exact Nat.gcd_mul_left_left u q
  rw [e4, Nat.div_self hq0, e3, Nat.mul_div_cancel _ hq0, rT_one]

set_option maxHeartbeats 4000000 in
theorem rwhole_c (s : ByteArray) (w : World) (hz : s.size ≤ 4500) : Calls Tryz.prog 67 #[.string s] w
    fun e w' => (∃ n : Int, e = .returned (.int .i64 n) ∧ 0 ≤ n ∧ n < 10000000000 ∧ ∀ u : Nat, u ≤ 100000 → s.data.toList = thL u → n = u) ∧ Below w.heap.size w w' := by
  obtain ⟨W, hW⟩ : ∃ W, (wst s.data.toList).1 = W := ⟨_, rfl⟩
  obtain ⟨P, hP⟩ : ∃ P, (wst s.data.toList).2.1 = P := ⟨_, rfl⟩
  have h1 := fun w => rValue_c s w hz W P ⟨hW, hP⟩
  have hth := fun (u : Nat) (h : s.data.toList = thL u) => wst_th u
  have hnb := fun (u : Nat) (hu : u ≤ 100000) (h : s.data.toList = thL u) => nbE_th u hu
  have hok := fun (h : nbE s.data.toList = 0) => nbE_ok h
  obtain ⟨p, hp⟩ : ∃ p, W / Nat.gcd W P = p := ⟨_, rfl⟩
  obtain ⟨q, hq⟩ : ∃ q, P / Nat.gcd W P = q := ⟨_, rfl⟩
  obtain ⟨m, hm⟩ : ∃ m, p * 1000 = m := ⟨_, rfl⟩
  rw [hp, hq] at h1
  by_cases hE : nbE s.data.toList = 0
  · obtain ⟨hd, h24, _⟩ := hok hE
    obtain ⟨z1, z2, hP0⟩ := wst_bd hd h24
    rw [hW] at z1
    rw [hP] at z2 hP0
    have zp : (nT p).size ≤ 50 := by
      have hl := sz_lt (u := W) z1
      have : p < 10 ^ (25 + 1) := by
        have : p ≤ W := by rw [← hp]; exact Nat.div_le_self _ _
        have e : 10 ^ (25 + 1) = 10 ^ 25 * 10 := rfl
        omega
      have := nT_size_le this
      omega
    have zq : (nT q).size ≤ 50 := by
      have hl := sz_lt (u := P) z2
      have : q < 10 ^ (25 + 1) := by
        have : q ≤ P := by rw [← hq]; exact Nat.div_le_self _ _
        have e : 10 ^ (25 + 1) = 10 ^ 25 * 10 := rfl
        omega
      have := nT_size_le this
      omega
    have hq0 : q ≠ 0 := by
      intro h
      have e2 : q * Nat.gcd W P = P := by rw [← hq]; exact Nat.div_mul_cancel (Nat.gcd_dvd_right W P)
      rw [h, Nat.zero_mul] at e2
      exact hP0 e2.symm
    have h2 := fun w => rTimes02_c p q m w zp zq hq0 hm
    have hx : ∀ u : Nat, s.data.toList = thL u → rT (m / Nat.gcd m q) (q / Nat.gcd m q) = nT u := by
      intro u h
      obtain ⟨a, b⟩ := hth u h
      rw [← h, hW, hP] at a
      exact th_low a hP0 hp hq hm
    generalize rT (m / Nat.gcd m q) (q / Nat.gcd m q) = x at *
    simp only [if_pos hE] at h1
    rw [hE] at h1
    have HU : Hid (∀ u : Nat, u ≤ 100000 → s.data.toList = thL u → isD x.data.toList ∧ x.size ≤ 9 ∧ val x.data.toList = u) := Lib.hid (by
      intro u hu h
      rw [hx u h]
      exact ⟨isD_dD u, Nat.le_trans (nT_size_le (k := 5) (by omega)) (by omega), val_nT u⟩)
    have H1 := Lib.hid h1
    have H2 := Lib.hid h2
    clear h1 h2 hth hnb hok hx hd h24 z1 z2 zp zq hq0 hP0 hm hp hq hE hW hP
    generalize rT p q = y at *
    have hl : x.data.toList.length = x.size := by simp
    go_enter Tryz.func67, Tryz.ntmps67
    go_wp2_with fail
    refine (H1.out _).mono ?_
    rintro e w2 ⟨rfl, hb2⟩
    go_wp2_with fail
    refine (H2.out _).mono ?_
    rintro e w3 ⟨rfl, hbb⟩
    have hb3 := hb2.trans (hbb.mono hb2.size)
    clear hb2 hbb
    go_wp2_with fail
    go_loopw [5, 6] (fun a b wr => ∃ (k v : Nat), k ≤ x.size ∧ k ≤ 9 ∧ b = .int .i64 (k : Int) ∧ a = .int .i64 (v : Int) ∧ v < 10 ^ k ∧ Hid (isD (x.data.toList.take k) ∧ val (x.data.toList.take k) = v) ∧ Below w.heap.size w wr) (fun _ b _ => x.size - (intOf b).toNat)
    case atStart => exact ⟨0, 0, by omega, by omega, rfl, rfl, by decide, Lib.hid ⟨by simp [isD], rfl⟩, hb3⟩
    case round =>
      obtain ⟨k, v, hk, hk9, rfl, rfl, hv, HK, hb⟩ := hrel
      have hv9 : v < 1000000000 := Nat.lt_of_lt_of_le hv (Nat.pow_le_pow_right (by decide) hk9)
      by_cases hlt : k < x.size
      · have hby : (x[k]'hlt).toNat < 256 := (x[k]'hlt).toNat_lt
        have ht : x.data.toList.take (k + 1) = x.data.toList.take k ++ [x[k]'hlt] := by
          have ha := at_list x k hlt
          rw [List.getElem?_eq_getElem (by omega)] at ha
          rw [List.take_succ_eq_append_getElem (by omega), Option.some.inj ha]
        obtain ⟨c, hc⟩ : ∃ c : Nat, (x[k]'hlt).toNat = c := ⟨_, rfl⟩
        have hcx : x.data.toList[k]'(by omega) = x[k]'hlt := by
          have ha := at_list x k hlt
          rw [List.getElem?_eq_getElem (by omega)] at ha
          exact Option.some.inj ha
        by_cases hbad : c < 48 ∨ 57 < c ∨ 8 < k
        · have HB : Hid (∀ u : Nat, u ≤ 100000 → s.data.toList = thL u → (0 : Int) = u) := Lib.hid (by
            intro u hu h
            obtain ⟨a, b, _⟩ := HU.out u hu h
            have := a _ (List.getElem_mem (l := x.data.toList) (n := k) (by omega))
            rw [hcx, hc] at this
            omega)
          clear HK HU ht hcx
          rw [← hc] at hbad
          by_cases g1 : (x[k]'hlt).toNat < 48
          · have g1' : ((x[k]'hlt).toNat : Int) < 48 := by omega
            go_wp2
            go_ret
            exact ⟨⟨0, rfl, by omega, by omega, HB.out⟩, hb⟩
          have g1' : ¬ ((x[k]'hlt).toNat : Int) < 48 := by omega
          by_cases g2 : 57 < (x[k]'hlt).toNat
          · have g2' : (57 : Int) < ((x[k]'hlt).toNat : Int) := by omega
            go_wp2
            go_ret
            exact ⟨⟨0, rfl, by omega, by omega, HB.out⟩, hb⟩
          have g2' : ¬ (57 : Int) < ((x[k]'hlt).toNat : Int) := by omega
          have g3' : (8 : Int) < (k : Int) := by omega
          go_wp2
          go_ret
          exact ⟨⟨0, rfl, by omega, by omega, HB.out⟩, hb⟩
        · have g1 : 48 ≤ c ∧ c ≤ 57 ∧ k ≤ 8 := by omega
          have HK2 : Hid (isD (x.data.toList.take (k + 1)) ∧ val (x.data.toList.take (k + 1)) = v * 10 + (c - 48)) := Lib.hid (by
            rw [ht]
            obtain ⟨a, b⟩ := HK.out
            refine ⟨?_, ?_⟩
            · intro y hy
              rw [List.mem_append, List.mem_singleton] at hy
              rcases hy with hy | hy
              · exact a y hy
              · rw [hy, hc]; exact ⟨g1.1, g1.2.1⟩
            · rw [val_snoc, b, hc])
          have hv2 : v * 10 + (c - 48) < 10 ^ (k + 1) := by rw [Nat.pow_succ]; omega
          have hv8 : v < 100000000 := Nat.lt_of_lt_of_le hv (Nat.pow_le_pow_right (by decide) g1.2.2)
          have hwd := w_dig c g1.1 g1.2.1
          clear HK ht hcx hv hv9 hbad
          rw [← hc] at hwd g1
          have g1' : ¬ ((x[k]'hlt).toNat : Int) < 48 := by omega
          have g2' : ¬ (57 : Int) < ((x[k]'hlt).toNat : Int) := by omega
          have g3' : ¬ (8 : Int) < (k : Int) := by omega
          go_wp2
          go_roundw
          case rel => exact ⟨k + 1, v * 10 + (c - 48), by omega, by omega, by go_num, by rw [← hc]; congr 1; omega, hv2, HK2, hb⟩
          case measure => first | (simp [intOf]; done) | (simp [intOf]; omega)
      · obtain rfl : k = x.size := by omega
        have HB : Hid (∀ u : Nat, u ≤ 100000 → s.data.toList = thL u → (v : Int) = u) := Lib.hid (by
          intro u hu h
          obtain ⟨_, _, c⟩ := HU.out u hu h
          have h2 := HK.out.2
          rw [List.take_of_length_le (by omega), c] at h2
          rw [h2])
        clear HK HU
        go_wp2
        go_ret
        exact ⟨⟨v, rfl, by omega, by omega, HB.out⟩, hb⟩
  · simp only [if_neg hE] at h1
    have HB : Hid (∀ u : Nat, u ≤ 100000 → s.data.toList = thL u → (0 : Int) = u) := Lib.hid (by
      intro u hu h
      have := hnb u hu h
      rw [← h] at this
      exact absurd this hE)
    generalize nbE s.data.toList = E at *
    have H1 := Lib.hid h1
    clear h1 hth hnb hok
    go_enter Tryz.func67, Tryz.ntmps67
    go_wp2_with fail
    refine (H1.out _).mono ?_
    rintro e w2 ⟨rfl, hb2⟩
    go_wp2
    go_ret
    exact ⟨⟨0, rfl, by omega, by omega, HB.out⟩, hb2⟩
end Go.Proofs.YtldghloflegpmaaGreatDoor

namespace Go.Proofs.YtldghloflegpmaaGreatDoor
open Go.RowKit Go.Shelf Pu Go.Lib

theorem z60 {u : Nat} (h : u < 100000000) : (nT u).size ≤ 60 := Nat.le_trans (nT_size_le (k := 8) (by omega)) (by omega)
theorem nT_two : nT 2 = ⟨#[50]⟩ := by unfold nT; rw [Lib.decDigits_one (by omega)]; rfl
theorem nT_five : nT 5 = ⟨#[53]⟩ := by unfold nT; rw [Lib.decDigits_one (by omega)]; rfl
theorem Pt2 (u : Nat) (w : World) (h : u < 100000000) : Calls Tryz.prog 145 #[.string (nT u), .string ⟨#[50]⟩] w fun e w' => e = .returned (.tuple #[.string (nT (u / 2)), .string (nT (u % 2))]) ∧ Below w.heap.size w w' := by
  have := rParted_c u 2 w (z60 h) (z60 (by omega)) (by omega)
  rwa [nT_two] at this
theorem Pt5 (u : Nat) (w : World) (h : u < 100000000) : Calls Tryz.prog 145 #[.string (nT u), .string ⟨#[53]⟩] w fun e w' => e = .returned (.tuple #[.string (nT (u / 5)), .string (nT (u % 5))]) ∧ Below w.heap.size w w' := by
  have := rParted_c u 5 w (z60 h) (z60 (by omega)) (by omega)
  rwa [nT_five] at this
theorem T10 (u : Nat) (w : World) (h : u < 10000000) : Calls Tryz.prog 146 #[.string (nT u), .string ⟨#[49, 48]⟩] w fun e w' => e = .returned (.string (nT (u * 10))) ∧ Below w.heap.size w w' := by
  have := rTimes_c u 10 w (z60 (by omega)) (z60 (by omega))
  rwa [nT_ten] at this
theorem ne48 {d : Nat} (h : d ≠ 0) : ¬ nT d = ⟨#[48]⟩ := fun e => h (by have := val_nT d; rw [e] at this; exact this.symm)

theorem ba_of {a b : ByteArray} (h : a.data.toList = b.data.toList) : a = b := ByteArray.ext (Array.ext' h)

set_option maxRecDepth 100000 in
set_option maxHeartbeats 4000000 in
theorem rDecimal_c (p q : Nat) (w : World) (hp : p < 1000000) (hq : q ∣ 1000) (hg : Nat.gcd p q = 1) :
    Calls Tryz.prog 98 #[.string (rT p q)] w fun e w' => e = .returned (.tuple #[.string ⟨(decL p q).toArray⟩, .int .i64 0]) ∧ Below w.heap.size w w' := by
  have hq0 : q ≠ 0 := by rintro rfl; simp at hq
  have hql : q ≤ 1000 := Nat.le_of_dvd (by omega) hq
  obtain ⟨d0, e0⟩ : ∃ x, p / q = x := ⟨_, rfl⟩
  obtain ⟨r0, f0⟩ : ∃ x, p % q = x := ⟨_, rfl⟩
  have hd0 : d0 ≤ p := by rw [← e0]; exact Nat.div_le_self _ _
  have hr0 : r0 < q := by rw [← f0]; exact Nat.mod_lt _ (by omega)
  obtain ⟨m1, g1⟩ : ∃ x, r0 * 10 = x := ⟨_, rfl⟩
  obtain ⟨d1, e1⟩ : ∃ x, m1 / q = x := ⟨_, rfl⟩
  obtain ⟨r1, f1⟩ : ∃ x, m1 % q = x := ⟨_, rfl⟩
  have hm1 : m1 < 10000 := by omega
  have hd1 : d1 ≤ m1 := by rw [← e1]; exact Nat.div_le_self _ _
  have hr1 : r1 < q := by rw [← f1]; exact Nat.mod_lt _ (by omega)
  obtain ⟨m2, g2⟩ : ∃ x, r1 * 10 = x := ⟨_, rfl⟩
  obtain ⟨d2, e2⟩ : ∃ x, m2 / q = x := ⟨_, rfl⟩
  obtain ⟨r2, f2⟩ : ∃ x, m2 % q = x := ⟨_, rfl⟩
  have hm2 : m2 < 10000 := by omega
  have hd2 : d2 ≤ m2 := by rw [← e2]; exact Nat.div_le_self _ _
  have hr2 : r2 < q := by rw [← f2]; exact Nat.mod_lt _ (by omega)
  obtain ⟨m3, g3⟩ : ∃ x, r2 * 10 = x := ⟨_, rfl⟩
  obtain ⟨d3, e3⟩ : ∃ x, m3 / q = x := ⟨_, rfl⟩
  obtain ⟨r3, f3⟩ : ∃ x, m3 % q = x := ⟨_, rfl⟩
  have hm3 : m3 < 10000 := by omega
  have hd3 : d3 ≤ m3 := by rw [← e3]; exact Nat.div_le_self _ _
  have hr3 : r3 < q := by rw [← f3]; exact Nat.mod_lt _ (by omega)
  have hz3 : r3 = 0 := by rw [← f3, ← g3, ← f2, ← g2, ← f1, ← g1]; exact last_zero hq
  have hL : decL p q = Lib.decDigits d0 ++ (if r0 = 0 then [] else 46 :: (Lib.decDigits d1 ++ (if r1 = 0 then [] else Lib.decDigits d2 ++ (if r2 = 0 then [] else Lib.decDigits d3)))) := by
    unfold decL
    rw [e0, f0]
    simp only [frL, g1, e1, f1, g2, e2, f2, g3, e3, List.append_nil]
    by_cases h0 : r0 = 0
    · rw [if_pos h0, if_pos h0]
    · rw [if_neg h0, if_neg h0, if_neg h0]
  subst hz3
  have HL := Lib.hid hL
  have HQ := Lib.hid hq
  have E0 := Lib.hid e0
  have F0 := Lib.hid f0
  have E1 := Lib.hid e1
  have F1 := Lib.hid f1
  have M1 := Lib.hid g1
  have E2 := Lib.hid e2
  have F2 := Lib.hid f2
  have M2 := Lib.hid g2
  have E3 := Lib.hid e3
  have F3 := Lib.hid f3
  have M3 := Lib.hid g3
  clear hL hq e0 f0 g1 e1 f1 g2 e2 f2 g3 e3 f3
  have HC := Lib.hid (fun w => rCheck02_c p q w (z60 (by omega)) (z60 (by omega)) hq0 hg)
  have hsg := fun w => rSignum_c p q w (z60 (by omega)) (z60 (by omega))
  obtain ⟨sg, hs⟩ : ∃ sg : Int, (if p = 0 then (0 : Int) else 1) = sg := ⟨_, rfl⟩
  rw [hs] at hsg
  have hs0 : ¬ sg < 0 := by rw [← hs]; split <;> omega
  have HS := Lib.hid hsg
  have HP := Lib.hid (fun w => rSplit_c p q w (z60 (by omega)) (z60 (by omega)))
  have h0 := fun w => rParted_c p q w (z60 (by omega)) (z60 (by omega)) hq0
  rw [E0.out, F0.out] at h0
  have P0 := Lib.hid h0
  have h1 := fun w => rParted_c m1 q w (z60 (by omega)) (z60 (by omega)) hq0
  rw [E1.out, F1.out] at h1
  have P1 := Lib.hid h1
  have h2 := fun w => rParted_c m2 q w (z60 (by omega)) (z60 (by omega)) hq0
  rw [E2.out, F2.out] at h2
  have P2 := Lib.hid h2
  have h3 := fun w => rParted_c m3 q w (z60 (by omega)) (z60 (by omega)) hq0
  rw [E3.out, F3.out] at h3
  have P3 := Lib.hid h3
  have t1 := fun w => T10 r0 w (by omega)
  rw [M1.out] at t1
  have T1 := Lib.hid t1
  have t2 := fun w => T10 r1 w (by omega)
  rw [M2.out] at t2
  have T2 := Lib.hid t2
  have t3 := fun w => T10 r2 w (by omega)
  rw [M3.out] at t3
  have T3 := Lib.hid t3
  have s0 : (nT d0).size ≤ 60 := z60 (by omega)
  have s1 : (nT d1).size ≤ 60 := z60 (by omega)
  have s2 : (nT d2).size ≤ 60 := z60 (by omega)
  have s3 : (nT d3).size ≤ 60 := z60 (by omega)
  have hqd := HQ.out
  clear hsg hs h0 h1 h2 h3 t1 t2 t3 E0 F0 E1 F1 M1 E2 F2 M2 E3 F3 M3 hg
  have HQD := Lib.hid hqd
  clear hqd
  go_enter Tryz.func98, Tryz.ntmps98
  go_wp2_with fail
  refine (HC.out _).mono ?_
  rintro e w2 ⟨rfl, hb⟩
  go_wp2_with fail
  refine (HS.out _).mono ?_
  rintro e w3 ⟨rfl, hbb⟩
  have hb := hb.trans (hbb.mono hb.size)
  clear hbb
  go_wp2_with fail
  refine (HP.out _).mono ?_
  rintro e w4 ⟨rfl, hbb⟩
  have hb := hb.trans (hbb.mono hb.size)
  clear hbb
  go_wp2_with fail
  obtain ⟨B, hBd⟩ : ∃ B, w4.heap.size = B := ⟨_, rfl⟩
  have hr0 := Row.new w4 #[.string ⟨#[50]⟩, .string ⟨#[53]⟩] 153
  have hb0 := hb.alloc hb.size (.cells #[.string ⟨#[50]⟩, .string ⟨#[53]⟩] 153)
  rw [hBd] at hr0 ⊢
  generalize w4.alloc (.cells #[.string ⟨#[50]⟩, .string ⟨#[53]⟩] 153) = w5 at *
  clear hb
  have hc := hr0.cell
  refine wp_loop_rounds 3 ?_
  rw [rounds_succ]
  go_wp2_with fail
  refine (Pt2 q _ (by omega)).mono ?_
  rintro e w6 ⟨rfl, hbb⟩
  have hr := hr0.next hbb
  have hb := hb0.trans (hbb.mono hb0.size)
  clear hbb hc hr0 hb0
  go_wp2_with fail
  go_loopw [8, 11, 12] (fun a b c wr => ∃ d : Nat, a = .string (nT d) ∧ b = .string (nT (d / 2)) ∧ c = .string (nT (d % 2)) ∧ d ∣ 1000 ∧ Row wr B #[.string ⟨#[50]⟩, .string ⟨#[53]⟩] 153 ∧ Below w.heap.size w wr) (fun a _ _ _ => mS a)
  case atStart => exact ⟨q, rfl, rfl, rfl, HQD.out, hr, hb⟩
  case round =>
    obtain ⟨d, rfl, rfl, rfl, hd, hr, hb⟩ := hrel
    have hd0 : d ≠ 0 := by rintro rfl; simp at hd
    have hdl : d ≤ 1000 := Nat.le_of_dvd (by omega) hd
    by_cases hz : d % 2 = 0
    · rw [hz, nT_zero]
      have hq : d / 2 ∣ 1000 := Nat.dvd_trans (Nat.div_dvd_of_dvd (Nat.dvd_of_mod_eq_zero hz)) hd
      have hlt : d / 2 < d := Nat.div_lt_self (by omega) (by omega)
      go_wp2_with fail
      refine (Pt2 (d / 2) _ (by omega)).mono ?_
      rintro e w7 ⟨rfl, hbb⟩
      have hr := hr.next hbb
      have hb4 := hb.trans (hbb.mono hb.size)
      clear hbb
      obtain ⟨x, eq⟩ : ∃ x, d / 2 = x := ⟨_, rfl⟩
      rw [eq] at hq hlt ⊢
      clear eq hz
      go_wp2
      go_roundw
      case rel => exact ⟨x, rfl, rfl, rfl, hq, hr, hb4⟩
      case measure => rw [mS_n, mS_n]; exact hlt
    · have hne := ne48 hz
      have hbe : ((nT (d % 2)).toList == [48]) = false := by simpa using (mt (Num.of (u := d % 2) (by omega)).zero.1 hz)
      obtain ⟨r, er⟩ : ∃ r, nT (d % 2) = r := ⟨_, rfl⟩
      rw [er] at hne hbe ⊢
      clear er
      go_wp2_with fail
      rw [rounds_succ]
      have hc := hr.cell
      go_wp2_with fail
      refine (Pt5 d _ (by omega)).mono ?_
      rintro e w6 ⟨rfl, hbb⟩
      have hr := hr.next hbb
      have hb := hb.trans (hbb.mono hb.size)
      clear hbb hc
      go_wp2_with fail
      go_loopw [8, 11, 12] (fun a b c wr => ∃ d : Nat, a = .string (nT d) ∧ b = .string (nT (d / 5)) ∧ c = .string (nT (d % 5)) ∧ d ∣ 1000 ∧ d % 2 ≠ 0 ∧ Row wr B #[.string ⟨#[50]⟩, .string ⟨#[53]⟩] 153 ∧ Below w.heap.size w wr) (fun a _ _ _ => mS a)
      case atStart => exact ⟨d, rfl, rfl, rfl, hd, hz, hr, hb⟩
      case round =>
        clear hne hbe hd hz hdl hd0 hr hb
        obtain ⟨d, rfl, rfl, rfl, hd, h2, hr, hb⟩ := hrel
        have hd0 : d ≠ 0 := by rintro rfl; simp at hd
        have hdl : d ≤ 1000 := Nat.le_of_dvd (by omega) hd
        by_cases hz : d % 5 = 0
        · rw [hz, nT_zero]
          have hq : d / 5 ∣ 1000 := Nat.dvd_trans (Nat.div_dvd_of_dvd (Nat.dvd_of_mod_eq_zero hz)) hd
          have hlt : d / 5 < d := Nat.div_lt_self (by omega) (by omega)
          have h2 : d / 5 % 2 ≠ 0 := by omega
          go_wp2_with fail
          refine (Pt5 (d / 5) _ (by omega)).mono ?_
          rintro e w7 ⟨rfl, hbb⟩
          have hr := hr.next hbb
          have hb4 := hb.trans (hbb.mono hb.size)
          clear hbb
          obtain ⟨x, eq⟩ : ∃ x, d / 5 = x := ⟨_, rfl⟩
          rw [eq] at hq hlt h2 ⊢
          clear eq hz
          go_wp2
          go_roundw
          case rel => exact ⟨x, rfl, rfl, rfl, hq, h2, hr, hb4⟩
          case measure => rw [mS_n, mS_n]; exact hlt
        · have hne := ne48 hz
          have hbe : ((nT (d % 5)).toList == [48]) = false := by simpa using (mt (Num.of (u := d % 5) (by omega)).zero.1 hz)
          obtain ⟨r, er⟩ : ∃ r, nT (d % 5) = r := ⟨_, rfl⟩
          rw [er] at hne hbe ⊢
          clear er
          have d1 : d = 1 := only_one ⟨d, by omega⟩ hd h2 hz
          subst d1
          rw [nT_one] at *
          clear hd h2 hz hdl hd0 hr
          go_wp2_with fail
          rw [rounds_succ]
          go_wp2_with fail
          clear hne hbe
          refine (P0.out _).mono ?_
          rintro e w8 ⟨rfl, hbb⟩
          have hb := hb.trans (hbb.mono hb.size)
          clear hbb
          go_wp2_with fail
          refine wp_loop_rounds 5 ?_
          rw [rounds_succ]
          by_cases z0 : r0 = 0
          case pos =>
            subst z0
            rw [nT_zero]
            go_wp2
            go_ret2
            exact ⟨ret_str (ba_of (by rw [HL.out]; simp [nT])), hb⟩
          have hne := ne48 z0
          have hbe : ((nT r0).toList == [48]) = false := by simpa using (mt (Num.of (u := r0) (by omega)).zero.1 z0)
          go_wp2_with fail
          refine (T1.out _).mono ?_
          rintro e w9 ⟨rfl, hbb⟩
          have hb := hb.trans (hbb.mono hb.size)
          clear hbb
          go_wp2_with fail
          refine (P1.out _).mono ?_
          rintro e w10 ⟨rfl, hbb⟩
          have hb := hb.trans (hbb.mono hb.size)
          clear hbb hne hbe
          go_wp2_with fail
          rw [rounds_succ]
          by_cases z1 : r1 = 0
          case pos =>
            subst z1
            rw [nT_zero]
            go_wp2
            go_ret2
            exact ⟨ret_str (ba_of (by rw [HL.out]; simp [nT, z0])), hb⟩
          have hne := ne48 z1
          have hbe : ((nT r1).toList == [48]) = false := by simpa using (mt (Num.of (u := r1) (by omega)).zero.1 z1)
          go_wp2_with fail
          refine (T2.out _).mono ?_
          rintro e w9 ⟨rfl, hbb⟩
          have hb := hb.trans (hbb.mono hb.size)
          clear hbb
          go_wp2_with fail
          refine (P2.out _).mono ?_
          rintro e w10 ⟨rfl, hbb⟩
          have hb := hb.trans (hbb.mono hb.size)
          clear hbb hne hbe
          go_wp2_with fail
          rw [rounds_succ]
          by_cases z2 : r2 = 0
          case pos =>
            subst z2
            rw [nT_zero]
            go_wp2
            go_ret2
            exact ⟨ret_str (ba_of (by rw [HL.out]; simp [nT, z0, z1])), hb⟩
          have hne := ne48 z2
          have hbe : ((nT r2).toList == [48]) = false := by simpa using (mt (Num.of (u := r2) (by omega)).zero.1 z2)
          go_wp2_with fail
          refine (T3.out _).mono ?_
          rintro e w9 ⟨rfl, hbb⟩
          have hb := hb.trans (hbb.mono hb.size)
          clear hbb
          go_wp2_with fail
          refine (P3.out _).mono ?_
          rintro e w10 ⟨rfl, hbb⟩
          have hb := hb.trans (hbb.mono hb.size)
          clear hbb hne hbe
          go_wp2_with fail
          rw [rounds_succ]
          rw [nT_zero]
          go_wp2
          go_ret2
          exact ⟨ret_str (ba_of (by rw [HL.out]; simp [nT, z0, z1, z2])), hb⟩
end Go.Proofs.YtldghloflegpmaaGreatDoor

namespace Go.Proofs.YtldghloflegpmaaGreatDoor
open Go.RowKit Go.Shelf Pu Go.Lib

set_option maxRecDepth 100000 in
set_option maxHeartbeats 4000000 in
theorem rWritten_ok (n : Int) (hl hg sl sg : Int) (w : World) (hf : fE n true hl hg false sl sg = 0) : Calls Tryz.prog 63 #[.agg (fitC n true hl hg false sl sg)] w
    fun e w' => e = .returned (.string ⟨(txtL n hl hg sl sg).toArray⟩) ∧ Below w.heap.size w w' := by
  obtain ⟨z1, z2, z3, _, _, _, _⟩ := fE_ok hf
  obtain ⟨⟨c1, c2⟩, c3, c4⟩ := cE_ok.1 z2
  obtain ⟨⟨c5, c6⟩, c7, c8⟩ := cE_ok.1 z3
  obtain ⟨n1, n2⟩ := zE_ok.1 z1
  obtain ⟨u, rfl⟩ : ∃ u : Nat, n = (u : Int) := ⟨n.toNat, by omega⟩
  have hu : u ≤ 100000 := by omega
  have hgp : 0 < Nat.gcd u 1000 := Nat.gcd_pos_of_pos_right u (by omega)
  have hq : 1000 / Nat.gcd u 1000 ∣ 1000 := Nat.div_dvd_of_dvd (Nat.gcd_dvd_right u 1000)
  have hp : u / Nat.gcd u 1000 < 1000000 := Nat.lt_of_le_of_lt (Nat.div_le_self _ _) (by omega)
  have hgg : Nat.gcd (u / Nat.gcd u 1000) (1000 / Nat.gcd u 1000) = 1 := by rw [Nat.gcd_div (Nat.gcd_dvd_left u 1000) (Nat.gcd_dvd_right u 1000), Nat.div_self hgp]
  have hO := fun w => rOver_c u w hu
  have hD := fun w => rDecimal_c (u / Nat.gcd u 1000) (1000 / Nat.gcd u 1000) w hp hq hgg
  have hT : decL (u / Nat.gcd u 1000) (1000 / Nat.gcd u 1000) = thL u := rfl
  rw [hT] at hD
  have hx : txtL (u : Int) hl hg sl sg = thL u ++ 32 :: (fmtL true hl hg ++ 47 :: fmtL false sl sg) := by unfold txtL; rw [Int.toNat_natCast]
  have la := thL_len u hu
  have lb := fmt_len true hl hg c3 c4
  have lc := fmt_len false sl sg c7 c8
  have hF1 := fun w => rFormat_ok true hl hg w c1 c2 c3 c4
  have hF2 := fun w => rFormat_ok false sl sg w c5 c6 c7 c8
  obtain ⟨TA, hTA⟩ : ∃ T : ByteArray, ⟨(thL u).toArray⟩ = T := ⟨_, rfl⟩
  obtain ⟨TB, hTB⟩ : ∃ T : ByteArray, ⟨(fmtL true hl hg).toArray⟩ = T := ⟨_, rfl⟩
  obtain ⟨TC, hTC⟩ : ∃ T : ByteArray, ⟨(fmtL false sl sg).toArray⟩ = T := ⟨_, rfl⟩
  have sA : TA.size ≤ 100 := by rw [← hTA]; simpa [ByteArray.size] using la
  have sB : TB.size ≤ 3 := by rw [← hTB]; simpa [ByteArray.size] using lb
  have sC : TC.size ≤ 3 := by rw [← hTC]; simpa [ByteArray.size] using lc
  have hX : (⟨(txtL (u : Int) hl hg sl sg).toArray⟩ : ByteArray) = TA ++ ⟨#[32]⟩ ++ TB ++ ⟨#[47]⟩ ++ TC := by
    rw [hx, ← hTA, ← hTB, ← hTC]
    apply ByteArray.ext
    simp [ByteArray.data_append]
  rw [hTA] at hD
  rw [hTB] at hF1
  rw [hTC] at hF2
  generalize rT (u / Nat.gcd u 1000) (1000 / Nat.gcd u 1000) = R at *
  have HO := Lib.hid hO
  have HD := Lib.hid hD
  have HF1 := Lib.hid hF1
  have HF2 := Lib.hid hF2
  have HX := Lib.hid hX
  have k1 : ¬ 9223372036854775807 < TA.size + 1 := by omega
  have k2 : ¬ 9223372036854775807 < TA.size + 1 + TB.size := by omega
  have k3 : ¬ 9223372036854775807 < TA.size + 1 + TB.size + 1 := by omega
  have k4 : ¬ 9223372036854775807 < TA.size + 1 + TB.size + 1 + TC.size := by omega
  clear hf z1 z2 z3 hgp hq hp hgg hO hD hT hx la lb lc hF1 hF2 hTA hTB hTC hX
  go_enter Tryz.func63, Tryz.ntmps63
  have hr := Row.new w (fitC (u : Int) true hl hg false sl sg) 49
  have hb := (Below.refl _ w).alloc (Nat.le_refl _) (.cells (fitC (u : Int) true hl hg false sl sg) 49)
  have hc := hr.cell
  go_wp2_with fail
  refine (HO.out _).mono ?_
  rintro e w3 ⟨rfl, hbb⟩
  have hr := hr.next hbb
  have hb := hb.trans (hbb.mono hb.size)
  clear hbb hc
  have hc := hr.cell
  go_wp2_with fail
  refine (HD.out _).mono ?_
  rintro e w4 ⟨rfl, hbb⟩
  have hr := hr.next hbb
  have hb := hb.trans (hbb.mono hb.size)
  clear hbb hc
  have hc := hr.cell
  go_wp2_with fail
  refine (HF1.out _).mono ?_
  rintro e w5 ⟨rfl, hbb⟩
  have hr := hr.next hbb
  have hb := hb.trans (hbb.mono hb.size)
  clear hbb hc
  have hc := hr.cell
  go_wp2_with fail
  refine (HF2.out _).mono ?_
  rintro e w6 ⟨rfl, hbb⟩
  have hb := hb.trans (hbb.mono hb.size)
  clear hbb hc
  go_wp2
  go_ret
  exact ⟨by rw [HX.out]; rfl, hb⟩
set_option maxHeartbeats 2000000 in
theorem rfText_c (n : Int) (hh : Bool) (hl hg : Int) (sh : Bool) (sl sg : Int) (w : World) : Calls Tryz.prog 34 #[.agg (fitC n hh hl hg sh sl sg)] w
    fun e w' => e = .returned (txtV n hh hl hg sh sl sg) ∧ Below w.heap.size w w' := by
  have HC := Lib.hid (fun w => rfCheck_c n hh hl hg sh sl sg w)
  unfold txtV
  by_cases hf : fE n hh hl hg sh sl sg = 0
  · rw [if_pos hf]
    have hbo := fE_ok hf
    obtain ⟨_, _, _, k1, k2, _, _⟩ := hbo
    subst k1 k2
    have HW := Lib.hid (fun w => rWritten_ok n hl hg sl sg w hf)
    have HF := Lib.hid hf
    clear hf
    go_enter Tryz.func34, Tryz.ntmps34
    have hr := Row.new w (fitC n true hl hg false sl sg) 49
    have hb := (Below.refl _ w).alloc (Nat.le_refl _) (.cells (fitC n true hl hg false sl sg) 49)
    have hc := hr.cell
    go_wp2_with fail
    refine (HC.out _).mono ?_
    rintro e w3 ⟨rfl, hbb⟩
    rw [HF.out]
    have hr := hr.next hbb
    have hb := hb.trans (hbb.mono hb.size)
    clear hbb hc
    have hc := hr.cell
    go_wp2_with fail
    refine (HW.out _).mono ?_
    rintro e w4 ⟨rfl, hbb⟩
    have hb := hb.trans (hbb.mono hb.size)
    clear hbb hc
    go_wp2
    go_ret2
    exact ⟨rfl, hb⟩
  · rw [if_neg hf]
    generalize fE n hh hl hg sh sl sg = x at *
    have hx : (x == 0) = false := by simpa using hf
    go_enter Tryz.func34, Tryz.ntmps34
    have hr := Row.new w (fitC n hh hl hg sh sl sg) 49
    have hb := (Below.refl _ w).alloc (Nat.le_refl _) (.cells (fitC n hh hl hg sh sl sg) 49)
    have hc := hr.cell
    go_wp2_with fail
    refine (HC.out _).mono ?_
    rintro e w3 ⟨rfl, hbb⟩
    have hb := hb.trans (hbb.mono hb.size)
    clear hbb hc
    go_wp2
    go_ret2
    exact ⟨rfl, hb⟩
end Go.Proofs.YtldghloflegpmaaGreatDoor

namespace Go.Proofs.YtldghloflegpmaaGreatDoor
open Go.RowKit Go.Shelf Pu Go.Lib

theorem p1_txt (n hl hg sl sg : Int) : p1 (txtL n hl hg sl sg) = thL n.toNat := by
  unfold p1 txtL
  rw [cutc_at (thL_no _ 32 (by decide))]
theorem fp_n {l : List UInt8} {n : Int} (hl : ¬ 4096 < l.length) (hn : ∀ u : Nat, u ≤ 100000 → p1 l = thL u → n = u) :
    fpV l = if fE n (phB (p2 l)) (plI (p2 l)) (pgI (p2 l)) (phB (p3 l)) (plI (p3 l)) (pgI (p3 l)) = 0 ∧ txtL n (plI (p2 l)) (pgI (p2 l)) (plI (p3 l)) (pgI (p3 l)) = l
      then fitV n (phB (p2 l)) (plI (p2 l)) (pgI (p2 l)) (phB (p3 l)) (plI (p3 l)) (pgI (p3 l)) 0 else fitV 0 false 0 0 false 0 0 4 := by
  split
  · rename_i h
    obtain ⟨hf, ht⟩ := h
    obtain ⟨h1, h2⟩ := fE_hs hf
    rw [h1, h2] at hf ⊢
    have := fpV_txt hf
    rw [ht] at this
    rw [this]; rfl
  · rename_i h
    unfold fpV
    rw [if_neg hl, if_neg]
    intro g
    obtain ⟨g1, g2, g3, g4⟩ := g
    obtain ⟨z1, _⟩ := fE_ok g3
    obtain ⟨n1, n2⟩ := zE_ok.1 z1
    have e := p1_txt (thV (p1 l)) (plI (p2 l)) (pgI (p2 l)) (plI (p3 l)) (pgI (p3 l))
    rw [g4] at e
    have := hn (thV (p1 l)).toNat (by omega) e
    rw [show ((thV (p1 l)).toNat : Int) = thV (p1 l) by omega] at this
    exact h (by rw [this]; exact ⟨g3, g4⟩)

set_option maxHeartbeats 4000000 in
theorem until_c (s : ByteArray) (c : UInt8) (m : Nat) (w : World) (hm : c.toNat = m) (hs : s.size ≤ 4500) : Calls Tryz.prog 66 #[.string s, .int .u8 (m : Int)] w
    fun e w' => e = .returned (.tuple #[.string ⟨(Lib.cut s.data.toList [c]).1.toArray⟩, .string ⟨(Lib.cut s.data.toList [c]).2.1.toArray⟩]) ∧ Below w.heap.size w w' := by
  have hl : s.data.toList.length = s.size := by simp
  have hA : ∀ (k : Nat) (h : k < s.size), (s[k]'h).toNat = m → (∀ x ∈ s.data.toList.take k, x ≠ c) → (⟨(Lib.cut s.data.toList [c]).1.toArray⟩ : ByteArray) = s.extract 0 k ∧ (⟨(Lib.cut s.data.toList [c]).2.1.toArray⟩ : ByteArray) = s.extract (k + 1) s.size := by
    intro k h hk hx
    have ha := at_list s k h
    rw [List.getElem?_eq_getElem (by omega)] at ha
    have hc : (s[k]'h) = c := UInt8.toNat_inj.1 (by rw [hk, hm])
    have e : s.data.toList = s.data.toList.take k ++ c :: s.data.toList.drop (k + 1) := by
      rw [← hc, ← Option.some.inj ha, ← List.drop_eq_getElem_cons (by omega), List.take_append_drop]
    have e2 : Lib.cut s.data.toList [c] = (s.data.toList.take k, s.data.toList.drop (k + 1), true) := by
      rw [congrArg (fun l => Lib.cut l [c]) e]
      exact cutc_at hx
    rw [e2]
    refine ⟨ba_of ?_, ba_of ?_⟩
    · simp [ByteArray.data_extract]
    · simp [ByteArray.data_extract, List.take_of_length_le]
  have hN : (∀ x ∈ s.data.toList, x ≠ c) → (⟨(Lib.cut s.data.toList [c]).1.toArray⟩ : ByteArray) = s ∧ (⟨(Lib.cut s.data.toList [c]).2.1.toArray⟩ : ByteArray) = ⟨#[]⟩ := by
    intro h
    rw [cutc_no h]
    exact ⟨rfl, rfl⟩
  generalize (⟨(Lib.cut s.data.toList [c]).1.toArray⟩ : ByteArray) = A at *
  generalize (⟨(Lib.cut s.data.toList [c]).2.1.toArray⟩ : ByteArray) = B at *
  have HA := Lib.hid hA
  have HN := Lib.hid hN
  clear hA hN
  go_enter Tryz.func66, Tryz.ntmps66
  go_wp2_with fail
  go_loopw [6] (fun a wr => ∃ k : Nat, k ≤ s.size ∧ a = .int .i64 (k : Int) ∧ Hid (∀ x ∈ s.data.toList.take k, x ≠ c) ∧ Below w.heap.size w wr) (fun a _ => s.size - (intOf a).toNat)
  case atStart => exact ⟨0, by omega, rfl, Lib.hid (by simp), Below.refl _ _⟩
  case round =>
    obtain ⟨k, hk, rfl, HK, hb⟩ := hrel
    by_cases hlt : k < s.size
    · by_cases hx : (s[k]'hlt).toNat = m
      · have HE := Lib.hid (HA.out k hlt hx HK.out)
        have hx' : ((s[k]'hlt).toNat : Int) = (m : Int) := by omega
        clear HK HA HN
        go_wp2_with fail
        go_region
        all_goals
          go_wp2
          go_ret2
          obtain ⟨e1, e2⟩ := HE.out
          exact ⟨by rw [e1, e2]; rfl, hb.trans ⟨rfl, rfl, rfl, Nat.le_refl _, fun _ _ => rfl⟩⟩
      · have hx' : ¬ ((s[k]'hlt).toNat : Int) = (m : Int) := by omega
        have HK2 : Hid (∀ x ∈ s.data.toList.take (k + 1), x ≠ c) := Lib.hid (by
          have ha := at_list s k hlt
          rw [List.getElem?_eq_getElem (by omega)] at ha
          rw [List.take_succ_eq_append_getElem (by omega), Option.some.inj ha]
          intro x h
          rw [List.mem_append, List.mem_singleton] at h
          rcases h with h | h
          · exact HK.out x h
          · rw [h]; intro e; exact hx (by rw [e, hm]))
        clear HK
        go_wp2
        go_roundw
        case rel => exact ⟨k + 1, by omega, by go_num, HK2, hb⟩
        case measure => first | (simp [intOf]; done) | (simp [intOf]; omega)
    · obtain rfl : k = s.size := by omega
      have HE := Lib.hid (HN.out (by have := HK.out; rwa [List.take_of_length_le (by omega)] at this))
      clear HK HA HN
      go_wp2
      go_ret2
      obtain ⟨e1, e2⟩ := HE.out
      exact ⟨by rw [e1, e2]; rfl, hb⟩
end Go.Proofs.YtldghloflegpmaaGreatDoor

namespace Go.Proofs.YtldghloflegpmaaGreatDoor
open Go.RowKit Go.Shelf Pu Go.Lib

theorem rInfo7 : (Tryz.prog.info? 49).map (·.size) = some 7 := by kernel_rfl
theorem rfp_results {tmps : Array Value} {w : World} {b : Nat} {cs : Array Value} {e : Int} (h2 : tmps.getD 2 undef = .pointer (some ⟨b, 0, none⟩)) (h3 : tmps.getD 3 undef = .int .i64 e) (hr : Row w b cs 49) (hs : (Tryz.prog.info? 49).map (·.size) = some cs.size) :
    (results Tryz.f36 tmps).run Tryz.prog w = .ok (.tuple #[.agg cs, .int .i64 e]) w := by
  have h2' : tmps[2]?.getD undef = .pointer (some ⟨b, 0, none⟩) := by simpa using h2
  have h3' : tmps[3]?.getD undef = .int .i64 e := by simpa using h3
  simp [results, Tryz.results36, h2', h3', asAddr, run_loadVar_row (P := Tryz.prog) w b 49 49 cs (0, 0) _ hr Tryz.underlying49 rfl hs]
theorem rput7 {w : World} {b : Nat} {n : Int} {hh : Bool} {hl hg : Int} {sh : Bool} {sl sg : Int} (h : Row w b (fitC n hh hl hg sh sl sg) 49) (n' : Int) (hh' : Bool) (hl' hg' : Int) (sh' : Bool) (sl' sg' : Int) :
    Row (((((((w.setCell ⟨b, 0, none⟩ (.int .i64 n')).setCell ⟨b, 1, none⟩ (.bool hh')).setCell ⟨b, 2, none⟩ (.int .i64 hl')).setCell ⟨b, 3, none⟩ (.int .i64 hg')).setCell ⟨b, 4, none⟩ (.bool sh')).setCell ⟨b, 5, none⟩ (.int .i64 sl')).setCell ⟨b, 6, none⟩ (.int .i64 sg')) b (fitC n' hh' hl' hg' sh' sl' sg') 49 := by
  have := ((((((h.put 0 (.int .i64 n')).put 1 (.bool hh')).put 2 (.int .i64 hl')).put 3 (.int .i64 hg')).put 4 (.bool sh')).put 5 (.int .i64 sl')).put 6 (.int .i64 sg')
  simpa using this

set_option maxHeartbeats 2000000 in
theorem rfParse_long (s : ByteArray) (w : World) (h : 4096 < s.size) (_hm : s.size ≤ 9223372036854775807) : Calls Tryz.prog 36 #[.string s] w fun e w' => e = .returned (fitV 0 false 0 0 false 0 0 17) ∧ Below w.heap.size w w' := by
  go_enter Tryz.func36, Tryz.ntmps36
  have hr := Row.new w (fitC 0 false 0 0 false 0 0) 49
  have hb := (Below.refl _ w).alloc (Nat.le_refl _) (.cells (fitC 0 false 0 0 false 0 0) 49)
  have hc := hr.cell
  have hf := hr.frozen
  go_wp2
  exact bodyPost_ret (rfp_results (cs := fitC 0 false 0 0 false 0 0) (e := 17) rfl rfl hr rInfo7) rfl ⟨rfl, hb⟩

set_option maxRecDepth 100000 in
set_option maxHeartbeats 4000000 in
theorem rfParse_short (s : ByteArray) (w : World) (h : s.size ≤ 4096) : Calls Tryz.prog 36 #[.string s] w fun e w' => e = .returned (fpV s.data.toList) ∧ Below w.heap.size w w' := by
  have hlen : s.data.toList.length = s.size := by simp
  have l1 := cut_len s.data.toList [32]
  have l2 := cut_len (Lib.cut s.data.toList [32]).2.1 [47]
  have hV := fun (n : Int) (hn : ∀ u : Nat, u ≤ 100000 → p1 s.data.toList = thL u → n = u) => fp_n (l := s.data.toList) (n := n) (by omega) hn
  have hc1 := fun w => until_c s 32 32 w rfl (by omega)
  have hc2 := fun w => until_c ⟨(Lib.cut s.data.toList [32]).2.1.toArray⟩ 47 47 w rfl (by rw [mk_size]; omega)
  have ht := fun w => rwhole_c ⟨(p1 s.data.toList).toArray⟩ w (by rw [mk_size]; unfold p1; omega)
  have hp2 := fun w => rParse_c ⟨(p2 s.data.toList).toArray⟩ w (by rw [mk_size]; unfold p2; omega)
  have hp3 := fun w => rParse_c ⟨(p3 s.data.toList).toArray⟩ w (by rw [mk_size]; unfold p3; omega)
  rw [show (⟨(p1 s.data.toList).toArray⟩ : ByteArray).data.toList = p1 s.data.toList from rfl] at ht
  rw [show (⟨(p2 s.data.toList).toArray⟩ : ByteArray).data.toList = p2 s.data.toList from rfl, prsV_is] at hp2
  rw [show (⟨(p3 s.data.toList).toArray⟩ : ByteArray).data.toList = p3 s.data.toList from rfl, prsV_is] at hp3
  rw [show (⟨(Lib.cut s.data.toList [32]).2.1.toArray⟩ : ByteArray).data.toList = (Lib.cut s.data.toList [32]).2.1 from rfl, show (Lib.cut (Lib.cut s.data.toList [32]).2.1 [47]).1 = p2 s.data.toList from rfl, show (Lib.cut (Lib.cut s.data.toList [32]).2.1 [47]).2.1 = p3 s.data.toList from rfl] at hc2
  rw [show (Lib.cut s.data.toList [32]).1 = p1 s.data.toList from rfl] at hc1
  rw [show ((32 : Nat) : Int) = 32 from rfl] at hc1
  rw [show ((47 : Nat) : Int) = 47 from rfl] at hc2
  obtain ⟨TR, hTR⟩ : ∃ T : ByteArray, ⟨(Lib.cut s.data.toList [32]).2.1.toArray⟩ = T := ⟨_, rfl⟩
  rw [hTR] at hc1 hc2
  clear l1 l2 hTR
  generalize phB (p2 s.data.toList) = hh at *
  generalize plI (p2 s.data.toList) = hl at *
  generalize pgI (p2 s.data.toList) = hg at *
  generalize prsE (p2 s.data.toList) = he at *
  generalize phB (p3 s.data.toList) = sh at *
  generalize plI (p3 s.data.toList) = sl at *
  generalize pgI (p3 s.data.toList) = sg at *
  generalize prsE (p3 s.data.toList) = ge at *
  obtain ⟨T1, hT1⟩ : ∃ T : ByteArray, ⟨(p1 s.data.toList).toArray⟩ = T := ⟨_, rfl⟩
  obtain ⟨T2, hT2⟩ : ∃ T : ByteArray, ⟨(p2 s.data.toList).toArray⟩ = T := ⟨_, rfl⟩
  obtain ⟨T3, hT3⟩ : ∃ T : ByteArray, ⟨(p3 s.data.toList).toArray⟩ = T := ⟨_, rfl⟩
  rw [hT1] at hc1 ht
  rw [hT2] at hc2 hp2
  rw [hT3] at hc2 hp3
  have HC1 := Lib.hid hc1
  have HC2 := Lib.hid hc2
  have HT := Lib.hid ht
  have HP2 := Lib.hid hp2
  have HP3 := Lib.hid hp3
  have HV := Lib.hid hV
  have h' : ¬ 4096 < s.size := by omega
  clear hT1 hT2 hT3 hc1 hc2 ht hp2 hp3 hV hlen h
  go_enter Tryz.func36, Tryz.ntmps36
  go_wp2_with fail
  have hr := Row.new w (fitC 0 false 0 0 false 0 0) 49
  have hb := (Below.refl _ w).alloc (Nat.le_refl _) (.cells (fitC 0 false 0 0 false 0 0) 49)
  generalize w.alloc (.cells (fitC 0 false 0 0 false 0 0) 49) = w1 at *
  refine (HC1.out _).mono ?_
  rintro e w2 ⟨rfl, hbb⟩
  have hr := hr.next hbb
  have hb := hb.trans (hbb.mono hb.size)
  clear hbb
  go_wp2_with fail
  refine (HC2.out _).mono ?_
  rintro e w3 ⟨rfl, hbb⟩
  have hr := hr.next hbb
  have hb := hb.trans (hbb.mono hb.size)
  clear hbb
  go_wp2_with fail
  refine (HT.out _).mono ?_
  rintro e w4 ⟨⟨n, rfl, n1, n2, hn⟩, hbb⟩
  have HV := Lib.hid (HV.out n hn)
  clear hn
  have hlt4 := (hr.next hbb).lt
  have hr := (hr.next hbb).alloc (.cells (fitC n false 0 0 false 0 0) 49)
  have hb := hb.trans (hbb.mono hb.size)
  have hx := Row.new w4 (fitC n false 0 0 false 0 0) 49
  have hxs := hb.size
  have hb := hb.alloc hb.size (.cells (fitC n false 0 0 false 0 0) 49)
  clear hbb
  go_wp2_with fail
  obtain ⟨X, hX⟩ : ∃ X, w4.heap.size = X := ⟨_, rfl⟩
  rw [hX] at hx hxs hlt4 ⊢
  have hXw : w.heap.size ≠ X := by omega
  generalize w4.alloc (.cells (fitC n false 0 0 false 0 0) 49) = w5 at *
  clear hX
  refine (HP2.out _).mono ?_
  rintro e w6 ⟨rfl, hbb⟩
  have hr := hr.next hbb
  have hx := hx.next hbb
  have hb := hb.trans (hbb.mono hb.size)
  clear hbb
  have hc := hx.cell
  have hf := hx.frozen
  go_wp2_with fail
  have hx7 : Row (((w6.setCell ⟨X, 1, none⟩ (.bool hh)).setCell ⟨X, 2, none⟩ (.int .i64 hl)).setCell ⟨X, 3, none⟩ (.int .i64 hg)) X (fitC n hh hl hg false 0 0) 49 := by
    have := ((hx.put 1 (.bool hh)).put 2 (.int .i64 hl)).put 3 (.int .i64 hg)
    simpa using this
  have hr7 := ((hr.other (p := ⟨X, 1, none⟩) hXw (.bool hh)).other (p := ⟨X, 2, none⟩) hXw (.int .i64 hl)).other (p := ⟨X, 3, none⟩) hXw (.int .i64 hg)
  have hb7 := ((hb.setCell (p := ⟨X, 1, none⟩) hxs (.bool hh)).setCell (p := ⟨X, 2, none⟩) hxs (.int .i64 hl)).setCell (p := ⟨X, 3, none⟩) hxs (.int .i64 hg)
  clear hc hf hr hx hb
  generalize ((w6.setCell ⟨X, 1, none⟩ (.bool hh)).setCell ⟨X, 2, none⟩ (.int .i64 hl)).setCell ⟨X, 3, none⟩ (.int .i64 hg) = w7 at *
  refine (HP3.out _).mono ?_
  rintro e w8 ⟨rfl, hbb⟩
  have hr := hr7.next hbb
  have hx := hx7.next hbb
  have hb := hb7.trans (hbb.mono hb7.size)
  clear hbb hr7 hx7 hb7
  have hx9 : Row (((w8.setCell ⟨X, 4, none⟩ (.bool sh)).setCell ⟨X, 5, none⟩ (.int .i64 sl)).setCell ⟨X, 6, none⟩ (.int .i64 sg)) X (fitC n hh hl hg sh sl sg) 49 := by
    have := ((hx.put 4 (.bool sh)).put 5 (.int .i64 sl)).put 6 (.int .i64 sg)
    simpa using this
  have hr9 := ((hr.other (p := ⟨X, 4, none⟩) hXw (.bool sh)).other (p := ⟨X, 5, none⟩) hXw (.int .i64 sl)).other (p := ⟨X, 6, none⟩) hXw (.int .i64 sg)
  have hb9 := ((hb.setCell (p := ⟨X, 4, none⟩) hxs (.bool sh)).setCell (p := ⟨X, 5, none⟩) hxs (.int .i64 sl)).setCell (p := ⟨X, 6, none⟩) hxs (.int .i64 sg)
  have hc := hx.cell
  have hf := hx.frozen
  have hcr := hr.cell
  have hfr := hr.frozen
  go_wp2_with fail
  clear hc hf hcr hfr hr hx hb
  generalize ((w8.setCell ⟨X, 4, none⟩ (.bool sh)).setCell ⟨X, 5, none⟩ (.int .i64 sl)).setCell ⟨X, 6, none⟩ (.int .i64 sg) = w9 at *
  refine (rfText_c n hh hl hg sh sl sg _).mono ?_
  rintro e w10 ⟨rfl, hbb⟩
  have hr := hr9.next hbb
  have hx := hx9.next hbb
  have hb := hb9.trans (hbb.mono hb9.size)
  clear hbb hr9 hx9 hb9
  have hc := hx.cell
  have hf := hx.frozen
  have hcr := hr.cell
  have hfr := hr.frozen
  by_cases hfe : fE n hh hl hg sh sl sg = 0
  case neg =>
    have hv : fpV s.data.toList = fitV 0 false 0 0 false 0 0 4 := by rw [HV.out, if_neg]; exact fun h => hfe h.1
    have Hv := Lib.hid hv
    have ht : txtV n hh hl hg sh sl sg = .tuple #[.string ⟨#[]⟩, .int .i64 (fE n hh hl hg sh sl sg)] := by unfold txtV; rw [if_neg hfe]
    rw [ht]
    have h3 : (fE n hh hl hg sh sl sg == 0) = false := by simpa using hfe
    clear hv ht
    generalize fE n hh hl hg sh sl sg = x at *
    go_wp2
    exact bodyPost_ret (rfp_results (cs := fitC 0 false 0 0 false 0 0) (e := 4) rfl rfl (rput7 hr 0 false 0 0 false 0 0) rInfo7) rfl ⟨by rw [Hv.out]; rfl, (((((((hb.setCell (Nat.le_refl _) _).setCell (Nat.le_refl _) _).setCell (Nat.le_refl _) _).setCell (Nat.le_refl _) _).setCell (Nat.le_refl _) _).setCell (Nat.le_refl _) _).setCell (Nat.le_refl _) _)⟩
  have ht : txtV n hh hl hg sh sl sg = .tuple #[.string ⟨(txtL n hl hg sl sg).toArray⟩, .int .i64 0] := by unfold txtV; rw [if_pos hfe]
  rw [ht]
  by_cases heq : txtL n hl hg sl sg = s.data.toList
  case neg =>
    have hv : fpV s.data.toList = fitV 0 false 0 0 false 0 0 4 := by rw [HV.out, if_neg]; exact fun h => heq h.2
    have Hv := Lib.hid hv
    obtain ⟨T, hT⟩ : ∃ T : ByteArray, ⟨(txtL n hl hg sl sg).toArray⟩ = T := ⟨_, rfl⟩
    rw [hT]
    have hne : ¬ T.toList = s.toList := by
      rw [ByteArray.toList_eq, ByteArray.toList_eq, ← hT]
      exact heq
    have hbe : (T.toList == s.toList) = false := by simpa using hne
    clear hv ht hT
    go_wp2
    exact bodyPost_ret (rfp_results (cs := fitC 0 false 0 0 false 0 0) (e := 4) rfl rfl (rput7 hr 0 false 0 0 false 0 0) rInfo7) rfl ⟨by rw [Hv.out]; rfl, (((((((hb.setCell (Nat.le_refl _) _).setCell (Nat.le_refl _) _).setCell (Nat.le_refl _) _).setCell (Nat.le_refl _) _).setCell (Nat.le_refl _) _).setCell (Nat.le_refl _) _).setCell (Nat.le_refl _) _)⟩
  have hv : fpV s.data.toList = fitV n hh hl hg sh sl sg 0 := by rw [HV.out, if_pos ⟨hfe, heq⟩]
  have Hv := Lib.hid hv
  have hs : (⟨(txtL n hl hg sl sg).toArray⟩ : ByteArray) = s := by rw [heq]
  rw [hs]
  clear hv ht hs heq hfe
  go_wp2
  exact bodyPost_ret (rfp_results (cs := fitC n hh hl hg sh sl sg) (e := 0) rfl rfl (rput7 hr n hh hl hg sh sl sg) rInfo7) rfl ⟨by rw [Hv.out]; rfl, (((((((hb.setCell (Nat.le_refl _) _).setCell (Nat.le_refl _) _).setCell (Nat.le_refl _) _).setCell (Nat.le_refl _) _).setCell (Nat.le_refl _) _).setCell (Nat.le_refl _) _).setCell (Nat.le_refl _) _)⟩

theorem rfParse_c (s : ByteArray) (w : World) (hs : s.size ≤ 9223372036854775807) : Calls Tryz.prog 36 #[.string s] w fun e w' => e = .returned (fpV s.data.toList) ∧ Below w.heap.size w w' := by
  by_cases h : 4096 < s.size
  · have hlen : s.data.toList.length = s.size := by simp
    have : fpV s.data.toList = fitV 0 false 0 0 false 0 0 17 := by unfold fpV; rw [if_pos (by omega)]
    rw [this]
    exact rfParse_long s w h hs
  · exact rfParse_short s w (by omega)
end Go.Proofs.YtldghloflegpmaaGreatDoor

namespace Go.Proofs.YtldghloflegpmaaGreatDoor
open Go.RowKit Go.Shelf Pu Go.Lib

theorem fpV_is (l : List UInt8) : ∃ m mh ml mg th tl tg x, fpV l = .tuple #[.agg (fitC m mh ml mg th tl tg), .int .i64 x] := by
  unfold fpV fitV; (repeat' split) <;> exact ⟨_, _, _, _, _, _, _, _, rfl⟩
theorem txtV_is (n : Int) (hh : Bool) (hl hg : Int) (sh : Bool) (sl sg : Int) : ∃ T x, txtV n hh hl hg sh sl sg = .tuple #[.string T, .int .i64 x] := by
  unfold txtV; (repeat' split) <;> exact ⟨_, _, rfl⟩

set_option maxRecDepth 100000 in
set_option maxHeartbeats 8000000 in
theorem fitTexts_c (n : Int) (hh : Bool) (hl hg : Int) (sh : Bool) (sl sg : Int) (s : ByteArray) (w : World) (_ : (Lit.int .i64 n).wf = true ∧ (Lit.int .i64 hl).wf = true ∧ (Lit.int .i64 hg).wf = true ∧ (Lit.int .i64 sl).wf = true ∧ (Lit.int .i64 sg).wf = true) (hs : s.size ≤ maxLen) (hG : Gw w) :
    Calls Tryz.prog 6 #[.agg (fitC n hh hl hg sh sl sg), .string s] w fun e w' => e = .returned (.bool true) ∧ Below w.heap.size w w' := by
  have hz : s.size ≤ 9223372036854775807 := Nat.le_trans hs (by decide)
  obtain ⟨m, mh, ml, mg, th, tl, tg, x, hv⟩ := fpV_is s.data.toList
  obtain ⟨T, y, hq⟩ := txtV_is n hh hl hg sh sl sg
  have h1 := fun w hG => Text_c n hh hl hg sh sl sg w hG
  have h2 := fun w => rfText_c n hh hl hg sh sl sg w
  have h3 := fun w hG => fParse_c s w hz hG
  have h4 := fun w => rfParse_c s w hz
  have h5 := fun w => own16_c n hh hl hg sh sl sg w
  have h6 := fun w => own16_c m mh ml mg th tl tg w
  rw [hq] at h1 h2
  rw [hv] at h3 h4
  clear hv hq hs
  have H1 := Lib.hid h1
  have H2 := Lib.hid h2
  have H3 := Lib.hid h3
  have H4 := Lib.hid h4
  have H5 := Lib.hid h5
  have H6 := Lib.hid h6
  clear h1 h2 h3 h4 h5 h6
  by_cases g1 : 200 < s.size
  case neg =>
    have g3 : ¬ 8192 < s.size := by omega
    go_enter Tryz.func6, Tryz.ntmps6
    have rf := (Row.new w (fitC n hh hl hg sh sl sg) 42)
    have hb := ((Below.refl _ w).alloc (Nat.le_refl _) (.cells (fitC n hh hl hg sh sl sg) 42))
    have crf := rf.cell
    go_wp2_with fail
    refine (H1.out _ (hG.next hb)).mono ?_
    rintro e w2 ⟨rfl, hbb⟩
    have rf := rf.next hbb
    have hb := hb.trans (hbb.mono hb.size)
    clear hbb
    clear crf
    have crf := rf.cell
    go_wp2_with fail
    refine (H5.out _).mono ?_
    rintro e w3 ⟨rfl, hbb⟩
    have rf := rf.next hbb
    have hb := hb.trans (hbb.mono hb.size)
    clear hbb
    clear crf
    go_wp2_with fail
    refine (H2.out _).mono ?_
    rintro e w4 ⟨rfl, hbb⟩
    have rf := rf.next hbb
    have hb := hb.trans (hbb.mono hb.size)
    clear hbb
    go_wp2_with fail
    refine (H3.out _ (hG.next hb)).mono ?_
    rintro e w5 ⟨rfl, hbb⟩
    have rf := rf.next hbb
    have hb := hb.trans (hbb.mono hb.size)
    clear hbb
    have rf := rf.alloc (.cells (fitC m mh ml mg th tl tg) 42)
    have ra := Row.new w5 (fitC m mh ml mg th tl tg) 42
    have hb := hb.alloc hb.size (.cells (fitC m mh ml mg th tl tg) 42)
    go_wp2_with fail
    refine (H4.out _).mono ?_
    rintro e w6 ⟨rfl, hbb⟩
    have rf := rf.next hbb
    have ra := ra.next hbb
    have hb := hb.trans (hbb.mono hb.size)
    clear hbb
    have rf := rf.alloc (.cells (fitC m mh ml mg th tl tg) 49)
    have ra := ra.alloc (.cells (fitC m mh ml mg th tl tg) 49)
    have rb := Row.new w6 (fitC m mh ml mg th tl tg) 49
    have hb := hb.alloc hb.size (.cells (fitC m mh ml mg th tl tg) 49)
    have cra := ra.cell
    have crb := rb.cell
    go_wp2_with fail
    clear cra crb rf
    obtain ⟨X1, e1⟩ : ∃ X, w5.heap.size = X := ⟨_, rfl⟩
    obtain ⟨X2, e2⟩ : ∃ X, w6.heap.size = X := ⟨_, rfl⟩
    rw [e1] at ra ⊢
    rw [e2] at rb ⊢
    clear e1 e2
    have hGV := hG.next hb
    have hS := L2.mk (Nat.le_refl _) hb ra rb
    go_region_held3 (fun w' => HL w.heap.size w [(X1, (fitC m mh ml mg th tl tg), 42), (X2, (fitC m mh ml mg th tl tg), 49)] w' ∧ (∀ j, w'.cell? ⟨X1, j, none⟩ = ((fitC m mh ml mg th tl tg) : Array Value)[j]?) ∧ (∀ j, w'.cell? ⟨X2, j, none⟩ = ((fitC m mh ml mg th tl tg) : Array Value)[j]?))
      (first | exact hS | exact L2.drew hS | (refine L2.drew ?_; assumption) | (refine L2.call ?_ hbb; assumption) | (refine L2.call (L2.drew ?_) hbb; assumption))
      (first | (go_at_call 21; refine (H6.out _).mono ?_; rintro e w' ⟨rfl, hbb⟩) | (go_at_call 28; refine (awake16_c _ (by first | exact hG.next (L2.out (by assumption)).1 | exact hGV)).mono ?_; rintro e w' ⟨rfl, hbb⟩))
    all_goals
      rename_i hHeld
      go_wp2
      go_ret
      exact ⟨rfl, (L2.out hHeld).1⟩
  by_cases g2 : s.size ≤ 4096
  case pos =>
    clear H1 H2 H3 H4 H5 H6
    go_enter Tryz.func6, Tryz.ntmps6
    have rf := (Row.new w (fitC n hh hl hg sh sl sg) 42)
    have hb := ((Below.refl _ w).alloc (Nat.le_refl _) (.cells (fitC n hh hl hg sh sl sg) 42))
    clear rf
    go_wp2_with fail
    refine (awake16_c _ (hG.next hb)).mono ?_
    rintro e w2 ⟨rfl, hbb⟩
    have hb := hb.trans (hbb.mono hb.size)
    clear hbb
    go_wp2
    go_ret
    exact ⟨rfl, hb⟩
  by_cases g3 : 8192 < s.size
  case pos =>
    clear H1 H2 H3 H4 H5 H6
    go_enter Tryz.func6, Tryz.ntmps6
    have rf := (Row.new w (fitC n hh hl hg sh sl sg) 42)
    have hb := ((Below.refl _ w).alloc (Nat.le_refl _) (.cells (fitC n hh hl hg sh sl sg) 42))
    clear rf
    go_wp2_with fail
    refine (awake16_c _ (hG.next hb)).mono ?_
    rintro e w2 ⟨rfl, hbb⟩
    have hb := hb.trans (hbb.mono hb.size)
    clear hbb
    go_wp2
    go_ret
    exact ⟨rfl, hb⟩
  go_enter Tryz.func6, Tryz.ntmps6
  have rf := (Row.new w (fitC n hh hl hg sh sl sg) 42)
  have hb := ((Below.refl _ w).alloc (Nat.le_refl _) (.cells (fitC n hh hl hg sh sl sg) 42))
  have crf := rf.cell
  go_wp2_with fail
  refine (H1.out _ (hG.next hb)).mono ?_
  rintro e w2 ⟨rfl, hbb⟩
  have rf := rf.next hbb
  have hb := hb.trans (hbb.mono hb.size)
  clear hbb
  clear crf
  have crf := rf.cell
  go_wp2_with fail
  refine (H5.out _).mono ?_
  rintro e w3 ⟨rfl, hbb⟩
  have rf := rf.next hbb
  have hb := hb.trans (hbb.mono hb.size)
  clear hbb
  clear crf
  go_wp2_with fail
  refine (H2.out _).mono ?_
  rintro e w4 ⟨rfl, hbb⟩
  have rf := rf.next hbb
  have hb := hb.trans (hbb.mono hb.size)
  clear hbb
  go_wp2_with fail
  refine (H3.out _ (hG.next hb)).mono ?_
  rintro e w5 ⟨rfl, hbb⟩
  have rf := rf.next hbb
  have hb := hb.trans (hbb.mono hb.size)
  clear hbb
  have rf := rf.alloc (.cells (fitC m mh ml mg th tl tg) 42)
  have ra := Row.new w5 (fitC m mh ml mg th tl tg) 42
  have hb := hb.alloc hb.size (.cells (fitC m mh ml mg th tl tg) 42)
  go_wp2_with fail
  refine (H4.out _).mono ?_
  rintro e w6 ⟨rfl, hbb⟩
  have rf := rf.next hbb
  have ra := ra.next hbb
  have hb := hb.trans (hbb.mono hb.size)
  clear hbb
  have rf := rf.alloc (.cells (fitC m mh ml mg th tl tg) 49)
  have ra := ra.alloc (.cells (fitC m mh ml mg th tl tg) 49)
  have rb := Row.new w6 (fitC m mh ml mg th tl tg) 49
  have hb := hb.alloc hb.size (.cells (fitC m mh ml mg th tl tg) 49)
  have cra := ra.cell
  have crb := rb.cell
  go_wp2_with fail
  clear cra crb rf
  obtain ⟨X1, e1⟩ : ∃ X, w5.heap.size = X := ⟨_, rfl⟩
  obtain ⟨X2, e2⟩ : ∃ X, w6.heap.size = X := ⟨_, rfl⟩
  rw [e1] at ra ⊢
  rw [e2] at rb ⊢
  clear e1 e2
  have hGV := hG.next hb
  have hS := L2.mk (Nat.le_refl _) hb ra rb
  go_region_held3 (fun w' => HL w.heap.size w [(X1, (fitC m mh ml mg th tl tg), 42), (X2, (fitC m mh ml mg th tl tg), 49)] w' ∧ (∀ j, w'.cell? ⟨X1, j, none⟩ = ((fitC m mh ml mg th tl tg) : Array Value)[j]?) ∧ (∀ j, w'.cell? ⟨X2, j, none⟩ = ((fitC m mh ml mg th tl tg) : Array Value)[j]?))
    (first | exact hS | exact L2.drew hS | (refine L2.drew ?_; assumption) | (refine L2.call ?_ hbb; assumption) | (refine L2.call (L2.drew ?_) hbb; assumption))
    (first | (go_at_call 21; refine (H6.out _).mono ?_; rintro e w' ⟨rfl, hbb⟩) | (go_at_call 28; refine (awake16_c _ (by first | exact hG.next (L2.out (by assumption)).1 | exact hGV)).mono ?_; rintro e w' ⟨rfl, hbb⟩))
  all_goals
    rename_i hHeld
    go_wp2
    go_ret
    exact ⟨rfl, (L2.out hHeld).1⟩
end Go.Proofs.YtldghloflegpmaaGreatDoor

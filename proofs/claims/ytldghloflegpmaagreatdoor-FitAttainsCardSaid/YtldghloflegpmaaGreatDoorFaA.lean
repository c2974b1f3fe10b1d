/- The walk of FitAttains. -/
import Derived.Test.YtldghloflegpmaaGreatDoorFwA
namespace Go.Proofs.YtldghloflegpmaaGreatDoor
open Go.RowKit Go.Shelf Pu Go.Lib

/-- The limits of a right class. -/
theorem m_ok {n : Int} {h : Bool} {l g : Int} (hl : lE n h l g = 0) : 1 ≤ mLow n h l g ∧ mLow n h l g ≤ mHigh n h l g ∧ mHigh n h l g ≤ 100000 := by
  have := m_low hl
  have hd := d_bd n h l g
  rw [this.1, this.2]
  unfold lE at hl
  by_cases hz : dE n l g = 0
  · rw [if_pos hz] at hl
    by_cases h1 : n + dLow n h l g < 1 ∨ 100000 < n + dHigh n h l g
    · rw [if_pos h1] at hl; omega
    · omega
  · rw [if_neg hz] at hl; exact absurd hl hz
/-- A measured pair of a right fit whose limits are known. -/
theorem Pair_is {n hl hg sl sg L H l h : Int} (hf : fE n true hl hg false sl sg = 0) (e : mLow n true hl hg = L ∧ mHigh n true hl hg = H ∧ mLow n false sl sg = l ∧ mHigh n false sl sg = h) (u v : Int) (b : Bool)
    (hu0 : 0 ≤ u) (hu1 : u ≤ 100000) (hv0 : 0 ≤ v) (hv1 : v ≤ 100000) (hb : ((decide (L ≤ u) && decide (u ≤ H)) && (decide (l ≤ v) && decide (v ≤ h))) = b) (w : World) :
    Calls Tryz.prog 31 #[.agg (fitC n true hl hg false sl sg), .int .i64 u, .int .i64 v] w fun x w' => x = .returned (.tuple #[.int .i64 (u - v), .bool b, .int .i64 0]) ∧ Below w.heap.size w w' := by
  have h := Pair_ok n true hl hg false sl sg u v w hf hu0 hu1 hv0 hv1
  rw [e.1, e.2.1, e.2.2.1, e.2.2.2, hb] at h
  exact h
theorem in_yes {a b c d u v : Int} (h1 : a ≤ u) (h2 : u ≤ b) (h3 : c ≤ v) (h4 : v ≤ d) : ((decide (a ≤ u) && decide (u ≤ b)) && (decide (c ≤ v) && decide (v ≤ d))) = true := by
  rw [decide_eq_true h1, decide_eq_true h2, decide_eq_true h3, decide_eq_true h4]; rfl
theorem in_no1 {a b c d u v : Int} (h2 : b < u) : ((decide (a ≤ u) && decide (u ≤ b)) && (decide (c ≤ v) && decide (v ≤ d))) = false := by
  rw [decide_eq_false (show ¬ u ≤ b by omega), Bool.and_false, Bool.false_and]
theorem in_no2 {a b c d u v : Int} (h2 : v < c) : ((decide (a ≤ u) && decide (u ≤ b)) && (decide (c ≤ v) && decide (v ≤ d))) = false := by
  rw [decide_eq_false (show ¬ c ≤ v by omega), Bool.false_and, Bool.and_false]

set_option maxRecDepth 100000 in
set_option maxHeartbeats 4000000 in
theorem fitAttains_c (n : Int) (hh : Bool) (hl hg : Int) (sh : Bool) (sl sg : Int) (a0 a1 : Int) (w : World) (_ : (Lit.int .i64 n).wf = true ∧ (Lit.int .i64 hl).wf = true ∧ (Lit.int .i64 hg).wf = true ∧ (Lit.int .i64 sl).wf = true ∧ (Lit.int .i64 sg).wf = true) (wa : (Lit.int .u8 a0).wf = true) (wb : (Lit.int .u8 a1).wf = true) (hG : Gw w) :
    Calls Tryz.prog 7 #[.agg (fitC n hh hl hg sh sl sg), .int .u8 a0, .int .u8 a1] w fun e w' => e = .returned (.bool true) ∧ Below w.heap.size w w' := by
  have ba := bounds_u8 wa
  have bb := bounds_u8 wb
  clear wa wb
  by_cases hf : fE n hh hl hg sh sl sg = 0
  case neg =>
    have hx : (fE n hh hl hg sh sl sg == 0) = false := by simpa using hf
    have hR := fun w => rfCheck_c n hh hl hg sh sl sg w
    have HR := Lib.hid hR
    clear hR hf
    generalize fE n hh hl hg sh sl sg = x at *
    go_enter Tryz.func7, Tryz.ntmps7
    go_wp2_with fail
    refine (own16_c n hh hl hg sh sl sg _).mono ?_
    rintro e w2 ⟨rfl, hbb⟩
    have hb := ((Below.refl _ w).alloc (Nat.le_refl _) (.cells (fitC n hh hl hg sh sl sg) 42)).trans (hbb.mono (by simp))
    clear hbb
    go_wp2_with fail
    refine (HR.out _).mono ?_
    rintro e w3 ⟨rfl, hbb⟩
    have hb := hb.trans (hbb.mono hb.size)
    clear hbb
    go_wp2_with fail
    refine (awake16_c _ (hG.next hb)).mono ?_
    rintro e w4 ⟨rfl, hbb⟩
    go_wp2
    go_ret
    exact ⟨rfl, hb.trans (hbb.mono hb.size)⟩
  obtain ⟨rfl, rfl⟩ := fE_hs hf
  obtain ⟨_, _, _, _, _, k1, k2⟩ := fE_ok hf
  have i1 := m_ok k1
  have i2 := m_ok k2
  have hR := fun w => rfCheck_c n true hl hg false sl sg w
  rw [hf] at hR
  obtain ⟨L, H, l, h, c1, c2, c3, c4⟩ : ∃ L H l h, mLow n true hl hg = L ∧ mHigh n true hl hg = H ∧ mLow n false sl sg = l ∧ mHigh n false sl sg = h := ⟨_, _, _, _, rfl, rfl, rfl, rfl⟩
  have hLm : ∀ w, Calls Tryz.prog 19 #[.agg (fitC n true hl hg false sl sg)] w fun e w' => e = .returned (.tuple #[.agg #[.int .i64 L, .int .i64 H], .agg #[.int .i64 l, .int .i64 h], .int .i64 0]) ∧ Below w.heap.size w w' := fun w => by
    have q := fLimits_c n true hl hg false sl sg w
    rw [show fLimV n true hl hg false sl sg = .tuple #[.agg #[.int .i64 L, .int .i64 H], .agg #[.int .i64 l, .int .i64 h], .int .i64 0] by unfold fLimV twoL; rw [if_pos hf, c1, c2, c3, c4]] at q
    exact q
  have hC : ∀ w, Calls Tryz.prog 24 #[.agg (fitC n true hl hg false sl sg)] w fun e w' => e = .returned (.tuple #[.agg #[.int .i64 (L - h), .int .i64 (H - l)], .int .i64 0]) ∧ Below w.heap.size w w' := fun w => by
    have q := Clearance_c n true hl hg false sl sg w
    rw [show pairV (pLow n true hl hg false sl sg) (pHigh n true hl hg false sl sg) (fE n true hl hg false sl sg) = .tuple #[.agg #[.int .i64 (L - h), .int .i64 (H - l)], .int .i64 0] by unfold pLow pHigh; rw [if_pos hf, if_pos hf, c1, c2, c3, c4, hf]; rfl] at q
    exact q
  rw [c1, c2] at i1
  rw [c3, c4] at i2
  have P := fun u v b => Pair_is hf ⟨c1, c2, c3, c4⟩ u v b
  obtain ⟨i11, i12, i13⟩ := i1
  obtain ⟨i21, i22, i23⟩ := i2
  obtain ⟨q0, e0, q01, q02⟩ : ∃ q, a0.tmod (H - L + 1) = q ∧ 0 ≤ q ∧ q ≤ H - L := ⟨_, rfl, Int.tmod_nonneg _ ba.1, by have := Int.tmod_lt_of_pos a0 (show 0 < H - L + 1 by omega); omega⟩
  obtain ⟨q1, e1, q11, q12⟩ : ∃ q, a1.tmod (h - l + 1) = q ∧ 0 ≤ q ∧ q ≤ h - l := ⟨_, rfl, Int.tmod_nonneg _ bb.1, by have := Int.tmod_lt_of_pos a1 (show 0 < h - l + 1 by omega); omega⟩
  have d0 : ¬ H - L + 1 = 0 := by omega
  have d1 : ¬ h - l + 1 = 0 := by omega
  have P1 := P L h true (by omega) (by omega) (by omega) (by omega) (in_yes (by omega) (by omega) (by omega) (by omega))
  have P2 := P H l true (by omega) (by omega) (by omega) (by omega) (in_yes (by omega) (by omega) (by omega) (by omega))
  have P3 := P (L + q0) (l + q1) true (by omega) (by omega) (by omega) (by omega) (in_yes (by omega) (by omega) (by omega) (by omega))
  have P5 := P (L + q0) (l - 1) false (by omega) (by omega) (by omega) (by omega) (in_no2 (by omega))
  have P4 := fun (hH : H < 100000) => P (H + 1) (l + q1) false (by omega) (by omega) (by omega) (by omega) (in_no1 (by omega))
  have HR := Lib.hid hR
  have HLm := Lib.hid hLm
  have HC := Lib.hid hC
  have HP1 := Lib.hid P1
  have HP2 := Lib.hid P2
  have HP3 := Lib.hid P3
  have HP4 := Lib.hid P4
  have HP5 := Lib.hid P5
  clear hR hLm hC P P1 P2 P3 P4 P5 c1 c2 c3 c4 k1 k2 hf
  go_enter Tryz.func7, Tryz.ntmps7
  have rf := Row.new w (fitC n true hl hg false sl sg) 42
  have hb := (Below.refl _ w).alloc (Nat.le_refl _) (.cells (fitC n true hl hg false sl sg) 42)
  go_wp2_with fail
  refine (own16_c n true hl hg false sl sg _).mono ?_
  rintro e w2 ⟨rfl, hbb⟩
  have rf := rf.next hbb
  have hb := hb.trans (hbb.mono hb.size)
  clear hbb
  go_wp2_with fail
  refine (HR.out _).mono ?_
  rintro e w3 ⟨rfl, hbb⟩
  have rf := rf.next hbb
  have hb := hb.trans (hbb.mono hb.size)
  clear hbb
  have crf := rf.cell
  go_wp2_with fail
  refine (HLm.out _).mono ?_
  rintro e w4 ⟨rfl, hbb⟩
  have rf := rf.next hbb
  have hb := hb.trans (hbb.mono hb.size)
  clear hbb crf
  have rf := rf.alloc (.cells #[.int .i64 L, .int .i64 H] 23)
  have ra := Row.new (w4) #[.int .i64 L, .int .i64 H] 23
  have hb := hb.alloc hb.size (.cells #[.int .i64 L, .int .i64 H] 23)
  have rf := rf.alloc (.cells #[.int .i64 l, .int .i64 h] 23)
  have ra := ra.alloc (.cells #[.int .i64 l, .int .i64 h] 23)
  have rb := Row.new ((w4).alloc (.cells #[.int .i64 L, .int .i64 H] 23)) #[.int .i64 l, .int .i64 h] 23
  simp only [World.size_alloc] at rb
  have hb := hb.alloc hb.size (.cells #[.int .i64 l, .int .i64 h] 23)
  have crf := rf.cell
  go_wp2_with fail
  refine (HC.out _).mono ?_
  rintro e w5 ⟨rfl, hbb⟩
  have rf := rf.next hbb
  have ra := ra.next hbb
  have rb := rb.next hbb
  have hb := hb.trans (hbb.mono hb.size)
  clear hbb crf
  have rf := rf.alloc (.cells #[.int .i64 (L - h), .int .i64 (H - l)] 23)
  have ra := ra.alloc (.cells #[.int .i64 (L - h), .int .i64 (H - l)] 23)
  have rb := rb.alloc (.cells #[.int .i64 (L - h), .int .i64 (H - l)] 23)
  have rc := Row.new (w5) #[.int .i64 (L - h), .int .i64 (H - l)] 23
  have hb := hb.alloc hb.size (.cells #[.int .i64 (L - h), .int .i64 (H - l)] 23)
  have crf := rf.cell
  have cra := ra.cell
  have crb := rb.cell
  have crc := rc.cell
  go_wp2_with fail
  go_quiet (fail)
  have hb : Below w.heap.size w ((w5.alloc (.cells #[.int .i64 (L - h), .int .i64 (H - l)] 23)).drewN nq) := hb.trans ⟨rfl, rfl, rfl, Nat.le_refl _, fun _ _ => rfl⟩
  replace rf := show Row ((w5.alloc (.cells #[.int .i64 (L - h), .int .i64 (H - l)] 23)).drewN nq) _ (fitC n true hl hg false sl sg) 42 from rf
  replace ra := show Row ((w5.alloc (.cells #[.int .i64 (L - h), .int .i64 (H - l)] 23)).drewN nq) _ #[.int .i64 L, .int .i64 H] 23 from ra
  replace rb := show Row ((w5.alloc (.cells #[.int .i64 (L - h), .int .i64 (H - l)] 23)).drewN nq) _ #[.int .i64 l, .int .i64 h] 23 from rb
  replace rc := show Row ((w5.alloc (.cells #[.int .i64 (L - h), .int .i64 (H - l)] 23)).drewN nq) _ #[.int .i64 (L - h), .int .i64 (H - l)] 23 from rc
  clear crf cra crb crc
  generalize (w5.alloc (.cells #[.int .i64 (L - h), .int .i64 (H - l)] 23)).drewN nq = wa at *
  have crf := rf.cell
  have cra := ra.cell
  have crb := rb.cell
  have crc := rc.cell
  go_wp2_with fail
  go_quiet (fail)
  have hb : Below w.heap.size w ((wa).drewN nq) := hb.trans ⟨rfl, rfl, rfl, Nat.le_refl _, fun _ _ => rfl⟩
  replace rf := show Row ((wa).drewN nq) _ (fitC n true hl hg false sl sg) 42 from rf
  replace ra := show Row ((wa).drewN nq) _ #[.int .i64 L, .int .i64 H] 23 from ra
  replace rb := show Row ((wa).drewN nq) _ #[.int .i64 l, .int .i64 h] 23 from rb
  replace rc := show Row ((wa).drewN nq) _ #[.int .i64 (L - h), .int .i64 (H - l)] 23 from rc
  clear crf cra crb crc
  generalize (wa).drewN nq = wb at *
  have crf := rf.cell
  have cra := ra.cell
  have crb := rb.cell
  have crc := rc.cell
  clear crf cra crb crc
  have crf := rf.cell
  have cra := ra.cell
  have crb := rb.cell
  go_wp2_with fail
  refine (HP1.out _).mono ?_
  rintro e w6 ⟨rfl, hbb⟩
  have rf := rf.next hbb
  have ra := ra.next hbb
  have rb := rb.next hbb
  have rc := rc.next hbb
  have hb := hb.trans (hbb.mono hb.size)
  clear hbb crf cra crb
  have crf := rf.cell
  have cra := ra.cell
  have crb := rb.cell
  go_wp2_with fail
  refine (HP2.out _).mono ?_
  rintro e w7 ⟨rfl, hbb⟩
  have rf := rf.next hbb
  have ra := ra.next hbb
  have rb := rb.next hbb
  have rc := rc.next hbb
  have hb := hb.trans (hbb.mono hb.size)
  clear hbb crf cra crb
  have crf := rf.cell
  go_wp2_with fail
  refine (HP3.out _).mono ?_
  rintro e w8 ⟨rfl, hbb⟩
  have rf := rf.next hbb
  have ra := ra.next hbb
  have rb := rb.next hbb
  have rc := rc.next hbb
  have hb := hb.trans (hbb.mono hb.size)
  clear hbb crf
  have crf := rf.cell
  have cra := ra.cell
  have crc := rc.cell
  by_cases hH : H < 100000
  · have HP4' := Lib.hid (HP4.out hH)
    go_wp2_with fail
    refine (HP4'.out _).mono ?_
    rintro e w9 ⟨rfl, hbb⟩
    have rf := rf.next hbb
    have ra := ra.next hbb
    have rb := rb.next hbb
    have rc := rc.next hbb
    have hb := hb.trans (hbb.mono hb.size)
    clear hbb crf cra crc
    have crf := rf.cell
    have crb := rb.cell
    go_wp2_with fail
    refine (HP5.out _).mono ?_
    rintro e w10 ⟨rfl, hbb⟩
    have rf := rf.next hbb
    have ra := ra.next hbb
    have rb := rb.next hbb
    have rc := rc.next hbb
    have hb := hb.trans (hbb.mono hb.size)
    clear hbb crf crb
    go_wp2_with fail
    refine (awake16_c _ (hG.next hb)).mono ?_
    rintro e wz ⟨rfl, hbb⟩
    go_wp2
    go_ret
    exact ⟨rfl, hb.trans (hbb.mono hb.size)⟩
  · have crb := rb.cell
    go_wp2_with fail
    refine (HP5.out _).mono ?_
    rintro e w9 ⟨rfl, hbb⟩
    have rf := rf.next hbb
    have ra := ra.next hbb
    have rb := rb.next hbb
    have rc := rc.next hbb
    have hb := hb.trans (hbb.mono hb.size)
    clear hbb crf cra crc crb
    go_wp2_with fail
    refine (awake16_c _ (hG.next hb)).mono ?_
    rintro e wz ⟨rfl, hbb⟩
    go_wp2
    go_ret
    exact ⟨rfl, hb.trans (hbb.mono hb.size)⟩
end Go.Proofs.YtldghloflegpmaaGreatDoor

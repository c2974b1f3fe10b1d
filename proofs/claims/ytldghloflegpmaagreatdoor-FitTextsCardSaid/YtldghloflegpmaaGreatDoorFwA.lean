/- The walk of FitSwaps. -/
import Derived.Test.YtldghloflegpmaaGreatDoorAwF
import Derived.Test.YtldghloflegpmaaGreatDoorRfD
import Derived.Test.YtldghloflegpmaaGreatDoorPuB
namespace Go.Proofs.YtldghloflegpmaaGreatDoor
open Go.RowKit Go.Shelf Pu Go.Lib

set_option maxHeartbeats 2000000 in
theorem own16_c (n : Int) (hh : Bool) (hl hg : Int) (sh : Bool) (sl sg : Int) (w : World) : Calls Tryz.prog 21 #[.agg (fitC n hh hl hg sh sl sg)] w
    fun e w' => e = .returned (.agg (fitC n hh hl hg sh sl sg)) ∧ Below w.heap.size w w' := by
  go_enter Tryz.func21, Tryz.ntmps21
  go_wp2
  exact bodyPost_ret (v := .agg (fitC n hh hl hg sh sl sg)) (by simp [results, Tryz.results21, go_sem]) rfl ⟨rfl, ((Below.refl _ w).alloc (Nat.le_refl _) _).alloc (by simp) _⟩

/-- The swapped fit of a right one is right, or a size of it is out of range; its clearance is the same. -/
theorem swap_E {n hl hg sl sg : Int} (h : fE n true hl hg false sl sg = 0) : fE n true sl sg false hl hg = 0 ∨ fE n true sl sg false hl hg = 2 := by
  obtain ⟨z1, z2, z3, _, _, z4, z5⟩ := fE_ok h
  have d1 : dE n sl sg = 0 := by unfold dE; rw [if_pos z1, z3]
  have d2 : dE n hl hg = 0 := by unfold dE; rw [if_pos z1, z2]
  unfold fE
  rw [if_pos z1, if_pos z3, if_pos z2, if_pos ⟨rfl, rfl⟩]
  unfold lE
  rw [if_pos d1, if_pos d2]
  by_cases P : n + dLow n true sl sg < 1 ∨ 100000 < n + dHigh n true sl sg
  · rw [if_pos P, if_neg (by decide)]; exact Or.inr rfl
  · rw [if_neg P, if_pos rfl]
    by_cases Q : n + dLow n false hl hg < 1 ∨ 100000 < n + dHigh n false hl hg
    · rw [if_pos Q]; exact Or.inr rfl
    · rw [if_neg Q]; exact Or.inl rfl
theorem swap_p {n hl hg sl sg : Int} (h : fE n true hl hg false sl sg = 0) (h2 : fE n true sl sg false hl hg = 0) :
    pLow n true sl sg false hl hg = pLow n true hl hg false sl sg ∧ pHigh n true sl sg false hl hg = pHigh n true hl hg false sl sg := by
  obtain ⟨_, _, _, _, _, a1, a2⟩ := fE_ok h
  obtain ⟨_, _, _, _, _, b1, b2⟩ := fE_ok h2
  unfold pLow pHigh
  rw [if_pos h, if_pos h, if_pos h2, if_pos h2, (m_low a1).1, (m_low a1).2, (m_low a2).1, (m_low a2).2, (m_low b1).1, (m_low b1).2, (m_low b2).1, (m_low b2).2]
  simp only [dLow, dHigh, if_true, Bool.false_eq_true, if_false]
  omega
theorem swap_k {n hl hg sl sg : Int} (h : fE n true hl hg false sl sg = 0) (h2 : fE n true sl sg false hl hg = 0) : kV n true sl sg false hl hg = kV n true hl hg false sl sg := by
  have := swap_p h h2
  unfold kV
  rw [if_pos h, if_pos h2, this.1, this.2]

set_option maxRecDepth 100000 in
set_option maxHeartbeats 4000000 in
theorem fitSwaps_c (n : Int) (hh : Bool) (hl hg : Int) (sh : Bool) (sl sg : Int) (w : World) (_ : (Lit.int .i64 n).wf = true ∧ (Lit.int .i64 hl).wf = true ∧ (Lit.int .i64 hg).wf = true ∧ (Lit.int .i64 sl).wf = true ∧ (Lit.int .i64 sg).wf = true) (hG : Gw w) :
    Calls Tryz.prog 8 #[.agg (fitC n hh hl hg sh sl sg)] w fun e w' => e = .returned (.bool true) ∧ Below w.heap.size w w' := by
  by_cases hf : fE n hh hl hg sh sl sg = 0
  case neg =>
    have hx : (fE n hh hl hg sh sl sg == 0) = false := by simpa using hf
    have hR := fun w => rfCheck_c n hh hl hg sh sl sg w
    have HR := Lib.hid hR
    clear hR hf
    generalize fE n hh hl hg sh sl sg = x at *
    go_enter Tryz.func8, Tryz.ntmps8
    go_wp2_with fail
    refine (own16_c n hh hl hg sh sl sg _).mono ?_
    rintro e w2 ⟨rfl, hbb⟩
    have hb := ((Below.refl _ w).alloc (Nat.le_refl _) (.cells (fitC n hh hl hg sh sl sg) 42)).trans (hbb.mono (by simp))
    clear hbb
    go_wp2_with fail
    refine (HR.out _).mono ?_
    rintro e w3 ⟨rfl, hbb⟩
    have hb := hb.trans (hbb.mono hb.size)
    clear hbb
    go_wp2_with fail
    refine (awake16_c _ (hG.next hb)).mono ?_
    rintro e w4 ⟨rfl, hbb⟩
    go_wp2
    go_ret
    exact ⟨rfl, hb.trans (hbb.mono hb.size)⟩
  obtain ⟨rfl, rfl⟩ := fE_hs hf
  have hR := fun w => rfCheck_c n true hl hg false sl sg w
  rw [hf] at hR
  have HR := Lib.hid hR
  by_cases h2 : fE n true sl sg false hl hg = 0
  case neg =>
    have h3 : fE n true sl sg false hl hg = 2 := (swap_E hf).resolve_left h2
    have hS : ∀ w, Calls Tryz.prog 29 #[.agg (fitC n true hl hg false sl sg)] w fun e w' => e = .returned (.tuple #[.agg (fitC 0 false 0 0 false 0 0), .int .i64 2]) ∧ Below w.heap.size w w' := fun w => by
      have h := Swap_c n true hl hg false sl sg w
      rw [show swV n true hl hg false sl sg = (.tuple #[.agg (fitC 0 false 0 0 false 0 0), .int .i64 2]) by unfold swV; rw [if_pos hf, if_neg h2, h3]; rfl] at h
      exact h
    have HS := Lib.hid hS
    clear hR hS h2 h3 hf
    go_enter Tryz.func8, Tryz.ntmps8
    have hr := Row.new w (fitC n true hl hg false sl sg) 42
    have hb := (Below.refl _ w).alloc (Nat.le_refl _) (.cells (fitC n true hl hg false sl sg) 42)
    go_wp2_with fail
    refine (own16_c n true hl hg false sl sg _).mono ?_
    rintro e w2 ⟨rfl, hbb⟩
    have hr := hr.next hbb
    have hb := hb.trans (hbb.mono hb.size)
    clear hbb
    go_wp2_with fail
    refine (HR.out _).mono ?_
    rintro e w3 ⟨rfl, hbb⟩
    have hr := hr.next hbb
    have hb := hb.trans (hbb.mono hb.size)
    clear hbb
    have hc := hr.cell
    go_wp2_with fail
    refine (HS.out _).mono ?_
    rintro e w4 ⟨rfl, hbb⟩
    have hb := hb.trans (hbb.mono hb.size)
    have hb := hb.alloc hb.size (.cells (fitC 0 false 0 0 false 0 0) 42)
    clear hbb hc
    go_wp2_with fail
    refine (awake16_c _ (hG.next hb)).mono ?_
    rintro e w5 ⟨rfl, hbb⟩
    go_wp2
    go_ret
    exact ⟨rfl, hb.trans (hbb.mono hb.size)⟩
  have hS : ∀ w, Calls Tryz.prog 29 #[.agg (fitC n true hl hg false sl sg)] w fun e w' => e = .returned (.tuple #[.agg (fitC n true sl sg false hl hg), .int .i64 0]) ∧ Below w.heap.size w w' := fun w => by
    have h := Swap_c n true hl hg false sl sg w
    rw [show swV n true hl hg false sl sg = (.tuple #[.agg (fitC n true sl sg false hl hg), .int .i64 0]) by unfold swV; rw [if_pos hf, if_pos h2]; rfl] at h
    exact h
  have hS2 : ∀ w, Calls Tryz.prog 29 #[.agg (fitC n true sl sg false hl hg)] w fun e w' => e = .returned (.tuple #[.agg (fitC n true hl hg false sl sg), .int .i64 0]) ∧ Below w.heap.size w w' := fun w => by
    have h := Swap_c n true sl sg false hl hg w
    rw [show swV n true sl sg false hl hg = (.tuple #[.agg (fitC n true hl hg false sl sg), .int .i64 0]) by unfold swV; rw [if_pos h2, if_pos hf]; rfl] at h
    exact h
  obtain ⟨A, B, eA, eB⟩ : ∃ A B, pLow n true hl hg false sl sg = A ∧ pHigh n true hl hg false sl sg = B := ⟨_, _, rfl, rfl⟩
  obtain ⟨K, eK⟩ : ∃ K, kV n true hl hg false sl sg = K := ⟨_, rfl⟩
  have hC : ∀ w, Calls Tryz.prog 24 #[.agg (fitC n true hl hg false sl sg)] w fun e w' => e = .returned (.tuple #[.agg #[.int .i64 A, .int .i64 B], .int .i64 0]) ∧ Below w.heap.size w w' := fun w => by
    have h := Clearance_c n true hl hg false sl sg w
    rw [eA, eB, hf] at h
    exact h
  have hC2 : ∀ w, Calls Tryz.prog 24 #[.agg (fitC n true sl sg false hl hg)] w fun e w' => e = .returned (.tuple #[.agg #[.int .i64 A, .int .i64 B], .int .i64 0]) ∧ Below w.heap.size w w' := fun w => by
    have h := Clearance_c n true sl sg false hl hg w
    rw [(swap_p hf h2).1, (swap_p hf h2).2, eA, eB, h2] at h
    exact h
  have hK : ∀ w, Calls Tryz.prog 26 #[.agg (fitC n true hl hg false sl sg)] w fun e w' => e = .returned (.tuple #[.int .i64 K, .int .i64 0]) ∧ Below w.heap.size w w' := fun w => by
    have h := Kind_c n true hl hg false sl sg w
    rw [eK, hf] at h
    exact h
  have hK2 : ∀ w, Calls Tryz.prog 26 #[.agg (fitC n true sl sg false hl hg)] w fun e w' => e = .returned (.tuple #[.int .i64 K, .int .i64 0]) ∧ Below w.heap.size w w' := fun w => by
    have h := Kind_c n true sl sg false hl hg w
    rw [swap_k hf h2, eK, h2] at h
    exact h
  have HS := Lib.hid hS
  have HS2 := Lib.hid hS2
  have HC := Lib.hid hC
  have HC2 := Lib.hid hC2
  have HK := Lib.hid hK
  have HK2 := Lib.hid hK2
  clear hR hS hS2 hC hC2 hK hK2 eA eB eK hf h2
  go_enter Tryz.func8, Tryz.ntmps8
  have hr := Row.new w (fitC n true hl hg false sl sg) 42
  have hb := (Below.refl _ w).alloc (Nat.le_refl _) (.cells (fitC n true hl hg false sl sg) 42)
  go_wp2_with fail
  refine (own16_c n true hl hg false sl sg _).mono ?_
  rintro e w2 ⟨rfl, hbb⟩
  have hr := hr.next hbb
  have hb := hb.trans (hbb.mono hb.size)
  clear hbb
  go_wp2_with fail
  refine (HR.out _).mono ?_
  rintro e w3 ⟨rfl, hbb⟩
  have hr := hr.next hbb
  have hb := hb.trans (hbb.mono hb.size)
  clear hbb
  have hc := hr.cell
  go_wp2_with fail
  refine (HS.out _).mono ?_
  rintro e w4 ⟨rfl, hbb⟩
  have hr := (hr.next hbb).alloc (.cells (fitC n true sl sg false hl hg) 42)
  have hs := Row.new w4 (fitC n true sl sg false hl hg) 42
  have hb := hb.trans (hbb.mono hb.size)
  have hb := hb.alloc hb.size (.cells (fitC n true sl sg false hl hg) 42)
  clear hbb hc
  have hc := hr.cell
  go_wp2_with fail
  refine (HC.out _).mono ?_
  rintro e w5 ⟨rfl, hbb⟩
  have hr := (hr.next hbb).alloc (.cells #[.int .i64 A, .int .i64 B] 23)
  have hs := (hs.next hbb).alloc (.cells #[.int .i64 A, .int .i64 B] 23)
  have ha := Row.new w5 #[.int .i64 A, .int .i64 B] 23
  have hb := hb.trans (hbb.mono hb.size)
  have hb := hb.alloc hb.size (.cells #[.int .i64 A, .int .i64 B] 23)
  clear hbb hc
  have hc := hs.cell
  go_wp2_with fail
  refine (HC2.out _).mono ?_
  rintro e w6 ⟨rfl, hbb⟩
  have hr := (hr.next hbb).alloc (.cells #[.int .i64 A, .int .i64 B] 23)
  have hs := (hs.next hbb).alloc (.cells #[.int .i64 A, .int .i64 B] 23)
  have ha := (ha.next hbb).alloc (.cells #[.int .i64 A, .int .i64 B] 23)
  have hd := Row.new w6 #[.int .i64 A, .int .i64 B] 23
  have hb := hb.trans (hbb.mono hb.size)
  have hb := hb.alloc hb.size (.cells #[.int .i64 A, .int .i64 B] 23)
  clear hbb hc
  have hc := hr.cell
  go_wp2_with fail
  refine (HK.out _).mono ?_
  rintro e w7 ⟨rfl, hbb⟩
  have hr := hr.next hbb
  have hs := hs.next hbb
  have ha := ha.next hbb
  have hd := hd.next hbb
  have hb := hb.trans (hbb.mono hb.size)
  clear hbb hc
  have hc := hs.cell
  go_wp2_with fail
  refine (HK2.out _).mono ?_
  rintro e w8 ⟨rfl, hbb⟩
  have hr := hr.next hbb
  have hs := hs.next hbb
  have ha := ha.next hbb
  have hd := hd.next hbb
  have hb := hb.trans (hbb.mono hb.size)
  clear hbb hc
  have hc := hs.cell
  go_wp2_with fail
  refine (HS2.out _).mono ?_
  rintro e w9 ⟨rfl, hbb⟩
  have hr := (hr.next hbb).alloc (.cells (fitC n true hl hg false sl sg) 42)
  have ha := (ha.next hbb).alloc (.cells (fitC n true hl hg false sl sg) 42)
  have hd := (hd.next hbb).alloc (.cells (fitC n true hl hg false sl sg) 42)
  have hb := hb.trans (hbb.mono hb.size)
  have hb := hb.alloc hb.size (.cells (fitC n true hl hg false sl sg) 42)
  clear hbb hc hs
  have hc := hr.cell
  have hca := ha.cell
  have hcd := hd.cell
  go_wp2_with fail
  refine (awake16_c _ (hG.next hb)).mono ?_
  rintro e w10 ⟨rfl, hbb⟩
  go_wp2
  go_ret
  exact ⟨rfl, hb.trans (hbb.mono hb.size)⟩
end Go.Proofs.YtldghloflegpmaaGreatDoor

/- Contracts of package fit: a text is read. -/
import Derived.Test.YtldghloflegpmaaGreatDoorFtT
import Derived.Lib.AtoiTie
namespace Go.Proofs.YtldghloflegpmaaGreatDoor
open Go.RowKit Go.Shelf Pu Go.Lib

/-- The number of thousandths that a text has, or -1. -/
def thV (l : List UInt8) : Int :=
  if 6 < (Lib.cut l [46]).1.length ∨ 3 < (Lib.cut l [46]).2.1.length then -1
  else (Lib.atoi ((Lib.cut l [46]).1 ++ (Lib.cut l [46]).2.1 ++ List.replicate (3 - (Lib.cut l [46]).2.1.length) 48)).getD (-1)
theorem repeat_zero (c : Nat) : Lib.repeatL [48] c = List.replicate c 48 := by
  induction c with
  | zero => rfl
  | succ n ih =>
    have : Lib.repeatL [48] (n + 1) = [48] ++ Lib.repeatL [48] n := by simp [Lib.repeatL]
    rw [this, ih]
    simp [List.replicate_succ]
theorem mk_size (l : List UInt8) : (⟨l.toArray⟩ : ByteArray).size = l.length := by simp [ByteArray.size]

set_option maxRecDepth 100000 in
set_option maxHeartbeats 4000000 in
theorem thousandths_c (s : ByteArray) (w : World) (hs : s.size ≤ 4096) (hG : Gw w) : Calls Tryz.prog 65 #[.string s] w fun e w' => e = .returned (.int .i64 (thV s.data.toList)) ∧ Below w.heap.size w w' := by
  obtain ⟨m, hm⟩ := hG.most
  have hC := Tryz.strings_Cut s ⟨#[46]⟩ m w (by omega) hm
  rw [show (⟨#[46]⟩ : ByteArray).data.toList = [46] from rfl] at hC
  have hV : thV s.data.toList = if 6 < (Lib.cut s.data.toList [46]).1.length ∨ 3 < (Lib.cut s.data.toList [46]).2.1.length then -1
    else (Lib.atoi ((Lib.cut s.data.toList [46]).1 ++ (Lib.cut s.data.toList [46]).2.1 ++ List.replicate (3 - (Lib.cut s.data.toList [46]).2.1.length) 48)).getD (-1) := rfl
  generalize (Lib.cut s.data.toList [46]).1 = a at *
  generalize (Lib.cut s.data.toList [46]).2.1 = b at *
  generalize (Lib.cut s.data.toList [46]).2.2 = ok at *
  obtain ⟨TA, hTA⟩ : ∃ T : ByteArray, ⟨a.toArray⟩ = T := ⟨_, rfl⟩
  obtain ⟨TB, hTB⟩ : ∃ T : ByteArray, ⟨b.toArray⟩ = T := ⟨_, rfl⟩
  have sA : TA.size = a.length := by rw [← hTA, mk_size]
  have sB : TB.size = b.length := by rw [← hTB, mk_size]
  rw [hTA, hTB] at hC
  have HC := Lib.hid hC
  clear hC hm
  by_cases h1 : 6 < a.length ∨ 3 < b.length
  · rw [if_pos h1] at hV
    have HV := Lib.hid hV
    have h2 : 6 < TA.size ∨ 3 < TB.size := by rw [sA, sB]; exact h1
    clear hV h1 sA sB
    by_cases h3 : 6 < TA.size
    · go_enter Tryz.func65, Tryz.ntmps65
      go_wp2_with fail
      refine HC.out.mono ?_
      rintro e w2 ⟨rfl, k, rfl⟩
      go_wp2
      go_ret
      exact ⟨by rw [HV.out]; rfl, below_drewN _ _⟩
    · have h4 : 3 < TB.size := h2.resolve_left h3
      clear h2
      go_enter Tryz.func65, Tryz.ntmps65
      go_wp2_with fail
      refine HC.out.mono ?_
      rintro e w2 ⟨rfl, k, rfl⟩
      go_wp2
      go_ret
      exact ⟨by rw [HV.out]; rfl, below_drewN _ _⟩
  · rw [if_neg h1] at hV
    have h3 : TA.size ≤ 6 := by omega
    have h4 : TB.size ≤ 3 := by omega
    have hR := fun w => Tryz.strings_Repeat ⟨#[48]⟩ (3 - b.length) w (by omega) (by
      have : (⟨#[48]⟩ : ByteArray).size = 1 := rfl
      rw [this]; omega)
    rw [show (⟨#[48]⟩ : ByteArray).data.toList = [48] from rfl, repeat_zero] at hR
    obtain ⟨TC, hTC⟩ : ∃ T : ByteArray, ⟨(List.replicate (3 - b.length) (48 : UInt8)).toArray⟩ = T := ⟨_, rfl⟩
    have sC : TC.size = 3 - b.length := by rw [← hTC, mk_size]; simp
    rw [hTC] at hR
    have hcat : (TA ++ TB ++ TC).data.toList = a ++ b ++ List.replicate (3 - b.length) 48 := by
      rw [← hTA, ← hTB, ← hTC]
      simp [ByteArray.data_append]
    have hsz : (TA ++ TB ++ TC).size ≤ 9 := by simp only [ByteArray.size_append]; omega
    rw [← hcat] at hV
    have e3 : (3 : Int) - (TB.size : Int) = ((3 - b.length : Nat) : Int) := by omega
    have HV := Lib.hid hV
    have HR := Lib.hid hR
    have k1 : ¬ 9223372036854775807 < TA.size + TB.size := by omega
    have k2 : ¬ 9223372036854775807 < TA.size + TB.size + TC.size := by omega
    have l6 : ¬ 6 < TA.size := by omega
    have l3 : ¬ 3 < TB.size := by omega
    clear hV hR hcat h1 sA sB sC hTA hTB hTC
    obtain ⟨T, hT⟩ : ∃ T, TA ++ TB ++ TC = T := ⟨_, rfl⟩
    rw [hT] at hsz HV
    have HT := Lib.hid hT
    clear hT
    cases hat : Lib.atoi T.data.toList with
    | some x =>
      rw [hat] at HV
      have hA := fun w => Tryz.strconv_Atoi T x (by omega) hat w
      have HA := Lib.hid hA
      clear hA hat
      go_enter Tryz.func65, Tryz.ntmps65
      go_wp2_with fail
      refine HC.out.mono ?_
      rintro e w2 ⟨rfl, k, rfl⟩
      have hb := below_drewN w k
      generalize w.drewN k = w2 at *
      go_wp2_with fail
      refine (HR.out _).mono ?_
      rintro e w3 ⟨rfl, hbb⟩
      have hb := bt hb hbb
      clear hbb
      go_wp2_with fail
      rw [HT.out]
      refine (HA.out _).mono ?_
      rintro e w4 ⟨rfl, t, ht⟩
      have hbb : Below w3.heap.size w3 w4 := by rw [ht]; exact Go.Joins.below_bytesWorld _ _ _ _ (Nat.le_refl _)
      clear ht
      go_wp2
      go_ret
      exact ⟨by rw [HV.out]; rfl, bt hb hbb⟩
    | none =>
      rw [hat] at HV
      have hall : Lib.atoiAll T.data.toList = .«syntax» := by
        rw [atoiAll_short _ (by have : T.data.toList.length = T.size := by simp
                                omega), hat]
        rfl
      have hA := fun w tp p hv => Tryz.strconv_Atoi_syntax_var T (by omega) hall tp p w hv
      have HA := Lib.hid hA
      clear hA hat hall
      go_enter Tryz.func65, Tryz.ntmps65
      go_wp2_with fail
      refine HC.out.mono ?_
      rintro e w2 ⟨rfl, k, rfl⟩
      have hb := below_drewN w k
      generalize w.drewN k = w2 at *
      go_wp2_with fail
      refine (HR.out _).mono ?_
      rintro e w3 ⟨rfl, hbb⟩
      have hb := bt hb hbb
      clear hbb
      obtain ⟨tp, q, he⟩ := (hG.next hb).err
      go_wp2_with fail
      rw [HT.out]
      refine (HA.out _ tp q he).mono ?_
      rintro e w4 ⟨N, rfl, _, _, hbb⟩
      go_wp2
      go_ret
      exact ⟨by rw [HV.out]; rfl, bt hb hbb⟩
end Go.Proofs.YtldghloflegpmaaGreatDoor

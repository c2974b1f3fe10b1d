/- Contracts of the reference's layer 16: Swap, Pair. -/
import Derived.Test.YtldghloflegpmaaGreatDoorRg
namespace Go.Proofs.YtldghloflegpmaaGreatDoor
open Go.RowKit Go.Shelf Pu Go.Lib

set_option maxHeartbeats 2000000 in
theorem Swapped_c (n : Int) (hh : Bool) (hl hg : Int) (sh : Bool) (sl sg : Int) (w : World) : Calls Tryz.prog 57 #[.agg (fitC n hh hl hg sh sl sg)] w
    fun e w' => e = .returned (.agg (fitC n true sl sg false hl hg)) ∧ Below w.heap.size w w' := by
  go_enter Tryz.func57, Tryz.ntmps57
  go_wp2
  exact bodyPost_ret (v := .agg (fitC n true sl sg false hl hg)) (by simp [results, Tryz.results57, go_sem]) rfl ⟨rfl, ((Below.refl _ w).alloc (Nat.le_refl _) _).alloc (by simp) _⟩
theorem infoRef : (Tryz.prog.info? 49).map (·.size) = some 7 := by kernel_rfl
theorem rsw_results {tmps : Array Value} {w : World} {b : Nat} {cs : Array Value} {e : Int} (h2 : tmps.getD 2 undef = .pointer (some ⟨b, 0, none⟩)) (h3 : tmps.getD 3 undef = .int .i64 e) (hr : Row w b cs 49) (hs : (Tryz.prog.info? 49).map (·.size) = some cs.size) :
    (results Tryz.f30 tmps).run Tryz.prog w = .ok (.tuple #[.agg cs, .int .i64 e]) w := by
  have h2' : tmps[2]?.getD undef = .pointer (some ⟨b, 0, none⟩) := by simpa using h2
  have h3' : tmps[3]?.getD undef = .int .i64 e := by simpa using h3
  simp [results, Tryz.results30, h2', h3', asAddr, run_loadVar_row (P := Tryz.prog) w b 49 49 cs (0, 0) _ hr Tryz.underlying49 rfl hs]
theorem ref_put7 {w : World} {b : Nat} {n : Int} {hh : Bool} {hl hg : Int} {sh : Bool} {sl sg : Int} (h : Row w b (fitC n hh hl hg sh sl sg) 49) (n' : Int) (hh' : Bool) (hl' hg' : Int) (sh' : Bool) (sl' sg' : Int) :
    Row (((((((w.setCell ⟨b, 0, none⟩ (.int .i64 n')).setCell ⟨b, 1, none⟩ (.bool hh')).setCell ⟨b, 2, none⟩ (.int .i64 hl')).setCell ⟨b, 3, none⟩ (.int .i64 hg')).setCell ⟨b, 4, none⟩ (.bool sh')).setCell ⟨b, 5, none⟩ (.int .i64 sl')).setCell ⟨b, 6, none⟩ (.int .i64 sg')) b (fitC n' hh' hl' hg' sh' sl' sg') 49 := by
  have := ((((((h.put 0 (.int .i64 n')).put 1 (.bool hh')).put 2 (.int .i64 hl')).put 3 (.int .i64 hg')).put 4 (.bool sh')).put 5 (.int .i64 sl')).put 6 (.int .i64 sg')
  simpa using this

set_option maxRecDepth 100000 in
set_option maxHeartbeats 4000000 in
theorem rfSwap_c (n : Int) (hh : Bool) (hl hg : Int) (sh : Bool) (sl sg : Int) (w : World) : Calls Tryz.prog 30 #[.agg (fitC n hh hl hg sh sl sg)] w
    fun e w' => e = .returned (swV n hh hl hg sh sl sg) ∧ Below w.heap.size w w' := by
  have hC := fun w => rfCheck_c n hh hl hg sh sl sg w
  have hS := fun w => Swapped_c n hh hl hg sh sl sg w
  have hD := fun w => rfCheck_c n true sl sg false hl hg w
  have HS := Lib.hid hS
  have HD := Lib.hid hD
  have hv : swV n hh hl hg sh sl sg = if fE n hh hl hg sh sl sg = 0 then (if fE n true sl sg false hl hg = 0 then fitV n true sl sg false hl hg 0 else fitV 0 false 0 0 false 0 0 (fE n true sl sg false hl hg)) else fitV 0 false 0 0 false 0 0 (fE n hh hl hg sh sl sg) := rfl
  rw [hv]
  clear hS hD hv
  by_cases hf : fE n hh hl hg sh sl sg = 0
  case neg =>
    rw [if_neg hf]
    have hx : (fE n hh hl hg sh sl sg == 0) = false := by simpa using hf
    have HC := Lib.hid hC
    clear hf hC HS HD
    generalize fE n hh hl hg sh sl sg = x at *
    go_enter Tryz.func30, Tryz.ntmps30
    have rf := ((Row.new w (fitC n hh hl hg sh sl sg) 49).alloc (.cells (fitC 0 false 0 0 false 0 0) 49))
    have rz := (Row.new (w.alloc (.cells (fitC n hh hl hg sh sl sg) 49)) (fitC 0 false 0 0 false 0 0) 49)
    simp only [World.size_alloc] at rz
    have hb := (((Below.refl _ w).alloc (Nat.le_refl _) (.cells (fitC n hh hl hg sh sl sg) 49)).alloc (by simp) (.cells (fitC 0 false 0 0 false 0 0) 49))
    have crf := rf.cell
    go_wp2_with fail
    refine (HC.out _).mono ?_
    rintro e w2 ⟨rfl, hbb⟩
    have rf := rf.next hbb
    have rz := rz.next hbb
    have hb := hb.trans (hbb.mono hb.size)
    clear hbb
    clear crf
    have crz := rz.cell
    have frz := rz.frozen
    go_wp2
    exact bodyPost_ret (rsw_results (cs := (fitC 0 false 0 0 false 0 0)) (e := x) rfl rfl (ref_put7 rz 0 false 0 0 false 0 0) infoRef) rfl ⟨rfl, (((((((hb.setCell (by simp) _).setCell (by simp) _).setCell (by simp) _).setCell (by simp) _).setCell (by simp) _).setCell (by simp) _).setCell (by simp) _)⟩
  rw [if_pos hf]
  rw [hf] at hC
  have HC := Lib.hid hC
  clear hf hC
  by_cases hg2 : fE n true sl sg false hl hg = 0
  case neg =>
    rw [if_neg hg2]
    have hx : (fE n true sl sg false hl hg == 0) = false := by simpa using hg2
    clear hg2
    generalize fE n true sl sg false hl hg = x at *
    go_enter Tryz.func30, Tryz.ntmps30
    have rf := ((Row.new w (fitC n hh hl hg sh sl sg) 49).alloc (.cells (fitC 0 false 0 0 false 0 0) 49))
    have rz := (Row.new (w.alloc (.cells (fitC n hh hl hg sh sl sg) 49)) (fitC 0 false 0 0 false 0 0) 49)
    simp only [World.size_alloc] at rz
    have hb := (((Below.refl _ w).alloc (Nat.le_refl _) (.cells (fitC n hh hl hg sh sl sg) 49)).alloc (by simp) (.cells (fitC 0 false 0 0 false 0 0) 49))
    have crf := rf.cell
    go_wp2_with fail
    refine (HC.out _).mono ?_
    rintro e w2 ⟨rfl, hbb⟩
    have rf := rf.next hbb
    have rz := rz.next hbb
    have hb := hb.trans (hbb.mono hb.size)
    clear hbb
    clear crf
    have crf := rf.cell
    go_wp2_with fail
    refine (HS.out _).mono ?_
    rintro e w3 ⟨rfl, hbb⟩
    have rf := rf.next hbb
    have rz := rz.next hbb
    have hb := hb.trans (hbb.mono hb.size)
    clear hbb
    clear crf
    go_wp2_with fail
    refine (HD.out _).mono ?_
    rintro e w4 ⟨rfl, hbb⟩
    have rf := rf.next hbb
    have rz := rz.next hbb
    have hb := hb.trans (hbb.mono hb.size)
    clear hbb
    have crz := rz.cell
    have frz := rz.frozen
    go_wp2
    exact bodyPost_ret (rsw_results (cs := (fitC 0 false 0 0 false 0 0)) (e := x) rfl rfl (ref_put7 rz 0 false 0 0 false 0 0) infoRef) rfl ⟨rfl, (((((((hb.setCell (by simp) _).setCell (by simp) _).setCell (by simp) _).setCell (by simp) _).setCell (by simp) _).setCell (by simp) _).setCell (by simp) _)⟩
  rw [if_pos hg2]
  have HD2 := Lib.hid (fun w => (hg2 ▸ HD.out w : Calls Tryz.prog 23 #[.agg (fitC n true sl sg false hl hg)] w fun e w' => e = .returned (.int .i64 0) ∧ Below w.heap.size w w'))
  clear HD hg2
  go_enter Tryz.func30, Tryz.ntmps30
  have rf := ((Row.new w (fitC n hh hl hg sh sl sg) 49).alloc (.cells (fitC 0 false 0 0 false 0 0) 49))
  have rz := (Row.new (w.alloc (.cells (fitC n hh hl hg sh sl sg) 49)) (fitC 0 false 0 0 false 0 0) 49)
  simp only [World.size_alloc] at rz
  have hb := (((Below.refl _ w).alloc (Nat.le_refl _) (.cells (fitC n hh hl hg sh sl sg) 49)).alloc (by simp) (.cells (fitC 0 false 0 0 false 0 0) 49))
  have crf := rf.cell
  go_wp2_with fail
  refine (HC.out _).mono ?_
  rintro e w2 ⟨rfl, hbb⟩
  have rf := rf.next hbb
  have rz := rz.next hbb
  have hb := hb.trans (hbb.mono hb.size)
  clear hbb
  clear crf
  have crf := rf.cell
  go_wp2_with fail
  refine (HS.out _).mono ?_
  rintro e w3 ⟨rfl, hbb⟩
  have rf := rf.next hbb
  have rz := rz.next hbb
  have hb := hb.trans (hbb.mono hb.size)
  clear hbb
  clear crf
  go_wp2_with fail
  refine (HD2.out _).mono ?_
  rintro e w4 ⟨rfl, hbb⟩
  have rf := rf.next hbb
  have rz := rz.next hbb
  have hb := hb.trans (hbb.mono hb.size)
  clear hbb
  have crf := rf.cell
  go_wp2_with fail
  refine (HS.out _).mono ?_
  rintro e w5 ⟨rfl, hbb⟩
  have rf := rf.next hbb
  have rz := rz.next hbb
  have hb := hb.trans (hbb.mono hb.size)
  clear hbb
  clear crf
  have crz := rz.cell
  have frz := rz.frozen
  go_wp2
  exact bodyPost_ret (rsw_results (cs := (fitC n true sl sg false hl hg)) (e := 0) rfl rfl (ref_put7 rz n true sl sg false hl hg) infoRef) rfl ⟨rfl, (((((((hb.setCell (by simp) _).setCell (by simp) _).setCell (by simp) _).setCell (by simp) _).setCell (by simp) _).setCell (by simp) _).setCell (by simp) _)⟩

theorem measured_c (u : Int) (w : World) : Calls Tryz.prog 59 #[.int .i64 u] w fun e w' => e = .returned (.bool (decide (0 ≤ u) && decide (u ≤ 100000))) ∧ Below w.heap.size w w' := by
  by_cases h1 : 0 ≤ u
  · go_enter Tryz.func59, Tryz.ntmps59
    go_wp2
    go_ret
    exact ⟨by simp [h1], Below.refl _ _⟩
  · go_enter Tryz.func59, Tryz.ntmps59
    go_wp2
    go_ret
    exact ⟨by simp; omega, Below.refl _ _⟩
theorem has_c (a b v : Int) (w : World) : Calls Tryz.prog 60 #[.agg #[.int .i64 a, .int .i64 b], .int .i64 v] w fun e w' => e = .returned (.bool (decide (a ≤ v) && decide (v ≤ b))) ∧ Below w.heap.size w w' := by
  by_cases h1 : a ≤ v
  · go_enter Tryz.func60, Tryz.ntmps60
    go_wp2
    go_ret
    exact ⟨by simp [h1], (Below.refl _ w).alloc (Nat.le_refl _) _⟩
  · go_enter Tryz.func60, Tryz.ntmps60
    go_wp2
    go_ret
    exact ⟨by simp; omega, (Below.refl _ w).alloc (Nat.le_refl _) _⟩

/-- What Pair returns. -/
def paV (n : Int) (hh : Bool) (hl hg : Int) (sh : Bool) (sl sg u v : Int) : Value :=
  if fE n hh hl hg sh sl sg = 0 then (if (0 ≤ u ∧ u ≤ 100000) ∧ (0 ≤ v ∧ v ≤ 100000) then
    prV (u - v) ((decide (mLow n true hl hg ≤ u) && decide (u ≤ mHigh n true hl hg)) && (decide (mLow n false sl sg ≤ v) && decide (v ≤ mHigh n false sl sg))) 0 else prV 0 false 2) else prV 0 false (fE n hh hl hg sh sl sg)
theorem Pair_c (n : Int) (hh : Bool) (hl hg : Int) (sh : Bool) (sl sg u v : Int) (w : World) : Calls Tryz.prog 31 #[.agg (fitC n hh hl hg sh sl sg), .int .i64 u, .int .i64 v] w
    fun e w' => e = .returned (paV n hh hl hg sh sl sg u v) ∧ Below w.heap.size w w' := by
  unfold paV
  by_cases hf : fE n hh hl hg sh sl sg = 0
  · rw [if_pos hf]
    by_cases h : (0 ≤ u ∧ u ≤ 100000) ∧ (0 ≤ v ∧ v ≤ 100000)
    · rw [if_pos h]; exact Pair_ok n hh hl hg sh sl sg u v w hf h.1.1 h.1.2 h.2.1 h.2.2
    · rw [if_neg h]; exact Pair_bad n hh hl hg sh sl sg u v w hf (by omega)
  · rw [if_neg hf]; exact Pair_err n hh hl hg sh sl sg u v _ w rfl (by simpa using hf)

set_option maxRecDepth 100000 in
set_option maxHeartbeats 4000000 in
theorem rfPair_c (n : Int) (hh : Bool) (hl hg : Int) (sh : Bool) (sl sg u v : Int) (w : World) : Calls Tryz.prog 32 #[.agg (fitC n hh hl hg sh sl sg), .int .i64 u, .int .i64 v] w
    fun e w' => e = .returned (paV n hh hl hg sh sl sg u v) ∧ Below w.heap.size w w' := by
  unfold paV
  have hC := fun w => rfCheck_c n hh hl hg sh sl sg w
  by_cases hf : fE n hh hl hg sh sl sg = 0
  case neg =>
    rw [if_neg hf]
    have hx : (fE n hh hl hg sh sl sg == 0) = false := by simpa using hf
    have HC := Lib.hid hC
    clear hf hC
    generalize fE n hh hl hg sh sl sg = x at *
    go_enter Tryz.func32, Tryz.ntmps32
    have rf := (Row.new w (fitC n hh hl hg sh sl sg) 49)
    have hb := ((Below.refl _ w).alloc (Nat.le_refl _) (.cells (fitC n hh hl hg sh sl sg) 49))
    have crf := rf.cell
    go_wp2_with fail
    refine (HC.out _).mono ?_
    rintro e w2 ⟨rfl, hbb⟩
    have rf := rf.next hbb
    have hb := hb.trans (hbb.mono hb.size)
    clear hbb
    clear crf
    go_wp2
    exact bodyPost_ret (v := prV 0 false x) (by simp [results, Tryz.results32, go_sem, prV]) rfl ⟨rfl, hb⟩
  rw [if_pos hf]
  obtain ⟨rfl, rfl⟩ := fE_hs hf
  have hB := fun w => Both_c n hl hg sl sg w hf
  rw [hf] at hC
  have HB := Lib.hid hB
  have HC := Lib.hid hC
  clear hB hC hf
  have hM := fun w => measured_c u w
  have hN := fun w => measured_c v w
  by_cases hu : 0 ≤ u ∧ u ≤ 100000
  case neg =>
    rw [if_neg (fun h => hu h.1)]
    rw [show (decide (0 ≤ u) && decide (u ≤ 100000)) = false by simp; omega] at hM
    have HM := Lib.hid hM
    clear hM hN hu HB
    go_enter Tryz.func32, Tryz.ntmps32
    have rf := (Row.new w (fitC n true hl hg false sl sg) 49)
    have hb := ((Below.refl _ w).alloc (Nat.le_refl _) (.cells (fitC n true hl hg false sl sg) 49))
    have crf := rf.cell
    go_wp2_with fail
    refine (HC.out _).mono ?_
    rintro e w2 ⟨rfl, hbb⟩
    have rf := rf.next hbb
    have hb := hb.trans (hbb.mono hb.size)
    clear hbb
    clear crf
    go_wp2_with fail
    refine (HM.out _).mono ?_
    rintro e w3 ⟨rfl, hbb⟩
    have rf := rf.next hbb
    have hb := hb.trans (hbb.mono hb.size)
    clear hbb
    go_wp2
    exact bodyPost_ret (v := prV 0 false 2) (by simp [results, Tryz.results32, go_sem, prV]) rfl ⟨rfl, hb⟩
  rw [show (decide (0 ≤ u) && decide (u ≤ 100000)) = true by simp; omega] at hM
  have HM := Lib.hid hM
  clear hM
  by_cases hv : 0 ≤ v ∧ v ≤ 100000
  case neg =>
    rw [if_neg (fun h => hv h.2)]
    rw [show (decide (0 ≤ v) && decide (v ≤ 100000)) = false by simp; omega] at hN
    have HN := Lib.hid hN
    clear hN hu hv HB
    go_enter Tryz.func32, Tryz.ntmps32
    have rf := (Row.new w (fitC n true hl hg false sl sg) 49)
    have hb := ((Below.refl _ w).alloc (Nat.le_refl _) (.cells (fitC n true hl hg false sl sg) 49))
    have crf := rf.cell
    go_wp2_with fail
    refine (HC.out _).mono ?_
    rintro e w2 ⟨rfl, hbb⟩
    have rf := rf.next hbb
    have hb := hb.trans (hbb.mono hb.size)
    clear hbb
    clear crf
    go_wp2_with fail
    refine (HM.out _).mono ?_
    rintro e w3 ⟨rfl, hbb⟩
    have rf := rf.next hbb
    have hb := hb.trans (hbb.mono hb.size)
    clear hbb
    go_wp2_with fail
    refine (HN.out _).mono ?_
    rintro e w4 ⟨rfl, hbb⟩
    have rf := rf.next hbb
    have hb := hb.trans (hbb.mono hb.size)
    clear hbb
    go_wp2
    exact bodyPost_ret (v := prV 0 false 2) (by simp [results, Tryz.results32, go_sem, prV]) rfl ⟨rfl, hb⟩
  rw [if_pos ⟨hu, hv⟩]
  rw [show (decide (0 ≤ v) && decide (v ≤ 100000)) = true by simp; omega] at hN
  have HN := Lib.hid hN
  clear hN
  obtain ⟨hu0, hu1⟩ := hu
  obtain ⟨hv0, hv1⟩ := hv
  generalize mLow n true hl hg = a at *
  generalize mHigh n true hl hg = b at *
  generalize mLow n false sl sg = c at *
  generalize mHigh n false sl sg = d at *
  have hA := fun w => has_c a b u w
  have hD := fun w => has_c c d v w
  have HA := Lib.hid hA
  have HD := Lib.hid hD
  clear hA hD
  go_enter Tryz.func32, Tryz.ntmps32
  have rf := (Row.new w (fitC n true hl hg false sl sg) 49)
  have hb := ((Below.refl _ w).alloc (Nat.le_refl _) (.cells (fitC n true hl hg false sl sg) 49))
  have crf := rf.cell
  go_wp2_with fail
  refine (HC.out _).mono ?_
  rintro e w2 ⟨rfl, hbb⟩
  have rf := rf.next hbb
  have hb := hb.trans (hbb.mono hb.size)
  clear hbb
  clear crf
  go_wp2_with fail
  refine (HM.out _).mono ?_
  rintro e w3 ⟨rfl, hbb⟩
  have rf := rf.next hbb
  have hb := hb.trans (hbb.mono hb.size)
  clear hbb
  go_wp2_with fail
  refine (HN.out _).mono ?_
  rintro e w4 ⟨rfl, hbb⟩
  have rf := rf.next hbb
  have hb := hb.trans (hbb.mono hb.size)
  clear hbb
  have crf := rf.cell
  go_wp2_with fail
  refine (HB.out _).mono ?_
  rintro e w5 ⟨rfl, hbb⟩
  have rf := rf.next hbb
  have hb := hb.trans (hbb.mono hb.size)
  clear hbb
  clear crf
  have rf := rf.alloc (.cells #[.int .i64 a, .int .i64 b] 23)
  have ra := Row.new w5 #[.int .i64 a, .int .i64 b] 23
  have hb := hb.alloc hb.size (.cells #[.int .i64 a, .int .i64 b] 23)
  have rf := rf.alloc (.cells #[.int .i64 c, .int .i64 d] 23)
  have ra := ra.alloc (.cells #[.int .i64 c, .int .i64 d] 23)
  have rc := Row.new (w5.alloc (.cells #[.int .i64 a, .int .i64 b] 23)) #[.int .i64 c, .int .i64 d] 23
  simp only [World.size_alloc] at rc
  have hb := hb.alloc hb.size (.cells #[.int .i64 c, .int .i64 d] 23)
  have cra := ra.cell
  have crc := rc.cell
  go_wp2_with fail
  refine (HA.out _).mono ?_
  rintro e w6 ⟨rfl, hbb⟩
  have rf := rf.next hbb
  have ra := ra.next hbb
  have rc := rc.next hbb
  have hb := hb.trans (hbb.mono hb.size)
  clear hbb
  clear cra crc
  cases hin : (decide (a ≤ u) && decide (u ≤ b)) with
  | true =>
    have HI := Lib.hid hin
    clear hin
    have crc := rc.cell
    go_wp2_with fail
    refine (HD.out _).mono ?_
    rintro e w7 ⟨rfl, hbb⟩
    have rf := rf.next hbb
    have ra := ra.next hbb
    have rc := rc.next hbb
    have hb := hb.trans (hbb.mono hb.size)
    clear hbb
    clear crc
    go_wp2
    exact bodyPost_ret (v := prV (u - v) (decide (c ≤ v) && decide (v ≤ d)) 0) (by simp [results, Tryz.results32, go_sem, prV]) rfl ⟨by rw [HI.out, Bool.true_and], hb⟩
  | false =>
    have HI := Lib.hid hin
    clear hin
    go_wp2
    exact bodyPost_ret (v := prV (u - v) false 0) (by simp [results, Tryz.results32, go_sem, prV]) rfl ⟨by rw [HI.out, Bool.false_and], hb⟩
end Go.Proofs.YtldghloflegpmaaGreatDoor

/- Contracts of package fit: Swap. -/
import Derived.Test.YtldghloflegpmaaGreatDoorFtK
namespace Go.Proofs.YtldghloflegpmaaGreatDoor
open Go.RowKit Go.Shelf Pu Go.Lib

/-- What Swap returns. -/
def swV (n : Int) (hh : Bool) (hl hg : Int) (sh : Bool) (sl sg : Int) : Value :=
  if fE n hh hl hg sh sl sg = 0 then (if fE n true sl sg false hl hg = 0 then fitV n true sl sg false hl hg 0 else fitV 0 false 0 0 false 0 0 (fE n true sl sg false hl hg)) else fitV 0 false 0 0 false 0 0 (fE n hh hl hg sh sl sg)
theorem sw_results {tmps : Array Value} {w : World} {b : Nat} {cs : Array Value} {e : Int} (h2 : tmps.getD 2 undef = .pointer (some ⟨b, 0, none⟩)) (h3 : tmps.getD 3 undef = .int .i64 e) (hr : Row w b cs 42) (hs : (Tryz.prog.info? 42).map (·.size) = some cs.size) :
    (results Tryz.f29 tmps).run Tryz.prog w = .ok (.tuple #[.agg cs, .int .i64 e]) w := by
  have h2' : tmps[2]?.getD undef = .pointer (some ⟨b, 0, none⟩) := by simpa using h2
  have h3' : tmps[3]?.getD undef = .int .i64 e := by simpa using h3
  simp [results, Tryz.results29, h2', h3', asAddr, run_loadVar_row (P := Tryz.prog) w b 42 42 cs (0, 0) _ hr Tryz.underlying42 rfl hs]

set_option maxRecDepth 100000 in
set_option maxHeartbeats 4000000 in
theorem Swap_c (n : Int) (hh : Bool) (hl hg : Int) (sh : Bool) (sl sg : Int) (w : World) : Calls Tryz.prog 29 #[.agg (fitC n hh hl hg sh sl sg)] w
    fun e w' => e = .returned (swV n hh hl hg sh sl sg) ∧ Below w.heap.size w w' := by
  by_cases hf : fE n hh hl hg sh sl sg = 0
  case neg =>
    have hv : swV n hh hl hg sh sl sg = fitV 0 false 0 0 false 0 0 (fE n hh hl hg sh sl sg) := by unfold swV; rw [if_neg hf]
    have hx : (fE n hh hl hg sh sl sg == 0) = false := by simpa using hf
    have hC := fun w => fCheck_c n hh hl hg sh sl sg w
    rw [hv]
    have HC := Lib.hid hC
    clear hv hf hC
    generalize fE n hh hl hg sh sl sg = x at *
    go_enter Tryz.func29, Tryz.ntmps29
    go_wp2_with fail
    have hr := Row.new (w.alloc (.cells (fitC n hh hl hg sh sl sg) 42)) (fitC 0 false 0 0 false 0 0) 42
    simp only [World.size_alloc] at hr
    have hb := ((Below.refl _ w).alloc (Nat.le_refl _) (.cells (fitC n hh hl hg sh sl sg) 42)).alloc (by simp) (.cells (fitC 0 false 0 0 false 0 0) 42)
    generalize (w.alloc (.cells (fitC n hh hl hg sh sl sg) 42)).alloc (.cells (fitC 0 false 0 0 false 0 0) 42) = w1 at *
    refine (HC.out _).mono ?_
    rintro e w2 ⟨rfl, hbb⟩
    have hr := hr.next hbb
    have hb := hb.trans (hbb.mono hb.size)
    have hc := hr.cell
    have hfz := hr.frozen
    go_wp2
    exact bodyPost_ret (sw_results (cs := fitC 0 false 0 0 false 0 0) (e := x) rfl rfl (fit_put7 hr 0 false 0 0 false 0 0) infoFit7) rfl ⟨rfl, (((((((hb.setCell (by simp) _).setCell (by simp) _).setCell (by simp) _).setCell (by simp) _).setCell (by simp) _).setCell (by simp) _).setCell (by simp) _)⟩
  have hC := fun w => fCheck_c n hh hl hg sh sl sg w
  rw [hf] at hC
  have hD := fun w => fCheck_c n true sl sg false hl hg w
  have hv : swV n hh hl hg sh sl sg = if fE n true sl sg false hl hg = 0 then fitV n true sl sg false hl hg 0 else fitV 0 false 0 0 false 0 0 (fE n true sl sg false hl hg) := by unfold swV; rw [if_pos hf]
  have HV := Lib.hid hv
  have HC := Lib.hid hC
  have HD := Lib.hid hD
  clear hv hf hC hD
  go_enter Tryz.func29, Tryz.ntmps29
  have hr := Row.new (w.alloc (.cells (fitC n hh hl hg sh sl sg) 42)) (fitC 0 false 0 0 false 0 0) 42
  simp only [World.size_alloc] at hr
  have hx := (Row.new w (fitC n hh hl hg sh sl sg) 42).alloc (.cells (fitC 0 false 0 0 false 0 0) 42)
  have hb := ((Below.refl _ w).alloc (Nat.le_refl _) (.cells (fitC n hh hl hg sh sl sg) 42)).alloc (by simp) (.cells (fitC 0 false 0 0 false 0 0) 42)
  go_wp2_with fail
  generalize (w.alloc (.cells (fitC n hh hl hg sh sl sg) 42)).alloc (.cells (fitC 0 false 0 0 false 0 0) 42) = w1 at *
  refine (HC.out _).mono ?_
  rintro e w2 ⟨rfl, hbb⟩
  have hr := hr.next hbb
  have hx := hx.next hbb
  have hb := hb.trans (hbb.mono hb.size)
  clear hbb
  have c0 : w2.cell? ⟨w.heap.size, 0, none⟩ = some (.int .i64 n) := hx.cell 0
  have c1 : w2.cell? ⟨w.heap.size, 1, none⟩ = some (.bool hh) := hx.cell 1
  have c2 : w2.cell? ⟨w.heap.size, 2, none⟩ = some (.int .i64 hl) := hx.cell 2
  have c3 : w2.cell? ⟨w.heap.size, 3, none⟩ = some (.int .i64 hg) := hx.cell 3
  have c4 : w2.cell? ⟨w.heap.size, 4, none⟩ = some (.bool sh) := hx.cell 4
  have c5 : w2.cell? ⟨w.heap.size, 5, none⟩ = some (.int .i64 sl) := hx.cell 5
  have c6 : w2.cell? ⟨w.heap.size, 6, none⟩ = some (.int .i64 sg) := hx.cell 6
  have hfz := hx.frozen
  go_upto_region 5 with fail
  have ne : w.heap.size + 1 ≠ w.heap.size := by omega
  have hx3 : Row ((((((w2.setCell ⟨w.heap.size, 1, none⟩ (.bool sh)).setCell ⟨w.heap.size, 2, none⟩ (.int .i64 sl)).setCell ⟨w.heap.size, 3, none⟩ (.int .i64 sg)).setCell ⟨w.heap.size, 4, none⟩ (.bool hh)).setCell ⟨w.heap.size, 5, none⟩ (.int .i64 hl)).setCell ⟨w.heap.size, 6, none⟩ (.int .i64 hg)) w.heap.size (fitC n sh sl sg hh hl hg) 42 := by
    have := ((((((hx.put 1 (.bool sh)).put 2 (.int .i64 sl)).put 3 (.int .i64 sg)).put 4 (.bool hh)).put 5 (.int .i64 hl)).put 6 (.int .i64 hg))
    simpa using this
  have hr3 := ((((((hr.other (p := ⟨w.heap.size, 1, none⟩) ne (.bool sh)).other (p := ⟨w.heap.size, 2, none⟩) ne (.int .i64 sl)).other (p := ⟨w.heap.size, 3, none⟩) ne (.int .i64 sg)).other (p := ⟨w.heap.size, 4, none⟩) ne (.bool hh)).other (p := ⟨w.heap.size, 5, none⟩) ne (.int .i64 hl)).other (p := ⟨w.heap.size, 6, none⟩) ne (.int .i64 hg))
  have hb3 := ((((((hb.setCell (p := ⟨w.heap.size, 1, none⟩) (Nat.le_refl _) (.bool sh)).setCell (p := ⟨w.heap.size, 2, none⟩) (Nat.le_refl _) (.int .i64 sl)).setCell (p := ⟨w.heap.size, 3, none⟩) (Nat.le_refl _) (.int .i64 sg)).setCell (p := ⟨w.heap.size, 4, none⟩) (Nat.le_refl _) (.bool hh)).setCell (p := ⟨w.heap.size, 5, none⟩) (Nat.le_refl _) (.int .i64 hl)).setCell (p := ⟨w.heap.size, 6, none⟩) (Nat.le_refl _) (.int .i64 hg))
  clear c0 c1 c2 c3 c4 c5 c6 hfz hr hx hb
  generalize ((((((w2.setCell ⟨w.heap.size, 1, none⟩ (.bool sh)).setCell ⟨w.heap.size, 2, none⟩ (.int .i64 sl)).setCell ⟨w.heap.size, 3, none⟩ (.int .i64 sg)).setCell ⟨w.heap.size, 4, none⟩ (.bool hh)).setCell ⟨w.heap.size, 5, none⟩ (.int .i64 hl)).setCell ⟨w.heap.size, 6, none⟩ (.int .i64 hg)) = w3 at *
  have c1 : w3.cell? ⟨w.heap.size, 1, none⟩ = some (.bool sh) := hx3.cell 1
  have c4 : w3.cell? ⟨w.heap.size, 4, none⟩ = some (.bool hh) := hx3.cell 4
  have hfz := hx3.frozen
  go_upto_region 6 with fail
  have hx4 : Row ((w3.setCell ⟨w.heap.size, 1, none⟩ (.bool true)).setCell ⟨w.heap.size, 4, none⟩ (.bool false)) w.heap.size (fitC n true sl sg false hl hg) 42 := by
    have := (hx3.put 1 (.bool true)).put 4 (.bool false)
    simpa using this
  have hr4 := (hr3.other (p := ⟨w.heap.size, 1, none⟩) ne (.bool true)).other (p := ⟨w.heap.size, 4, none⟩) ne (.bool false)
  have hb4 := (hb3.setCell (p := ⟨w.heap.size, 1, none⟩) (Nat.le_refl _) (.bool true)).setCell (p := ⟨w.heap.size, 4, none⟩) (Nat.le_refl _) (.bool false)
  clear c1 c4 hfz hr3 hx3 hb3
  generalize (w3.setCell ⟨w.heap.size, 1, none⟩ (.bool true)).setCell ⟨w.heap.size, 4, none⟩ (.bool false) = w5 at *
  have hc := hx4.cell
  go_wp2_with fail
  clear hc
  refine (HD.out _).mono ?_
  rintro e w4 ⟨rfl, hbb⟩
  have hr := hr4.next hbb
  have hx := hx4.next hbb
  have hb := hb4.trans (hbb.mono hb4.size)
  clear hbb hr4 hx4 hb4
  have hc := hx.cell
  have hcr := hr.cell
  have hfr := hr.frozen
  by_cases hg2 : fE n true sl sg false hl hg = 0
  · have hv := HV.out
    rw [if_pos hg2] at hv
    have Hv := Lib.hid hv
    rw [hg2]
    clear hv hg2
    go_wp2
    exact bodyPost_ret (sw_results (cs := fitC n true sl sg false hl hg) (e := 0) rfl rfl (fit_put7 hr n true sl sg false hl hg) infoFit7) rfl ⟨by rw [Hv.out]; rfl, (((((((hb.setCell (by simp) _).setCell (by simp) _).setCell (by simp) _).setCell (by simp) _).setCell (by simp) _).setCell (by simp) _).setCell (by simp) _)⟩
  · have hv := HV.out
    rw [if_neg hg2] at hv
    have Hv := Lib.hid hv
    have h3 : (fE n true sl sg false hl hg == 0) = false := by simpa using hg2
    clear hv hg2 HV HD
    generalize fE n true sl sg false hl hg = x at *
    go_wp2
    exact bodyPost_ret (sw_results (cs := fitC 0 false 0 0 false 0 0) (e := x) rfl rfl (fit_put7 hr 0 false 0 0 false 0 0) infoFit7) rfl ⟨by rw [Hv.out]; rfl, (((((((hb.setCell (by simp) _).setCell (by simp) _).setCell (by simp) _).setCell (by simp) _).setCell (by simp) _).setCell (by simp) _).setCell (by simp) _)⟩

end Go.Proofs.YtldghloflegpmaaGreatDoor

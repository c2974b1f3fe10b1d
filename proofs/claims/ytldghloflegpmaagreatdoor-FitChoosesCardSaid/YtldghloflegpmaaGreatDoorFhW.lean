/- Contract of the reference's layer 16: Basic. Contract of the reference's layer 16: Choose. The walk of FitChooses. -/
import Derived.Test.YtldghloflegpmaaGreatDoorRg
import Derived.Test.YtldghloflegpmaaGreatDoorCho
import Derived.OwnWalk
namespace Go.Proofs.YtldghloflegpmaaGreatDoor
open Go.RowKit Go.Shelf Pu Go.Lib

theorem infoRF : (Tryz.prog.info? 49).map (fun i => (i.zero, i.size, i.bytes)) = some (some (.agg #[.int .i64 0, .bool false, .int .i64 0, .int .i64 0, .bool false, .int .i64 0, .int .i64 0]), 7, 56) := by kernel_rfl
theorem cells7_new (w : World) (a b c d e f g : Value) (t : TypeId) : ∀ j u, [a, b, c, d, e, f, g][j]? = some u → (w.alloc (.cells #[a, b, c, d, e, f, g] t)).cell? ((⟨w.heap.size, 0, none⟩ : Addr).add j) = some u := by
  intro j u hj
  match j, hj with
  | 0, hj => simp at hj; subst hj; simp [Addr.add]
  | 1, hj => simp at hj; subst hj; simp [Addr.add]
  | 2, hj => simp at hj; subst hj; simp [Addr.add]
  | 3, hj => simp at hj; subst hj; simp [Addr.add]
  | 4, hj => simp at hj; subst hj; simp [Addr.add]
  | 5, hj => simp at hj; subst hj; simp [Addr.add]
  | 6, hj => simp at hj; subst hj; simp [Addr.add]
  | k + 7, hj => cases hj
/-- The cells of a fit of the basic hole. -/
def cellsB (n : Int) (k : Fin 640) : List Value := [.int .i64 n, .bool true, .int .i64 4, .int .i64 (bH k), .bool false, .int .i64 (bL k), .int .i64 (bG k)]
theorem own_base7 {W : World} {n₀ : Nat} {e : TypeId} {size : Nat} {v : Value} {k : Nat} {xs : List Value} (h : W.ownsRow n₀ e size v k xs) : ∀ j, v.ownBlock = some j → n₀ ≤ j := by
  intro j hj
  rcases h.2 with ⟨rfl, _⟩ | ⟨g, cap, cur, rfl, hb, _⟩
  · simp [Value.ownBlock] at hj
  · obtain rfl : g = j := by simpa [Value.ownBlock] using hj
    exact hb
theorem filt_len (n : Int) (m : Nat) : ((allB.take m).filter (okB n)).length ≤ 640 := by
  have h1 := List.length_filter_le (okB n) (allB.take m)
  have h2 : (allB.take m).length ≤ 640 := by rw [List.length_take, allB_len]; omega
  omega
theorem filt_hit (n : Int) {m : Nat} (h : m < 640) (hok : okB n ⟨m, h⟩ = true) : (allB.take (m + 1)).filter (okB n) = (allB.take m).filter (okB n) ++ [⟨m, h⟩] := by
  rw [allB_take _ h, List.filter_append]; simp [hok]
theorem filt_miss (n : Int) {m : Nat} (h : m < 640) (hok : okB n ⟨m, h⟩ = false) : (allB.take (m + 1)).filter (okB n) = (allB.take m).filter (okB n) := by
  rw [allB_take _ h, List.filter_append]; simp [hok]

set_option maxRecDepth 100000 in
set_option maxHeartbeats 4000000 in
theorem Basic_c (n : Int) (w : World) : Calls Tryz.prog 71 #[.int .i64 n] w fun e w' => ∃ v, e = .returned v ∧
    w'.ownsRow w.heap.size 49 7 v (allB.filter (okB n)).length ((allB.filter (okB n)).flatMap (cellsB n)) ∧ Below w.heap.size w w' := by
  obtain ⟨i0, hi0, hz0, hz1, hz2⟩ := info_parts infoRF
  go_enter Tryz.func71, Tryz.ntmps71
  go_wp2_with fail
  go_loopw [3, 4] (fun v p wr => ∃ a : Nat, a ≤ 8 ∧ p = .int .i64 (5 + (a : Int)) ∧ wr.ownsRow w.heap.size 49 7 v ((allB.take (80 * a)).filter (okB n)).length (((allB.take (80 * a)).filter (okB n)).flatMap (cellsB n)) ∧ Below w.heap.size w wr) (fun _ p _ => 13 - (intOf p).toNat)
  case atStart => exact ⟨0, by omega, rfl, World.ownsRow_nil _ _ _ _, Below.refl _ _⟩
  case round =>
    obtain ⟨a, ha, rfl, hr, hb⟩ := hrel
    by_cases ha2 : a < 8
    · have hda : decide (5 + (a : Int) ≤ 12) = true := by simp; omega
      go_wp2_with fail
      go_loopw [3, 5] (fun v p wr => ∃ i : Nat, i ≤ 10 ∧ p = .int .i64 (i : Int) ∧ wr.ownsRow w.heap.size 49 7 v ((allB.take (80 * a + 8 * i)).filter (okB n)).length (((allB.take (80 * a + 8 * i)).filter (okB n)).flatMap (cellsB n)) ∧ Below w.heap.size w wr) (fun _ p _ => 10 - (intOf p).toNat)
      case atStart => exact ⟨0, by omega, rfl, hr, hb⟩
      case round =>
        obtain ⟨i, hi, rfl, hr, hb⟩ := hrel
        by_cases hi2 : i < 10
        · have hdi : decide ((i : Int) < 10) = true := by simp; omega
          go_wp2_with fail
          go_loopw [3, 6] (fun v p wr => ∃ g : Nat, g ≤ 8 ∧ p = .int .i64 (5 + (g : Int)) ∧ wr.ownsRow w.heap.size 49 7 v ((allB.take (80 * a + 8 * i + g)).filter (okB n)).length (((allB.take (80 * a + 8 * i + g)).filter (okB n)).flatMap (cellsB n)) ∧ Below w.heap.size w wr) (fun _ p _ => 13 - (intOf p).toNat)
          case atStart => exact ⟨0, by omega, rfl, hr, hb⟩
          case round =>
            obtain ⟨g, hg, rfl, hr, hb⟩ := hrel
            by_cases hg2 : g < 8
            · have hdg : decide (5 + (g : Int) ≤ 12) = true := by simp; omega
              have hk : 80 * a + 8 * i + g < 640 := by omega
              obtain ⟨e1, e2, e3⟩ := b_at a i g ha2 hi2 hg2 hk
              have hln := filt_len n (80 * a + 8 * i + g)
              have hsz := hb.size
              have hC := fun w => rfCheck_c n true 4 (5 + (a : Int)) false (i : Int) (5 + (g : Int)) w
              by_cases hf : fE n true 4 (5 + (a : Int)) false (i : Int) (5 + (g : Int)) = 0
              · have hok : okB n ⟨80 * a + 8 * i + g, hk⟩ = true := by unfold okB; rw [e1, e2, e3]; exact decide_eq_true hf
                have htk := filt_hit n hk hok
                have hcl : cellsB n ⟨80 * a + 8 * i + g, hk⟩ = [.int .i64 n, .bool true, .int .i64 4, .int .i64 (5 + (a : Int)), .bool false, .int .i64 (i : Int), .int .i64 (5 + (g : Int))] := by unfold cellsB; rw [e1, e2, e3]
                rw [hf] at hC
                have HC := Lib.hid hC
                have HT := Lib.hid htk
                have HL := Lib.hid hcl
                clear hC htk hcl hok hf e1 e2 e3
                go_wp2_with fail
                refine (HC.out _).mono ?_
                rintro e w' ⟨rfl, hbb⟩
                have hx := (Row.new wr (fitC n true 4 (5 + (a : Int)) false (i : Int) (5 + (g : Int))) 49).next hbb
                have hr2 := (hr.alloc (.cells (fitC n true 4 (5 + (a : Int)) false (i : Int) (5 + (g : Int))) 49)).kept (grown_of hbb) (by cases u3.ownBlock <;> simp)
                have hb2 := (hb.alloc hsz (.cells (fitC n true 4 (5 + (a : Int)) false (i : Int) (5 + (g : Int))) 49)).trans (hbb.mono (by simp; omega))
                have hcx := hx.cell
                have hs2 := hb2.size
                go_wp2_with (at_builtin; refine wpList_append_own _ rfl _ _ 124 rfl w.heap.size 49 i0 (.agg #[.int .i64 0, .bool false, .int .i64 0, .int .i64 0, .bool false, .int .i64 0, .int .i64 0]) 7 56 Tryz.underlying124 hi0 hz0 hz1 hz2 rfl (by decide) _ _ _ rfl (hr2.alloc _) ⟨w'.heap.size, 0, none⟩ 1 1 [.int .i64 n, .bool true, .int .i64 4, .int .i64 (5 + (a : Int)), .bool false, .int .i64 (i : Int), .int .i64 (5 + (g : Int))] rfl rfl (cells7_new _ _ _ _ _ _ _ _ _) (by simp [Value.oneCell']) (by unfold maxLen; omega) (by omega) (by simp; omega) ?_; intro v1 w1 hown1 hgrow1 _)
                go_roundw
                case rel =>
                  refine ⟨g + 1, by omega, by first | (congr 1; omega) | go_num, ?_, (hb2.alloc hs2 _).grown hgrow1 (by simp; omega) (own_base7 hr2)⟩
                  show World.ownsRow _ _ _ _ _ ((allB.take (80 * a + 8 * i + g + 1)).filter (okB n)).length (((allB.take (80 * a + 8 * i + g + 1)).filter (okB n)).flatMap (cellsB n))
                  rw [HT.out, List.length_append, List.flatMap_append, List.flatMap_cons, List.flatMap_nil, List.append_nil, HL.out]
                  exact hown1
                case measure => simp [intOf]; omega
              · have hok : okB n ⟨80 * a + 8 * i + g, hk⟩ = false := by unfold okB; rw [e1, e2, e3]; exact decide_eq_false hf
                have htk := filt_miss n hk hok
                have hx : (fE n true 4 (5 + (a : Int)) false (i : Int) (5 + (g : Int)) == 0) = false := by simpa using hf
                generalize fE n true 4 (5 + (a : Int)) false (i : Int) (5 + (g : Int)) = x at *
                have HC := Lib.hid hC
                have HT := Lib.hid htk
                clear hC htk hok hf e1 e2 e3
                go_wp2_with fail
                refine (HC.out _).mono ?_
                rintro e w' ⟨rfl, hbb⟩
                have hr2 := (hr.alloc (.cells (fitC n true 4 (5 + (a : Int)) false (i : Int) (5 + (g : Int))) 49)).kept (grown_of hbb) (by cases u3.ownBlock <;> simp)
                have hb2 := (hb.alloc hsz (.cells (fitC n true 4 (5 + (a : Int)) false (i : Int) (5 + (g : Int))) 49)).trans (hbb.mono (by simp; omega))
                go_wp2
                go_roundw
                case rel =>
                  refine ⟨g + 1, by omega, by first | (congr 1; omega) | go_num, ?_, hb2⟩
                  show World.ownsRow _ _ _ _ _ ((allB.take (80 * a + 8 * i + g + 1)).filter (okB n)).length (((allB.take (80 * a + 8 * i + g + 1)).filter (okB n)).flatMap (cellsB n))
                  rw [HT.out]
                  exact hr2
                case measure => simp [intOf]; omega
            · obtain rfl : g = 8 := by omega
              go_wp2
              go_roundw
              case rel => exact ⟨i + 1, by omega, by go_num, hr, hb⟩
              case measure => simp [intOf]; omega
        · obtain rfl : i = 10 := by omega
          go_wp2
          go_roundw
          case rel => exact ⟨a + 1, by omega, by first | (congr 1; omega) | go_num, hr, hb⟩
          case measure => simp [intOf]; omega
    · obtain rfl : a = 8 := by omega
      have ht : allB.take (80 * 8) = allB := List.take_of_length_le (by rw [allB_len]; omega)
      rw [ht] at hr
      go_wp2
      go_ret
      exact ⟨_, rfl, hr, hb⟩
end Go.Proofs.YtldghloflegpmaaGreatDoor

namespace Go.Proofs.YtldghloflegpmaaGreatDoor
open Go.RowKit Go.Shelf Pu Go.Lib

theorem infoRef7 : (Tryz.prog.info? 49).map (·.size) = some 7 := by kernel_rfl
theorem rch_results {tmps : Array Value} {w : World} {b : Nat} {cs : Array Value} {e : Int} (h2 : tmps.getD 4 undef = .pointer (some ⟨b, 0, none⟩)) (h3 : tmps.getD 5 undef = .int .i64 e) (hr : Row w b cs 49) (hs : (Tryz.prog.info? 49).map (·.size) = some cs.size) :
    (results Tryz.f38 tmps).run Tryz.prog w = .ok (.tuple #[.agg cs, .int .i64 e]) w := by
  have h2' : tmps[4]?.getD undef = .pointer (some ⟨b, 0, none⟩) := by simpa using h2
  have h3' : tmps[5]?.getD undef = .int .i64 e := by simpa using h3
  simp [results, Tryz.results38, h2', h3', asAddr, run_loadVar_row (P := Tryz.prog) w b 49 49 cs (0, 0) _ hr Tryz.underlying49 rfl hs]
theorem put7 {w : World} {b : Nat} {a0 a1 a2 a3 a4 a5 a6 : Value} {T : TypeId} (h : Row w b #[a0, a1, a2, a3, a4, a5, a6] T) (u0 u1 u2 u3 u4 u5 u6 : Value) :
    Row (((((((w.setCell ⟨b, 0, none⟩ u0).setCell ⟨b, 1, none⟩ u1).setCell ⟨b, 2, none⟩ u2).setCell ⟨b, 3, none⟩ u3).setCell ⟨b, 4, none⟩ u4).setCell ⟨b, 5, none⟩ u5).setCell ⟨b, 6, none⟩ u6) b #[u0, u1, u2, u3, u4, u5, u6] T := by
  have := ((((((h.put 0 u0).put 1 u1).put 2 u2).put 3 u3).put 4 u4).put 5 u5).put 6 u6
  simpa using this
theorem past7 {w : World} {b c : Nat} {cs : Array Value} {T : TypeId} (h : Row w c cs T) (hne : c ≠ b) (u0 u1 u2 u3 u4 u5 u6 : Value) :
    Row (((((((w.setCell ⟨b, 0, none⟩ u0).setCell ⟨b, 1, none⟩ u1).setCell ⟨b, 2, none⟩ u2).setCell ⟨b, 3, none⟩ u3).setCell ⟨b, 4, none⟩ u4).setCell ⟨b, 5, none⟩ u5).setCell ⟨b, 6, none⟩ u6) c cs T :=
  ((((((h.other hne u0).other hne u1).other hne u2).other hne u3).other hne u4).other hne u5).other hne u6
theorem ref7_put {w : World} {b : Nat} {n : Int} {hh : Bool} {hl hg : Int} {sh : Bool} {sl sg : Int} (h : Row w b (fitC n hh hl hg sh sl sg) 49) (n' : Int) (hh' : Bool) (hl' hg' : Int) (sh' : Bool) (sl' sg' : Int) :
    Row (((((((w.setCell ⟨b, 0, none⟩ (.int .i64 n')).setCell ⟨b, 1, none⟩ (.bool hh')).setCell ⟨b, 2, none⟩ (.int .i64 hl')).setCell ⟨b, 3, none⟩ (.int .i64 hg')).setCell ⟨b, 4, none⟩ (.bool sh')).setCell ⟨b, 5, none⟩ (.int .i64 sl')).setCell ⟨b, 6, none⟩ (.int .i64 sg')) b (fitC n' hh' hl' hg' sh' sl' sg') 49 := put7 h _ _ _ _ _ _ _
/-- The cells of an owned row of fits. -/
theorem flat7 (n : Int) : ∀ (ks : List (Fin 640)) (i j : Nat) (hi : i < ks.length) (_ : j < 7), (ks.flatMap (cellsB n))[i * 7 + j]? = (cellsB n ks[i])[j]?
  | [], i, _, hi, _ => by simp at hi
  | k :: ks, 0, j, _, hj => by
    rw [List.flatMap_cons, Nat.zero_mul, Nat.zero_add, List.getElem?_append_left (by simp [cellsB]; omega)]
    rfl
  | k :: ks, i + 1, j, hi, hj => by
    rw [List.flatMap_cons, List.getElem?_append_right (by simp [cellsB]; omega)]
    have e : (i + 1) * 7 + j - (cellsB n k).length = i * 7 + j := by simp [cellsB]; omega
    rw [e, flat7 n ks i j (by simpa using hi) hj]
    rfl
theorem own_cells7 {W : World} {B g cap : Nat} {n : Int} {ks : List (Fin 640)} {T : TypeId} (h : W.ownsRow B T 7 (.slice (some ⟨g, 0, none⟩) ks.length cap) ks.length (ks.flatMap (cellsB n))) (i : Nat) (hi : i < ks.length) (j : Nat) (hj : j < 7) :
    W.cell? ⟨g, i * 7 + j, none⟩ = (cellsB n ks[i])[j]? := by
  rcases h.2 with ⟨e, _⟩ | ⟨g', cap', cur, e, _, hg, hn, _, hsz, ht⟩
  · cases e
  · cases e
    have h1 : (cur.toList.take (ks.length * 7))[i * 7 + j]? = (cellsB n ks[i])[j]? := by rw [ht]; exact flat7 n ks i j hi hj
    rw [List.getElem?_take_of_lt (by omega)] at h1
    simp [World.cell?, hg]
    simpa using h1

set_option maxRecDepth 100000 in
set_option maxHeartbeats 4000000 in
theorem rCh_size (n lo hi : Int) (w : World) (hz : ¬ zE n = 0) : Calls Tryz.prog 38 #[.int .i64 n, .agg #[.int .i64 lo, .int .i64 hi]] w fun e w' => e = .returned (noF 2) ∧ Below w.heap.size w w' := by
  have h2 := Lib.hid (zE_two hz)
  clear hz
  go_enter Tryz.func38, Tryz.ntmps38
  have rl := ((Row.new w #[.int .i64 lo, .int .i64 hi] 23).alloc (.cells (fitC 0 false 0 0 false 0 0) 49))
  have rz := (Row.new (w.alloc (.cells #[.int .i64 lo, .int .i64 hi] 23)) (fitC 0 false 0 0 false 0 0) 49)
  simp only [World.size_alloc] at rz
  have hb := (((Below.refl _ w).alloc (Nat.le_refl _) (.cells #[.int .i64 lo, .int .i64 hi] 23)).alloc (by simp) (.cells (fitC 0 false 0 0 false 0 0) 49))
  have crl := rl.cell
  go_wp2_with fail
  refine (rSize_c _ _).mono ?_
  rintro e w1 ⟨rfl, rfl⟩
  clear crl
  generalize (w.alloc (.cells #[.int .i64 lo, .int .i64 hi] 23)).alloc (.cells (fitC 0 false 0 0 false 0 0) 49) = V at *
  have crl := rl.cell
  have crz := rz.cell
  have frz := rz.frozen
  rw [h2.out]
  go_wp2
  exact bodyPost_ret (rch_results (cs := (fitC 0 false 0 0 false 0 0)) (e := 2) rfl rfl (ref7_put rz 0 false 0 0 false 0 0) infoRef7) rfl ⟨rfl, (((((((hb.setCell (by first | (simp; done) | (simp; omega)) _).setCell (by first | (simp; done) | (simp; omega)) _).setCell (by first | (simp; done) | (simp; omega)) _).setCell (by first | (simp; done) | (simp; omega)) _).setCell (by first | (simp; done) | (simp; omega)) _).setCell (by first | (simp; done) | (simp; omega)) _).setCell (by first | (simp; done) | (simp; omega)) _)⟩
set_option maxRecDepth 100000 in
set_option maxHeartbeats 4000000 in
theorem rCh_lo1 (n lo hi : Int) (w : World) (hz : zE n = 0) (h : lo < -100000) : Calls Tryz.prog 38 #[.int .i64 n, .agg #[.int .i64 lo, .int .i64 hi]] w fun e w' => e = .returned (noF 2) ∧ Below w.heap.size w w' := by
  have Hz := Lib.hid hz
  clear hz
  go_enter Tryz.func38, Tryz.ntmps38
  have rl := ((Row.new w #[.int .i64 lo, .int .i64 hi] 23).alloc (.cells (fitC 0 false 0 0 false 0 0) 49))
  have rz := (Row.new (w.alloc (.cells #[.int .i64 lo, .int .i64 hi] 23)) (fitC 0 false 0 0 false 0 0) 49)
  simp only [World.size_alloc] at rz
  have hb := (((Below.refl _ w).alloc (Nat.le_refl _) (.cells #[.int .i64 lo, .int .i64 hi] 23)).alloc (by simp) (.cells (fitC 0 false 0 0 false 0 0) 49))
  have crl := rl.cell
  go_wp2_with fail
  refine (rSize_c _ _).mono ?_
  rintro e w1 ⟨rfl, rfl⟩
  clear crl
  generalize (w.alloc (.cells #[.int .i64 lo, .int .i64 hi] 23)).alloc (.cells (fitC 0 false 0 0 false 0 0) 49) = V at *
  have crl := rl.cell
  have crz := rz.cell
  have frz := rz.frozen
  rw [Hz.out]
  go_wp2
  exact bodyPost_ret (rch_results (cs := (fitC 0 false 0 0 false 0 0)) (e := 2) rfl rfl (ref7_put rz 0 false 0 0 false 0 0) infoRef7) rfl ⟨rfl, (((((((hb.setCell (by first | (simp; done) | (simp; omega)) _).setCell (by first | (simp; done) | (simp; omega)) _).setCell (by first | (simp; done) | (simp; omega)) _).setCell (by first | (simp; done) | (simp; omega)) _).setCell (by first | (simp; done) | (simp; omega)) _).setCell (by first | (simp; done) | (simp; omega)) _).setCell (by first | (simp; done) | (simp; omega)) _)⟩
set_option maxRecDepth 100000 in
set_option maxHeartbeats 4000000 in
theorem rCh_lo2 (n lo hi : Int) (w : World) (hz : zE n = 0) (h : 100000 < lo) : Calls Tryz.prog 38 #[.int .i64 n, .agg #[.int .i64 lo, .int .i64 hi]] w fun e w' => e = .returned (noF 2) ∧ Below w.heap.size w w' := by
  have Hz := Lib.hid hz
  clear hz
  have h0 : ¬ lo < -100000 := by omega
  go_enter Tryz.func38, Tryz.ntmps38
  have rl := ((Row.new w #[.int .i64 lo, .int .i64 hi] 23).alloc (.cells (fitC 0 false 0 0 false 0 0) 49))
  have rz := (Row.new (w.alloc (.cells #[.int .i64 lo, .int .i64 hi] 23)) (fitC 0 false 0 0 false 0 0) 49)
  simp only [World.size_alloc] at rz
  have hb := (((Below.refl _ w).alloc (Nat.le_refl _) (.cells #[.int .i64 lo, .int .i64 hi] 23)).alloc (by simp) (.cells (fitC 0 false 0 0 false 0 0) 49))
  have crl := rl.cell
  go_wp2_with fail
  refine (rSize_c _ _).mono ?_
  rintro e w1 ⟨rfl, rfl⟩
  clear crl
  generalize (w.alloc (.cells #[.int .i64 lo, .int .i64 hi] 23)).alloc (.cells (fitC 0 false 0 0 false 0 0) 49) = V at *
  have crl := rl.cell
  have crz := rz.cell
  have frz := rz.frozen
  rw [Hz.out]
  go_wp2
  exact bodyPost_ret (rch_results (cs := (fitC 0 false 0 0 false 0 0)) (e := 2) rfl rfl (ref7_put rz 0 false 0 0 false 0 0) infoRef7) rfl ⟨rfl, (((((((hb.setCell (by first | (simp; done) | (simp; omega)) _).setCell (by first | (simp; done) | (simp; omega)) _).setCell (by first | (simp; done) | (simp; omega)) _).setCell (by first | (simp; done) | (simp; omega)) _).setCell (by first | (simp; done) | (simp; omega)) _).setCell (by first | (simp; done) | (simp; omega)) _).setCell (by first | (simp; done) | (simp; omega)) _)⟩
set_option maxRecDepth 100000 in
set_option maxHeartbeats 4000000 in
theorem rCh_hi1 (n lo hi : Int) (w : World) (hz : zE n = 0) (h1 : -100000 ≤ lo) (h2 : lo ≤ 100000) (h : hi < -100000) : Calls Tryz.prog 38 #[.int .i64 n, .agg #[.int .i64 lo, .int .i64 hi]] w fun e w' => e = .returned (noF 2) ∧ Below w.heap.size w w' := by
  have Hz := Lib.hid hz
  clear hz
  go_enter Tryz.func38, Tryz.ntmps38
  have rl := ((Row.new w #[.int .i64 lo, .int .i64 hi] 23).alloc (.cells (fitC 0 false 0 0 false 0 0) 49))
  have rz := (Row.new (w.alloc (.cells #[.int .i64 lo, .int .i64 hi] 23)) (fitC 0 false 0 0 false 0 0) 49)
  simp only [World.size_alloc] at rz
  have hb := (((Below.refl _ w).alloc (Nat.le_refl _) (.cells #[.int .i64 lo, .int .i64 hi] 23)).alloc (by simp) (.cells (fitC 0 false 0 0 false 0 0) 49))
  have crl := rl.cell
  go_wp2_with fail
  refine (rSize_c _ _).mono ?_
  rintro e w1 ⟨rfl, rfl⟩
  clear crl
  generalize (w.alloc (.cells #[.int .i64 lo, .int .i64 hi] 23)).alloc (.cells (fitC 0 false 0 0 false 0 0) 49) = V at *
  have crl := rl.cell
  have crz := rz.cell
  have frz := rz.frozen
  rw [Hz.out]
  go_wp2
  exact bodyPost_ret (rch_results (cs := (fitC 0 false 0 0 false 0 0)) (e := 2) rfl rfl (ref7_put rz 0 false 0 0 false 0 0) infoRef7) rfl ⟨rfl, (((((((hb.setCell (by first | (simp; done) | (simp; omega)) _).setCell (by first | (simp; done) | (simp; omega)) _).setCell (by first | (simp; done) | (simp; omega)) _).setCell (by first | (simp; done) | (simp; omega)) _).setCell (by first | (simp; done) | (simp; omega)) _).setCell (by first | (simp; done) | (simp; omega)) _).setCell (by first | (simp; done) | (simp; omega)) _)⟩
set_option maxRecDepth 100000 in
set_option maxHeartbeats 4000000 in
theorem rCh_hi2 (n lo hi : Int) (w : World) (hz : zE n = 0) (h1 : -100000 ≤ lo) (h2 : lo ≤ 100000) (h : 100000 < hi) : Calls Tryz.prog 38 #[.int .i64 n, .agg #[.int .i64 lo, .int .i64 hi]] w fun e w' => e = .returned (noF 2) ∧ Below w.heap.size w w' := by
  have Hz := Lib.hid hz
  clear hz
  have h0 : ¬ hi < -100000 := by omega
  go_enter Tryz.func38, Tryz.ntmps38
  have rl := ((Row.new w #[.int .i64 lo, .int .i64 hi] 23).alloc (.cells (fitC 0 false 0 0 false 0 0) 49))
  have rz := (Row.new (w.alloc (.cells #[.int .i64 lo, .int .i64 hi] 23)) (fitC 0 false 0 0 false 0 0) 49)
  simp only [World.size_alloc] at rz
  have hb := (((Below.refl _ w).alloc (Nat.le_refl _) (.cells #[.int .i64 lo, .int .i64 hi] 23)).alloc (by simp) (.cells (fitC 0 false 0 0 false 0 0) 49))
  have crl := rl.cell
  go_wp2_with fail
  refine (rSize_c _ _).mono ?_
  rintro e w1 ⟨rfl, rfl⟩
  clear crl
  generalize (w.alloc (.cells #[.int .i64 lo, .int .i64 hi] 23)).alloc (.cells (fitC 0 false 0 0 false 0 0) 49) = V at *
  have crl := rl.cell
  have crz := rz.cell
  have frz := rz.frozen
  rw [Hz.out]
  go_wp2
  exact bodyPost_ret (rch_results (cs := (fitC 0 false 0 0 false 0 0)) (e := 2) rfl rfl (ref7_put rz 0 false 0 0 false 0 0) infoRef7) rfl ⟨rfl, (((((((hb.setCell (by first | (simp; done) | (simp; omega)) _).setCell (by first | (simp; done) | (simp; omega)) _).setCell (by first | (simp; done) | (simp; omega)) _).setCell (by first | (simp; done) | (simp; omega)) _).setCell (by first | (simp; done) | (simp; omega)) _).setCell (by first | (simp; done) | (simp; omega)) _).setCell (by first | (simp; done) | (simp; omega)) _)⟩
set_option maxRecDepth 100000 in
set_option maxHeartbeats 4000000 in
theorem rCh_ord (n lo hi : Int) (w : World) (hz : zE n = 0) (h1 : -100000 ≤ lo) (h2 : lo ≤ 100000) (h3 : -100000 ≤ hi) (h4 : hi ≤ 100000) (h : hi < lo) : Calls Tryz.prog 38 #[.int .i64 n, .agg #[.int .i64 lo, .int .i64 hi]] w fun e w' => e = .returned (noF 9) ∧ Below w.heap.size w w' := by
  have Hz := Lib.hid hz
  clear hz
  go_enter Tryz.func38, Tryz.ntmps38
  have rl := ((Row.new w #[.int .i64 lo, .int .i64 hi] 23).alloc (.cells (fitC 0 false 0 0 false 0 0) 49))
  have rz := (Row.new (w.alloc (.cells #[.int .i64 lo, .int .i64 hi] 23)) (fitC 0 false 0 0 false 0 0) 49)
  simp only [World.size_alloc] at rz
  have hb := (((Below.refl _ w).alloc (Nat.le_refl _) (.cells #[.int .i64 lo, .int .i64 hi] 23)).alloc (by simp) (.cells (fitC 0 false 0 0 false 0 0) 49))
  have crl := rl.cell
  go_wp2_with fail
  refine (rSize_c _ _).mono ?_
  rintro e w1 ⟨rfl, rfl⟩
  clear crl
  generalize (w.alloc (.cells #[.int .i64 lo, .int .i64 hi] 23)).alloc (.cells (fitC 0 false 0 0 false 0 0) 49) = V at *
  have crl := rl.cell
  have crz := rz.cell
  have frz := rz.frozen
  rw [Hz.out]
  go_wp2
  exact bodyPost_ret (rch_results (cs := (fitC 0 false 0 0 false 0 0)) (e := 9) rfl rfl (ref7_put rz 0 false 0 0 false 0 0) infoRef7) rfl ⟨rfl, (((((((hb.setCell (by first | (simp; done) | (simp; omega)) _).setCell (by first | (simp; done) | (simp; omega)) _).setCell (by first | (simp; done) | (simp; omega)) _).setCell (by first | (simp; done) | (simp; omega)) _).setCell (by first | (simp; done) | (simp; omega)) _).setCell (by first | (simp; done) | (simp; omega)) _).setCell (by first | (simp; done) | (simp; omega)) _)⟩

theorem ch_shape (n : Int) (s : Option (Fin 640)) : ∃ o0 o1 o2 o3 o4 o5 o6, fitO n s = #[o0, o1, o2, o3, o4, o5, o6] := by
  cases s <;> exact ⟨_, _, _, _, _, _, _, rfl⟩
theorem cell_other {w : World} {p : Addr} {v : Value} {g : Nat} {o : Nat} (h : g ≠ p.block) : (w.setCell p v).cell? ⟨g, o, none⟩ = w.cell? ⟨g, o, none⟩ := World.cell?_of_block (a := ⟨g, o, none⟩) (Below.heap_setCell w p v g h)
theorem past7c {w W : World} {b g : Nat} (hne : g ≠ b) (h : ∀ o, w.cell? ⟨g, o, none⟩ = W.cell? ⟨g, o, none⟩) (u0 u1 u2 u3 u4 u5 u6 : Value) : ∀ o, (((((((w.setCell ⟨b, 0, none⟩ u0).setCell ⟨b, 1, none⟩ u1).setCell ⟨b, 2, none⟩ u2).setCell ⟨b, 3, none⟩ u3).setCell ⟨b, 4, none⟩ u4).setCell ⟨b, 5, none⟩ u5).setCell ⟨b, 6, none⟩ u6).drew.cell? ⟨g, o, none⟩ = W.cell? ⟨g, o, none⟩ := fun o => by
  have e : ∀ (x : World) (a : Addr), x.drew.cell? a = x.cell? a := fun _ _ => rfl
  rw [e, cell_other hne, cell_other hne, cell_other hne, cell_other hne, cell_other hne, cell_other hne, cell_other hne]
  exact h o
theorem below7 {w w0 : World} {B b : Nat} (hb : Below B w0 w) (h : B ≤ b) (u0 u1 u2 u3 u4 u5 u6 : Value) : Below B w0 (((((((w.setCell ⟨b, 0, none⟩ u0).setCell ⟨b, 1, none⟩ u1).setCell ⟨b, 2, none⟩ u2).setCell ⟨b, 3, none⟩ u3).setCell ⟨b, 4, none⟩ u4).setCell ⟨b, 5, none⟩ u5).setCell ⟨b, 6, none⟩ u6).drew :=
  (((((((hb.setCell h u0).setCell h u1).setCell h u2).setCell h u3).setCell h u4).setCell h u5).setCell h u6).drew
theorem size7 {w W : World} {b : Nat} (h : W.heap.size ≤ w.heap.size) (u0 u1 u2 u3 u4 u5 u6 : Value) : W.heap.size ≤ (((((((w.setCell ⟨b, 0, none⟩ u0).setCell ⟨b, 1, none⟩ u1).setCell ⟨b, 2, none⟩ u2).setCell ⟨b, 3, none⟩ u3).setCell ⟨b, 4, none⟩ u4).setCell ⟨b, 5, none⟩ u5).setCell ⟨b, 6, none⟩ u6).drew.heap.size := by
  have e : ∀ (x : World), x.drew.heap = x.heap := fun _ => rfl
  rw [e, World.size_setCell, World.size_setCell, World.size_setCell, World.size_setCell, World.size_setCell, World.size_setCell, World.size_setCell]
  exact h
theorem ch_take {n lo hi : Int} {ks : List (Fin 640)} {i : Nat} (h : i < ks.length) : chC n lo hi (ks.take (i + 1)) = stepC n lo hi (chC n lo hi (ks.take i)) ks[i] := by
  rw [List.take_succ_eq_append_getElem h, chC_snoc]

set_option maxRecDepth 100000 in
set_option maxHeartbeats 8000000 in
theorem rCh_ok (n lo hi : Int) (w : World) (hz : zE n = 0) (h1 : -100000 ≤ lo) (h2 : lo ≤ 100000) (h3 : -100000 ≤ hi) (h4 : hi ≤ 100000) (h5 : lo ≤ hi) : Calls Tryz.prog 38 #[.int .i64 n, .agg #[.int .i64 lo, .int .i64 hi]] w
    fun e w' => e = .returned (chV n lo hi) ∧ Below w.heap.size w w' := by
  have Hz := Lib.hid hz
  obtain ⟨ks, hks⟩ : ∃ ks, allB.filter (okB n) = ks := ⟨_, rfl⟩
  have hall : ∀ k ∈ ks, okB n k = true := fun k hk => by rw [← hks] at hk; exact (List.mem_filter.1 hk).2
  have hlen : ks.length ≤ 640 := by rw [← hks]; have := List.length_filter_le (okB n) allB; rw [allB_len] at this; exact this
  have hB := fun w => Basic_c n w
  have hV : chV n lo hi = if (chC n lo hi ks).2 < 0 then .tuple #[.agg (fitC 0 false 0 0 false 0 0), .int .i64 6] else .tuple #[.agg (fitO n (chC n lo hi ks).1), .int .i64 0] := by unfold chV; rw [hks]
  rw [hks] at hB
  have HB := Lib.hid hB
  have HV := Lib.hid hV
  have HA := Lib.hid hall
  clear hz hks hB hV hall
  go_enter Tryz.func38, Tryz.ntmps38
  have rl := ((Row.new w #[.int .i64 lo, .int .i64 hi] 23).alloc (.cells (fitC 0 false 0 0 false 0 0) 49))
  have rz := (Row.new (w.alloc (.cells #[.int .i64 lo, .int .i64 hi] 23)) (fitC 0 false 0 0 false 0 0) 49)
  simp only [World.size_alloc] at rz
  have hb := (((Below.refl _ w).alloc (Nat.le_refl _) (.cells #[.int .i64 lo, .int .i64 hi] 23)).alloc (by simp) (.cells (fitC 0 false 0 0 false 0 0) 49))
  have crl := rl.cell
  go_wp2_with fail
  refine (rSize_c _ _).mono ?_
  rintro e w1 ⟨rfl, rfl⟩
  clear crl
  generalize (w.alloc (.cells #[.int .i64 lo, .int .i64 hi] 23)).alloc (.cells (fitC 0 false 0 0 false 0 0) 49) = V at *
  have crl := rl.cell
  rw [Hz.out]
  go_wp2_with fail
  refine (HB.out _).mono ?_
  rintro e w2 ⟨v, rfl, ho, hbb⟩
  have rl := rl.next hbb
  have rz := rz.next hbb
  have hb := hb.trans (hbb.mono hb.size)
  clear hbb crl
  have hlz0 := rz.lt
  have rl := rl.alloc (.cells (fitC 0 false 0 0 false 0 0) 49)
  have rz := rz.alloc (.cells (fitC 0 false 0 0 false 0 0) 49)
  have rb := Row.new w2 (fitC 0 false 0 0 false 0 0) 49
  have hs2 := hb.size
  have hb := hb.alloc hb.size (.cells (fitC 0 false 0 0 false 0 0) 49)
  have ho0 := ho
  have ho := ho.alloc (.cells (fitC 0 false 0 0 false 0 0) 49)
  obtain ⟨Bb, hBb⟩ : ∃ B, w2.heap.size = B := ⟨_, rfl⟩
  have hlz : w.heap.size + 1 < Bb := hBb ▸ hlz0
  rw [hBb] at rb
  cases ks with
  | nil =>
    rcases id ho.2 with ⟨rfl, _⟩ | ⟨g, cap, cur, rfl, _, hg, hn, _⟩
    · have hV := HV.out
      rw [show (chC n lo hi []).2 = -1 from rfl, if_pos (by decide)] at hV
      have HV2 := Lib.hid hV
      have crz := rz.cell
      have frz := rz.frozen
      clear hV HV HA HB hlz0
      go_wp2_with fail
      generalize w2.alloc (.cells (fitC 0 false 0 0 false 0 0) 49) = W3 at *
      refine wp_loop_rounds 1 ?_
      rw [rounds_succ]
      go_wp2
      exact bodyPost_ret (rch_results (cs := (fitC 0 false 0 0 false 0 0)) (e := 6) rfl rfl (ref7_put rz 0 false 0 0 false 0 0) infoRef7) rfl ⟨by rw [HV2.out], (((((((hb.setCell (by first | (simp; done) | (simp; omega)) _).setCell (by first | (simp; done) | (simp; omega)) _).setCell (by first | (simp; done) | (simp; omega)) _).setCell (by first | (simp; done) | (simp; omega)) _).setCell (by first | (simp; done) | (simp; omega)) _).setCell (by first | (simp; done) | (simp; omega)) _).setCell (by first | (simp; done) | (simp; omega)) _)⟩
    · have hV := HV.out
      rw [show (chC n lo hi []).2 = -1 from rfl, if_pos (by decide)] at hV
      have HV2 := Lib.hid hV
      have crz := rz.cell
      have frz := rz.frozen
      clear hV HV HA HB hlz0
      go_wp2_with fail
      generalize w2.alloc (.cells (fitC 0 false 0 0 false 0 0) 49) = W3 at *
      refine wp_loop_rounds 1 ?_
      rw [rounds_succ]
      go_wp2
      exact bodyPost_ret (rch_results (cs := (fitC 0 false 0 0 false 0 0)) (e := 6) rfl rfl (ref7_put rz 0 false 0 0 false 0 0) infoRef7) rfl ⟨by rw [HV2.out], (((((((hb.setCell (by first | (simp; done) | (simp; omega)) _).setCell (by first | (simp; done) | (simp; omega)) _).setCell (by first | (simp; done) | (simp; omega)) _).setCell (by first | (simp; done) | (simp; omega)) _).setCell (by first | (simp; done) | (simp; omega)) _).setCell (by first | (simp; done) | (simp; omega)) _).setCell (by first | (simp; done) | (simp; omega)) _)⟩
  | cons k0 kr =>
    obtain ⟨ks, hks⟩ : ∃ ks, k0 :: kr = ks := ⟨_, rfl⟩
    have hne : 0 < ks.length := by rw [← hks]; simp
    rw [hks] at ho ho0 hlen HV HA HB
    clear hks
    rcases id ho0.2 with ⟨_, h0⟩ | ⟨g, cap, cur, rfl, hgw, hg, hn, _⟩
    · exact absurd h0 (by omega)
    have hgb : g < Bb := hBb ▸ (Array.getElem?_eq_some_iff.1 hg).1
    have hgw3 : g < (w2.alloc (.cells (fitC 0 false 0 0 false 0 0) 49)).heap.size := by rw [World.size_alloc, hBb]; omega
    clear hlz0 hg hn ho0
    have hBl : Bb < (w2.alloc (.cells (fitC 0 false 0 0 false 0 0) 49)).heap.size := rb.lt
    go_wp2_with fail
    try rw [hBb]
    generalize w2.alloc (.cells (fitC 0 false 0 0 false 0 0) 49) = W3 at *
    go_loopw [9, 10] (fun p q wr => ∃ i : Nat, i ≤ ks.length ∧ q = .int .i64 (i : Int) ∧ p = .int .i64 (chC n lo hi (ks.take i)).2 ∧ (Row wr w.heap.size #[.int .i64 lo, .int .i64 hi] 23 ∧ Row wr (w.heap.size + 1) (fitC 0 false 0 0 false 0 0) 49 ∧ Row wr Bb (fitO n (chC n lo hi (ks.take i)).1) 49) ∧ Below w.heap.size w wr ∧ (∀ o, wr.cell? ⟨g, o, none⟩ = W3.cell? ⟨g, o, none⟩) ∧ W3.heap.size ≤ wr.heap.size) (fun _ q _ => ks.length - (intOf q).toNat)
    case atStart => exact ⟨0, by omega, rfl, rfl, ⟨rl, rz, rb⟩, hb, fun _ => rfl, Nat.le_refl _⟩
    case round =>
      clear rl rz rb hb
      obtain ⟨i, hile, rfl, hp, ⟨rl, rz, rb⟩, hb, hcg, hsw⟩ := hrel
      obtain ⟨s, wd, hst⟩ : ∃ s wd, chC n lo hi (ks.take i) = (s, wd) := ⟨_, _, rfl⟩
      by_cases hlt : i < ks.length
      · rw [hst] at hp rb
        subst hp
        have cx : ∀ j, j < 7 → wr.cell? ⟨g, i * 7 + j, none⟩ = (cellsB n ks[i])[j]? := fun j hj => (hcg _).trans (own_cells7 ho i hlt j hj)
        have c0 := cx 0 (by omega)
        have c1 := cx 1 (by omega)
        have c2 := cx 2 (by omega)
        have c3 := cx 3 (by omega)
        have c4 := cx 4 (by omega)
        have c5 := cx 5 (by omega)
        have c6 := cx 6 (by omega)
        simp only [cellsB, Nat.add_zero] at c0 c1 c2 c3 c4 c5 c6
        have hmem := HA.out _ (List.getElem_mem hlt)
        have bk := ok_bd hmem
        have hP : ∀ w, Calls Tryz.prog 56 #[.agg (fitC n true 4 (bH ks[i]) false (bL ks[i]) (bG ks[i]))] w fun e w' => e = .returned (.agg #[.int .i64 (cLo n ks[i]), .int .i64 (cHi n ks[i])]) ∧ Below w.heap.size w w' := fun w => Play_c n 4 (bH ks[i]) (bL ks[i]) (bG ks[i]) w (okB_fE hmem)
        have hT0 : chC n lo hi (ks.take (i + 1)) = if lo ≤ cLo n ks[i] ∧ cHi n ks[i] ≤ hi ∧ wd < cHi n ks[i] - cLo n ks[i] then (some ks[i], cHi n ks[i] - cLo n ks[i]) else (s, wd) := by rw [ch_take hlt, hst]; rfl
        have hF : fitO n (some ks[i]) = fitC n true 4 (bH ks[i]) false (bL ks[i]) (bG ks[i]) := rfl
        obtain ⟨o0, o1, o2, o3, o4, o5, o6, hO⟩ := ch_shape n s
        have HO := Lib.hid hO
        rw [hO] at rb
        clear cx hmem hO
        generalize ks[i] = ki at *
        generalize cLo n ki = A at *
        generalize cHi n ki = B at *
        generalize bH ki = H at *
        generalize bL ki = I at *
        generalize bG ki = G at *
        obtain ⟨k1, k2, k3, k4, k5⟩ := bk
        have HP := Lib.hid hP
        have HT0 := Lib.hid hT0
        have HF := Lib.hid hF
        have HST := Lib.hid hst
        have HCG := Lib.hid hcg
        clear hP hT0 hF hst hcg
        go_wp2_with fail
        refine (HP.out _).mono ?_
        rintro e w5 ⟨rfl, hbb⟩
        have hgr : g < wr.heap.size := by omega
        have hcg : ∀ o, (w5.alloc (.cells #[.int .i64 A, .int .i64 B] 23)).cell? ⟨g, o, none⟩ = W3.cell? ⟨g, o, none⟩ := fun o =>
          (World.cell?_of_block (a := ⟨g, o, none⟩) (Below.heap_alloc w5 _ g (Nat.lt_of_lt_of_le hgr hbb.size))).trans ((hbb.cell (p := ⟨g, o, none⟩) hgr).trans (HCG.out o))
        have d0 := (hcg _).trans ((HCG.out _).symm.trans c0)
        have d1 := (hcg _).trans ((HCG.out _).symm.trans c1)
        have d2 := (hcg _).trans ((HCG.out _).symm.trans c2)
        have d3 := (hcg _).trans ((HCG.out _).symm.trans c3)
        have d4 := (hcg _).trans ((HCG.out _).symm.trans c4)
        have d5 := (hcg _).trans ((HCG.out _).symm.trans c5)
        have d6 := (hcg _).trans ((HCG.out _).symm.trans c6)
        have HCG2 := Lib.hid hcg
        clear hcg
        have hs5 := hbb.size
        have rl := (rl.next hbb).alloc (.cells #[.int .i64 A, .int .i64 B] 23)
        have rz := (rz.next hbb).alloc (.cells #[.int .i64 A, .int .i64 B] 23)
        have rb := (rb.next hbb).alloc (.cells #[.int .i64 A, .int .i64 B] 23)
        have rx := Row.new w5 #[.int .i64 A, .int .i64 B] 23
        have hb5 := hb.trans (hbb.mono hb.size)
        have hb := hb5.alloc hb5.size (.cells #[.int .i64 A, .int .i64 B] 23)
        have hsw : W3.heap.size ≤ (w5.alloc (.cells #[.int .i64 A, .int .i64 B] 23)).heap.size := by rw [World.size_alloc]; omega
        have hXb : Bb < w5.heap.size := by omega
        have hgb2 : g ≠ Bb := by omega
        have hlb : w.heap.size ≠ Bb := by omega
        have hzb : w.heap.size + 1 ≠ Bb := by omega
        have hlx : w.heap.size < w5.heap.size := by omega
        clear hb5 hbb c0 c1 c2 c3 c4 c5 c6 hs5 hgr
        have crl := rl.cell
        have crx := rx.cell
        by_cases q1 : lo ≤ A
        · by_cases q2 : B ≤ hi
          · by_cases q3 : wd < B - A
            · have hT := HT0.out
              rw [if_pos ⟨q1, q2, q3⟩] at hT
              have HT := Lib.hid hT
              clear hT HT0
              go_wp2_with fail
              obtain ⟨X, hX⟩ : ∃ X, w5.heap.size = X := ⟨_, rfl⟩
              rw [hX] at rx hXb hlx ⊢
              generalize w5.alloc (.cells #[.int .i64 A, .int .i64 B] 23) = V at *
              clear hX crl crx
              have crx := rx.cell
              have crb := rb.cell
              have frb := rb.frozen
              go_region
              go_wp2
              go_roundw
              case rel =>
                have hT := HT.out
                have r1 := put7 rb (.int .i64 n) (.bool true) (.int .i64 4) (.int .i64 H) (.bool false) (.int .i64 I) (.int .i64 G)
                have r2 := past7 rl hlb (.int .i64 n) (.bool true) (.int .i64 4) (.int .i64 H) (.bool false) (.int .i64 I) (.int .i64 G)
                have r3 := past7 rz hzb (.int .i64 n) (.bool true) (.int .i64 4) (.int .i64 H) (.bool false) (.int .i64 I) (.int .i64 G)
                have r4 := past7c hgb2 HCG2.out (.int .i64 n) (.bool true) (.int .i64 4) (.int .i64 H) (.bool false) (.int .i64 I) (.int .i64 G)
                have r5 := below7 hb (show w.heap.size ≤ Bb by omega) (.int .i64 n) (.bool true) (.int .i64 4) (.int .i64 H) (.bool false) (.int .i64 I) (.int .i64 G)
                have r6 := size7 (b := Bb) hsw (.int .i64 n) (.bool true) (.int .i64 4) (.int .i64 H) (.bool false) (.int .i64 I) (.int .i64 G)
                exact ⟨i + 1, by omega, by go_num, by rw [hT], ⟨r2.drw, r3.drw, by rw [hT, HF.out]; exact r1.drw⟩, r5, r4, r6⟩
              case measure => simp [intOf]; omega
            · have hT := HT0.out
              rw [if_neg (fun h => q3 h.2.2)] at hT
              have HT := Lib.hid hT
              rw [← HO.out] at rb
              clear hT HT0
              go_wp2
              go_roundw
              case rel => exact ⟨i + 1, by omega, by go_num, by rw [HT.out], ⟨rl, rz, by rw [HT.out]; exact rb⟩, hb, HCG2.out, hsw⟩
              case measure => simp [intOf]; omega
          · have hT := HT0.out
            rw [if_neg (fun h => q2 h.2.1)] at hT
            have HT := Lib.hid hT
            rw [← HO.out] at rb
            clear hT HT0
            go_wp2
            go_roundw
            case rel => exact ⟨i + 1, by omega, by go_num, by rw [HT.out], ⟨rl, rz, by rw [HT.out]; exact rb⟩, hb, HCG2.out, hsw⟩
            case measure => simp [intOf]; omega
        · have hT := HT0.out
          rw [if_neg (fun h => q1 h.1)] at hT
          have HT := Lib.hid hT
          rw [← HO.out] at rb
          clear hT HT0
          go_wp2
          go_roundw
          case rel => exact ⟨i + 1, by omega, by go_num, by rw [HT.out], ⟨rl, rz, by rw [HT.out]; exact rb⟩, hb, HCG2.out, hsw⟩
          case measure => simp [intOf]; omega
      · obtain rfl : i = ks.length := by omega
        rw [List.take_length] at hst hp rb
        have hV := HV.out
        rw [hst] at hV hp rb
        subst hp
        have crz := rz.cell
        have frz := rz.frozen
        by_cases hw : wd < 0
        · rw [if_pos hw] at hV
          have HV2 := Lib.hid hV
          clear hV HV HA HB hst
          go_wp2
          exact bodyPost_ret (rch_results (cs := (fitC 0 false 0 0 false 0 0)) (e := 6) rfl rfl (ref7_put rz 0 false 0 0 false 0 0) infoRef7) rfl ⟨by rw [HV2.out], (((((((hb.setCell (by first | (simp; done) | (simp; omega)) _).setCell (by first | (simp; done) | (simp; omega)) _).setCell (by first | (simp; done) | (simp; omega)) _).setCell (by first | (simp; done) | (simp; omega)) _).setCell (by first | (simp; done) | (simp; omega)) _).setCell (by first | (simp; done) | (simp; omega)) _).setCell (by first | (simp; done) | (simp; omega)) _)⟩
        · rw [if_neg hw] at hV
          have HV2 := Lib.hid hV
          clear hV HV HA HB hst
          cases s with
          | none =>
            have rb : Row wr Bb (fitC 0 false 0 0 false 0 0) 49 := rb
            have crb := rb.cell
            go_wp2
            exact bodyPost_ret (rch_results (cs := (fitC 0 false 0 0 false 0 0)) (e := 0) rfl rfl (ref7_put rz 0 false 0 0 false 0 0) infoRef7) rfl ⟨by rw [HV2.out]; rfl, (((((((hb.setCell (by first | (simp; done) | (simp; omega)) _).setCell (by first | (simp; done) | (simp; omega)) _).setCell (by first | (simp; done) | (simp; omega)) _).setCell (by first | (simp; done) | (simp; omega)) _).setCell (by first | (simp; done) | (simp; omega)) _).setCell (by first | (simp; done) | (simp; omega)) _).setCell (by first | (simp; done) | (simp; omega)) _)⟩
          | some k =>
            have rb : Row wr Bb (fitC n true 4 (bH k) false (bL k) (bG k)) 49 := rb
            have hv : chV n lo hi = .tuple #[.agg (fitC n true 4 (bH k) false (bL k) (bG k)), .int .i64 0] := HV2.out
            have HV3 := Lib.hid hv
            clear hv HV2
            have crb := rb.cell
            go_wp2
            exact bodyPost_ret (rch_results (cs := (fitC n true 4 (bH k) false (bL k) (bG k))) (e := 0) rfl rfl (ref7_put rz n true 4 (bH k) false (bL k) (bG k)) infoRef7) rfl ⟨by rw [HV3.out], (((((((hb.setCell (by first | (simp; done) | (simp; omega)) _).setCell (by first | (simp; done) | (simp; omega)) _).setCell (by first | (simp; done) | (simp; omega)) _).setCell (by first | (simp; done) | (simp; omega)) _).setCell (by first | (simp; done) | (simp; omega)) _).setCell (by first | (simp; done) | (simp; omega)) _).setCell (by first | (simp; done) | (simp; omega)) _)⟩

theorem rCh_c (n lo hi : Int) (w : World) : Calls Tryz.prog 38 #[.int .i64 n, .agg #[.int .i64 lo, .int .i64 hi]] w fun e w' => e = .returned (choV n lo hi) ∧ Below w.heap.size w w' := by
  unfold choV
  by_cases hr : rightC n lo hi
  · rw [if_pos hr]
    obtain ⟨hz, ⟨h1, h2⟩, ⟨h3, h4⟩, h5⟩ := hr
    exact rCh_ok n lo hi w hz h1 h2 h3 h4 h5
  · rw [if_neg hr]
    by_cases hz : zE n = 0
    case neg =>
      rw [show wrongE n lo hi = 2 by unfold wrongE; rw [if_neg (fun h => hz h.1)]]
      exact rCh_size n lo hi w hz
    by_cases h1 : lo < -100000
    · rw [show wrongE n lo hi = 2 by unfold wrongE; rw [if_neg (by omega)]]
      exact rCh_lo1 n lo hi w hz h1
    by_cases h2 : 100000 < lo
    · rw [show wrongE n lo hi = 2 by unfold wrongE; rw [if_neg (by omega)]]
      exact rCh_lo2 n lo hi w hz h2
    by_cases h3 : hi < -100000
    · rw [show wrongE n lo hi = 2 by unfold wrongE; rw [if_neg (by omega)]]
      exact rCh_hi1 n lo hi w hz (by omega) (by omega) h3
    by_cases h4 : 100000 < hi
    · rw [show wrongE n lo hi = 2 by unfold wrongE; rw [if_neg (by omega)]]
      exact rCh_hi2 n lo hi w hz (by omega) (by omega) h4
    rw [show wrongE n lo hi = 9 by unfold wrongE; rw [if_pos ⟨hz, by omega, by omega⟩]]
    refine rCh_ord n lo hi w hz (by omega) (by omega) (by omega) (by omega) ?_
    by_cases h : hi < lo
    · exact h
    · exact absurd ⟨hz, ⟨by omega, by omega⟩, ⟨by omega, by omega⟩, by omega⟩ hr
end Go.Proofs.YtldghloflegpmaaGreatDoor

namespace Go.Proofs.YtldghloflegpmaaGreatDoor
open Go.RowKit Go.Shelf Pu Go.Lib

theorem choV_is (n lo hi : Int) : ∃ m mh ml mg th tl tg x, choV n lo hi = .tuple #[.agg (fitC m mh ml mg th tl tg), .int .i64 x] := by
  unfold choV chV noF
  split
  · split
    · exact ⟨_, _, _, _, _, _, _, _, rfl⟩
    · cases (chC n lo hi (allB.filter (okB n))).1 <;> exact ⟨_, _, _, _, _, _, _, _, rfl⟩
  · exact ⟨_, _, _, _, _, _, _, _, rfl⟩

set_option maxRecDepth 100000 in
set_option maxHeartbeats 8000000 in
theorem fitChooses_c (n lo hi : Int) (w : World) (_ : (Lit.int .i64 n).wf = true) (_ : (Lit.int .i64 lo).wf = true) (_ : (Lit.int .i64 hi).wf = true) (hG : Gw w) :
    Calls Tryz.prog 10 #[.int .i64 n, .agg #[.int .i64 lo, .int .i64 hi]] w fun e w' => e = .returned (.bool true) ∧ Below w.heap.size w w' := by
  obtain ⟨m, mh, ml, mg, th, tl, tg, x, hv⟩ := choV_is n lo hi
  have h1 := fun w => Choose_c n lo hi w
  have h2 := fun w => rCh_c n lo hi w
  have h3 := fun w => own16_c m mh ml mg th tl tg w
  rw [hv] at h1 h2
  clear hv
  have H1 := Lib.hid h1
  have H2 := Lib.hid h2
  have H3 := Lib.hid h3
  clear h1 h2 h3
  go_enter Tryz.func10, Tryz.ntmps10
  have rl := (Row.new w #[.int .i64 lo, .int .i64 hi] 23)
  have hb := ((Below.refl _ w).alloc (Nat.le_refl _) (.cells #[.int .i64 lo, .int .i64 hi] 23))
  have crl := rl.cell
  go_wp2_with fail
  refine (H1.out _).mono ?_
  rintro e w2 ⟨rfl, hbb⟩
  have rl := rl.next hbb
  have hb := hb.trans (hbb.mono hb.size)
  clear hbb
  clear crl
  have rl := rl.alloc (.cells (fitC m mh ml mg th tl tg) 42)
  have ra := Row.new w2 (fitC m mh ml mg th tl tg) 42
  have hb := hb.alloc hb.size (.cells (fitC m mh ml mg th tl tg) 42)
  have crl := rl.cell
  go_wp2_with fail
  refine (H2.out _).mono ?_
  rintro e w3 ⟨rfl, hbb⟩
  have rl := rl.next hbb
  have ra := ra.next hbb
  have hb := hb.trans (hbb.mono hb.size)
  clear hbb
  clear crl
  have rl := rl.alloc (.cells (fitC m mh ml mg th tl tg) 49)
  have ra := ra.alloc (.cells (fitC m mh ml mg th tl tg) 49)
  have rb := Row.new w3 (fitC m mh ml mg th tl tg) 49
  have hb := hb.alloc hb.size (.cells (fitC m mh ml mg th tl tg) 49)
  have cra := ra.cell
  have crb := rb.cell
  go_wp2_with fail
  clear cra crb rl
  obtain ⟨X1, e1⟩ : ∃ X, w2.heap.size = X := ⟨_, rfl⟩
  obtain ⟨X2, e2⟩ : ∃ X, w3.heap.size = X := ⟨_, rfl⟩
  rw [e1] at ra ⊢
  rw [e2] at rb ⊢
  clear e1 e2
  have hGV := hG.next hb
  have hS := L2.mk (Nat.le_refl _) hb ra rb
  go_region_held3 (fun w' => HL w.heap.size w [(X1, (fitC m mh ml mg th tl tg), 42), (X2, (fitC m mh ml mg th tl tg), 49)] w' ∧ (∀ j, w'.cell? ⟨X1, j, none⟩ = ((fitC m mh ml mg th tl tg) : Array Value)[j]?) ∧ (∀ j, w'.cell? ⟨X2, j, none⟩ = ((fitC m mh ml mg th tl tg) : Array Value)[j]?))
    (first | exact hS | exact L2.drew hS | (refine L2.drew ?_; assumption) | (refine L2.call ?_ hbb; assumption) | (refine L2.call (L2.drew ?_) hbb; assumption))
    (first | (go_at_call 21; refine (H3.out _).mono ?_; rintro e w' ⟨rfl, hbb⟩) | (go_at_call 28; refine (awake16_c _ (by first | exact hG.next (L2.out (by assumption)).1 | exact hGV)).mono ?_; rintro e w' ⟨rfl, hbb⟩))
  all_goals
    rename_i hHeld
    go_wp2
    go_ret
    exact ⟨rfl, (L2.out hHeld).1⟩
end Go.Proofs.YtldghloflegpmaaGreatDoor

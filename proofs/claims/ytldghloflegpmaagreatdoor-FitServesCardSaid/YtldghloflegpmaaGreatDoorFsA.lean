/- The walk of FitServes. -/
import Derived.Test.YtldghloflegpmaaGreatDoorFwA
import Derived.Test.YtldghloflegpmaaGreatDoorCho
namespace Go.Proofs.YtldghloflegpmaaGreatDoor
open Go.RowKit Go.Shelf Pu Go.Lib

theorem p_bd (n : Int) (hh : Bool) (hl hg : Int) (sh : Bool) (sl sg : Int) : (-200000 ≤ pLow n hh hl hg sh sl sg ∧ pLow n hh hl hg sh sl sg ≤ 200000) ∧ (-200000 ≤ pHigh n hh hl hg sh sl sg ∧ pHigh n hh hl hg sh sl sg ≤ 200000) := by
  unfold pLow pHigh
  by_cases hf : fE n hh hl hg sh sl sg = 0
  · rw [if_pos hf, if_pos hf]
    obtain ⟨_, _, _, _, _, k1, k2⟩ := fE_ok hf
    have i1 := m_in k1
    have i2 := m_in k2
    omega
  · rw [if_neg hf, if_neg hf]; omega
theorem noF_err (n lo hi : Int) : ∃ x, (x == 0) = false ∧ (¬ rightC n lo hi → choV n lo hi = noF x) := by
  refine ⟨wrongE n lo hi, ?_, fun h => by unfold choV; rw [if_neg h]⟩
  unfold wrongE; split <;> rfl

set_option maxRecDepth 100000 in
set_option maxHeartbeats 4000000 in
theorem serves_err (n lo hi x : Int) (w : World) (hv : choV n lo hi = noF x) (hx : (x == 0) = false) (hG : Gw w) :
    Calls Tryz.prog 11 #[.int .i64 n, .agg #[.int .i64 lo, .int .i64 hi]] w fun e w' => e = .returned (.bool true) ∧ Below w.heap.size w w' := by
  have hC := fun w => Choose_c n lo hi w
  rw [hv] at hC
  unfold noF at hC
  have HC := Lib.hid hC
  clear hC hv
  go_enter Tryz.func11, Tryz.ntmps11
  have hb := ((Below.refl _ w).alloc (Nat.le_refl _) (.cells #[.int .i64 lo, .int .i64 hi] 23))
  go_wp2_with fail
  refine (HC.out _).mono ?_
  rintro e w2 ⟨rfl, hbb⟩
  have hb := hb.trans (hbb.mono hb.size)
  clear hbb
  have hb := hb.alloc hb.size (.cells (fitC 0 false 0 0 false 0 0) 42)
  go_wp2_with fail
  refine (awake16_c _ (hG.next hb)).mono ?_
  rintro e w3 ⟨rfl, hbb⟩
  have hb := hb.trans (hbb.mono hb.size)
  clear hbb
  go_wp2
  go_ret
  exact ⟨rfl, hb⟩

set_option maxRecDepth 100000 in
set_option maxHeartbeats 4000000 in
theorem serves_ok (n lo hi : Int) (k : Fin 640) (w : World) (hr : rightC n lo hi) (hk : Chosen n lo hi k) (hG : Gw w) :
    Calls Tryz.prog 11 #[.int .i64 n, .agg #[.int .i64 lo, .int .i64 hi]] w fun e w' => e = .returned (.bool true) ∧ Below w.heap.size w w' := by
  obtain ⟨j, hj, ej1, ej2⟩ := ch_again hk
  have hC := fun w => Choose_c n lo hi w
  rw [show choV n lo hi = chV n lo hi by unfold choV; rw [if_pos hr], hk.2.2.2.2] at hC
  have bk := ok_bd hk.1
  have hD := fun w => Choose_c n (cLo n k) (cHi n k) w
  rw [show choV n (cLo n k) (cHi n k) = chV n (cLo n k) (cHi n k) by unfold choV; rw [if_pos ⟨hr.1, by omega, by omega, by omega⟩], hj.2.2.2.2] at hD
  have hE := fun w => Clearance_c n true 4 (bH k) false (bL k) (bG k) w
  rw [(p_c hk.1).1, (p_c hk.1).2, okB_fE hk.1] at hE
  have hF := fun w => Clearance_c n true 4 (bH j) false (bL j) (bG j) w
  rw [(p_c hj.1).1, (p_c hj.1).2, okB_fE hj.1, ej1, ej2] at hF
  have hX := fun w => Clearance_c n true 4 (bH k + 1) false (bL k) (bG k) w
  have hY := fun w => Clearance_c n true 4 (bH k) false (bL k) (bG k + 1) w
  have mX := ch_max (a := bH k + 1) (i := bL k) (g := bG k) hk
  have mY := ch_max (a := bH k) (i := bL k) (g := bG k + 1) hk
  have bX := p_bd n true 4 (bH k + 1) false (bL k) (bG k)
  have bY := p_bd n true 4 (bH k) false (bL k) (bG k + 1)
  have l1 := hk.2.1
  have l2 := hk.2.2.1
  have b5 : (5 ≤ bH k ∧ bH k ≤ 12) ∧ (5 ≤ bG k ∧ bG k ≤ 12) := by
    have := k.2
    unfold bH bG
    omega
  clear hk hj ej1 ej2 hr
  generalize cLo n k = A at *
  generalize cHi n k = B at *
  generalize bH k = H at *
  generalize bL k = I at *
  generalize bG k = G at *
  generalize bH j = H2 at *
  generalize bL j = I2 at *
  generalize bG j = G2 at *
  generalize pLow n true 4 (H + 1) false I G = PX at *
  generalize pHigh n true 4 (H + 1) false I G = QX at *
  generalize fE n true 4 (H + 1) false I G = EX at *
  generalize pLow n true 4 H false I (G + 1) = PY at *
  generalize pHigh n true 4 H false I (G + 1) = QY at *
  generalize fE n true 4 H false I (G + 1) = EY at *
  simp only [pairV] at hE hF hX hY
  have HC := Lib.hid hC
  have HD := Lib.hid hD
  have HE := Lib.hid hE
  have HF := Lib.hid hF
  have HX := Lib.hid hX
  have HY := Lib.hid hY
  have MX := Lib.hid mX
  have MY := Lib.hid mY
  obtain ⟨⟨h5, h12⟩, g5, g12⟩ := b5
  obtain ⟨k1, k2, k3, k4, k5⟩ := bk
  obtain ⟨⟨x1, x2⟩, x3, x4⟩ := bX
  obtain ⟨⟨y1, y2⟩, y3, y4⟩ := bY
  clear hC hD hE hF hX hY mX mY
  go_enter Tryz.func11, Tryz.ntmps11
  have rl := (Row.new w #[.int .i64 lo, .int .i64 hi] 23)
  have hb := ((Below.refl _ w).alloc (Nat.le_refl _) (.cells #[.int .i64 lo, .int .i64 hi] 23))
  go_wp2_with fail
  refine (HC.out _).mono ?_
  rintro e w2 ⟨rfl, hbb⟩
  have rl := rl.next hbb
  have hb := hb.trans (hbb.mono hb.size)
  clear hbb
  have rl := rl.alloc (.cells (fitC n true 4 H false I G) 42)
  have rf := Row.new w2 (fitC n true 4 H false I G) 42
  have hb := hb.alloc hb.size (.cells (fitC n true 4 H false I G) 42)
  have crf := rf.cell
  go_wp2_with fail
  refine (HE.out _).mono ?_
  rintro e w3 ⟨rfl, hbb⟩
  have rl := rl.next hbb
  have rf := rf.next hbb
  have hb := hb.trans (hbb.mono hb.size)
  clear hbb
  clear crf
  have rl := rl.alloc (.cells #[.int .i64 A, .int .i64 B] 23)
  have rf := rf.alloc (.cells #[.int .i64 A, .int .i64 B] 23)
  have rc := Row.new w3 #[.int .i64 A, .int .i64 B] 23
  have hb := hb.alloc hb.size (.cells #[.int .i64 A, .int .i64 B] 23)
  have crl := rl.cell
  have crf := rf.cell
  have crc := rc.cell
  go_wp2_with fail
  clear crl crf crc
  generalize w3.alloc (.cells #[.int .i64 A, .int .i64 B] 23) = V at *
  go_loopw [51] (fun p wr => ∃ i : Nat, i ≤ 2 ∧ p = .int .i64 (i : Int) ∧ Row wr w.heap.size #[.int .i64 lo, .int .i64 hi] 23 ∧ Row wr w2.heap.size (fitC n true 4 H false I G) 42 ∧ Row wr w3.heap.size #[.int .i64 A, .int .i64 B] 23 ∧ Below w.heap.size w wr) (fun p _ => 2 - (intOf p).toNat)
  case atStart => exact ⟨0, by omega, rfl, rl, rf, rc, hb⟩
  case round =>
    obtain ⟨i, hi, rfl, rl, rf, rc, hb⟩ := hrel
    by_cases hi2 : i < 2
    · rcases (show i = 0 ∨ i = 1 by omega) with rfl | rfl
      · clear hi hi2
        have rx1 : Row (wr.alloc (.cells (fitC n true 4 (H + 1) false I G) 42)) wr.heap.size (fitC n true 4 (H + 1) false I G) 42 := Row.new wr _ _
        have rl1 := rl.alloc (.cells (fitC n true 4 (H + 1) false I G) 42)
        have rf1 := rf.alloc (.cells (fitC n true 4 (H + 1) false I G) 42)
        have rc1 := rc.alloc (.cells (fitC n true 4 (H + 1) false I G) 42)
        have hb1 := hb.alloc hb.size (.cells (fitC n true 4 (H + 1) false I G) 42)
        have crf := rf.cell
        go_wp2_with fail
        clear crf rl rf rc hb
        refine (HX.out _).mono ?_
        rintro e W5 ⟨rfl, hbb⟩
        have rl := (rl1.next hbb).alloc (.cells #[.int .i64 PX, .int .i64 QX] 23)
        have rf := (rf1.next hbb).alloc (.cells #[.int .i64 PX, .int .i64 QX] 23)
        have rc := (rc1.next hbb).alloc (.cells #[.int .i64 PX, .int .i64 QX] 23)
        have hb2 := hb1.trans (hbb.mono hb1.size)
        have hb := hb2.alloc hb2.size (.cells #[.int .i64 PX, .int .i64 QX] 23)
        clear rl1 rf1 rc1 rx1 hb1 hb2 hbb
        have crl := rl.cell
        have crc := rc.cell
        by_cases e0 : EX = 0
        · have mm := MX.out e0
          subst e0
          by_cases q1 : lo ≤ PX
          · by_cases q2 : QX ≤ hi
            · have q3 : ¬ (B - A < QX - PX) := fun q3 => mm ⟨q1, q2, q3⟩
              clear mm
              go_wp2
              go_roundw
              case rel => exact ⟨0 + 1, by omega, by go_num, rl, rf, rc, hb⟩
              case measure => simp [intOf]
            · clear mm
              go_wp2
              go_roundw
              case rel => exact ⟨0 + 1, by omega, by go_num, rl, rf, rc, hb⟩
              case measure => simp [intOf]
          · clear mm
            go_wp2
            go_roundw
            case rel => exact ⟨0 + 1, by omega, by go_num, rl, rf, rc, hb⟩
            case measure => simp [intOf]
        · have hE0 : (EX == 0) = false := by simpa using e0
          clear e0
          go_wp2
          go_roundw
          case rel => exact ⟨0 + 1, by omega, by go_num, rl, rf, rc, hb⟩
          case measure => simp [intOf]
      · clear hi hi2
        have rx1 : Row (wr.alloc (.cells (fitC n true 4 H false I (G + 1)) 42)) wr.heap.size (fitC n true 4 H false I (G + 1)) 42 := Row.new wr _ _
        have rl1 := rl.alloc (.cells (fitC n true 4 H false I (G + 1)) 42)
        have rf1 := rf.alloc (.cells (fitC n true 4 H false I (G + 1)) 42)
        have rc1 := rc.alloc (.cells (fitC n true 4 H false I (G + 1)) 42)
        have hb1 := hb.alloc hb.size (.cells (fitC n true 4 H false I (G + 1)) 42)
        have crf := rf.cell
        go_wp2_with fail
        clear crf rl rf rc hb
        refine (HY.out _).mono ?_
        rintro e W5 ⟨rfl, hbb⟩
        have rl := (rl1.next hbb).alloc (.cells #[.int .i64 PY, .int .i64 QY] 23)
        have rf := (rf1.next hbb).alloc (.cells #[.int .i64 PY, .int .i64 QY] 23)
        have rc := (rc1.next hbb).alloc (.cells #[.int .i64 PY, .int .i64 QY] 23)
        have hb2 := hb1.trans (hbb.mono hb1.size)
        have hb := hb2.alloc hb2.size (.cells #[.int .i64 PY, .int .i64 QY] 23)
        clear rl1 rf1 rc1 rx1 hb1 hb2 hbb
        have crl := rl.cell
        have crc := rc.cell
        by_cases e0 : EY = 0
        · have mm := MY.out e0
          subst e0
          by_cases q1 : lo ≤ PY
          · by_cases q2 : QY ≤ hi
            · have q3 : ¬ (B - A < QY - PY) := fun q3 => mm ⟨q1, q2, q3⟩
              clear mm
              go_wp2
              go_roundw
              case rel => exact ⟨1 + 1, by omega, by go_num, rl, rf, rc, hb⟩
              case measure => simp [intOf]
            · clear mm
              go_wp2
              go_roundw
              case rel => exact ⟨1 + 1, by omega, by go_num, rl, rf, rc, hb⟩
              case measure => simp [intOf]
          · clear mm
            go_wp2
            go_roundw
            case rel => exact ⟨1 + 1, by omega, by go_num, rl, rf, rc, hb⟩
            case measure => simp [intOf]
        · have hE0 : (EY == 0) = false := by simpa using e0
          clear e0
          go_wp2
          go_roundw
          case rel => exact ⟨1 + 1, by omega, by go_num, rl, rf, rc, hb⟩
          case measure => simp [intOf]
    · obtain rfl : i = 2 := by omega
      clear hi hi2
      have crl := rl.cell
      have crc := rc.cell
      go_wp2_with fail
      refine (HD.out _).mono ?_
      rintro e w6 ⟨rfl, hbb⟩
      have rl := rl.next hbb
      have rf := rf.next hbb
      have rc := rc.next hbb
      have hb := hb.trans (hbb.mono hb.size)
      clear hbb
      clear crl crc
      have rl := rl.alloc (.cells (fitC n true 4 H2 false I2 G2) 42)
      have rf := rf.alloc (.cells (fitC n true 4 H2 false I2 G2) 42)
      have rc := rc.alloc (.cells (fitC n true 4 H2 false I2 G2) 42)
      have rg := Row.new w6 (fitC n true 4 H2 false I2 G2) 42
      have hb := hb.alloc hb.size (.cells (fitC n true 4 H2 false I2 G2) 42)
      have crg := rg.cell
      have crc := rc.cell
      go_wp2_with fail
      refine (HF.out _).mono ?_
      rintro e w7 ⟨rfl, hbb⟩
      have rl := rl.next hbb
      have rf := rf.next hbb
      have rc := rc.next hbb
      have rg := rg.next hbb
      have hb := hb.trans (hbb.mono hb.size)
      clear hbb
      clear crg crc
      have rl := rl.alloc (.cells #[.int .i64 A, .int .i64 B] 23)
      have rf := rf.alloc (.cells #[.int .i64 A, .int .i64 B] 23)
      have rc := rc.alloc (.cells #[.int .i64 A, .int .i64 B] 23)
      have rg := rg.alloc (.cells #[.int .i64 A, .int .i64 B] 23)
      have rd := Row.new w7 #[.int .i64 A, .int .i64 B] 23
      have hb := hb.alloc hb.size (.cells #[.int .i64 A, .int .i64 B] 23)
      have crc := rc.cell
      have crd := rd.cell
      go_wp2_with fail
      refine (awake16_c _ (hG.next hb)).mono ?_
      rintro e w8 ⟨rfl, hbb⟩
      have rl := rl.next hbb
      have rf := rf.next hbb
      have rc := rc.next hbb
      have rg := rg.next hbb
      have rd := rd.next hbb
      have hb := hb.trans (hbb.mono hb.size)
      clear hbb
      clear crc crd
      go_wp2
      go_ret
      exact ⟨rfl, hb⟩

theorem fitServes_c (n lo hi : Int) (w : World) (_ : (Lit.int .i64 n).wf = true) (_ : (Lit.int .i64 lo).wf = true) (_ : (Lit.int .i64 hi).wf = true) (hG : Gw w) :
    Calls Tryz.prog 11 #[.int .i64 n, .agg #[.int .i64 lo, .int .i64 hi]] w fun e w' => e = .returned (.bool true) ∧ Below w.heap.size w w' := by
  by_cases hr : rightC n lo hi
  · rcases ch_cases n lo hi with ⟨h, _⟩ | ⟨k, hk⟩
    · exact serves_err n lo hi 6 w (by unfold choV; rw [if_pos hr, h]; rfl) rfl hG
    · exact serves_ok n lo hi k w hr hk hG
  · obtain ⟨x, hx, h⟩ := noF_err n lo hi
    exact serves_err n lo hi x w (h hr) hx hG
end Go.Proofs.YtldghloflegpmaaGreatDoor

/- The walk of metrolablaw15.GradesMirrors. -/
import Derived.Test.YteaopiogjlinbaaGreatDoorAwk
import Derived.Test.YteaopiogjlinbaaGreatDoorRfC
import Derived.Test.YteaopiogjlinbaaGreatDoorRo2
namespace Go.Proofs.YteaopiogjlinbaaGreatDoor
open Go.RowKit Pu Go.Lib

theorem Tolerance_ok (n g : Int) (w : World) (hz : zE n = 0) (h5 : 5 ≤ g) (h12 : g ≤ 12) : Calls Tryz.prog 29 #[.int .i64 n, .int .i64 g] w fun e w' => e = .returned (.tuple #[.int .i64 (tol n g), .int .i64 0]) ∧ Below w.heap.size w w' := by
  have := Tolerance_c n g w
  have e : tE n g = 0 := by unfold tE; rw [if_pos hz]; exact gE_ok.2 ⟨h5, h12⟩
  unfold twoV at this
  rw [e, if_pos rfl] at this
  exact this
theorem Deviations_ok' (n l g : Int) (h : Bool) (w : World) (hd : dE n l g = 0) : Calls Tryz.prog 24 #[.int .i64 n, .agg #[.bool h, .int .i64 l, .int .i64 g]] w
    fun e w' => e = .returned (.tuple #[.agg #[.int .i64 (dLow n h l g), .int .i64 (dHigh n h l g)], .int .i64 0]) ∧ Below w.heap.size w w' := by
  have := Deviations_c n l g h w
  unfold vLow vHigh pairV at this
  rw [hd, if_pos rfl, if_pos rfl] at this
  exact this

/-- Whether a size and a class are right. -/
def rgt (n l g : Int) : Bool := decide (dE n l g = 0)
set_option maxHeartbeats 2000000 in
theorem right_c (n l g : Int) (h : Bool) (w : World) : Calls Tryz.prog 28 #[.int .i64 n, .agg #[.bool h, .int .i64 l, .int .i64 g]] w
    fun e w' => e = .returned (.bool (rgt n l g)) ∧ Below w.heap.size w w' := by
  by_cases hz : zE n = 0
  · have hd : dE n l g = cE l g := by unfold dE; rw [if_pos hz]
    have e : rgt n l g = decide (cE l g = 0) := by unfold rgt; rw [hd]
    rw [e]
    have Hz := Lib.hid hz
    clear hz hd e
    go_enter Tryz.func28, Tryz.ntmps28
    go_wp2_with fail
    refine (rSize_c _ _).mono ?_
    rintro e w1 ⟨rfl, rfl⟩
    rw [Hz.out]
    go_wp2_with fail
    refine (rCheck_c _ _ _ _).mono ?_
    rintro e w2 ⟨rfl, hbb⟩
    go_wp2
    go_ret
    exact ⟨rfl, ((Below.refl _ w).alloc (Nat.le_refl _) _).trans (hbb.mono (by simp))⟩
  · have h2 := zE_two hz
    have e : rgt n l g = false := by unfold rgt dE; rw [if_neg hz, h2]; rfl
    rw [e]
    have Hz := Lib.hid h2
    clear hz h2 e
    go_enter Tryz.func28, Tryz.ntmps28
    go_wp2_with fail
    refine (rSize_c _ _).mono ?_
    rintro e w1 ⟨rfl, rfl⟩
    rw [Hz.out]
    go_wp2
    go_ret
    exact ⟨rfl, ((Below.refl _ w).alloc (Nat.le_refl _) _)⟩

set_option maxHeartbeats 2000000 in
theorem mirrors_out (n : Int) (h : Bool) (l g : Int) (w : World) (hd : rgt n l g = false) : Calls Tryz.prog 5 #[.int .i64 n, .agg #[.bool h, .int .i64 l, .int .i64 g]] w fun e w' => e = .returned (.bool true) ∧ Below w.heap.size w w' := by
  have HD := Lib.hid hd
  clear hd
  go_enter Tryz.func5, Tryz.ntmps5
  go_wp2_with fail
  refine (right_c _ _ _ _ _).mono ?_
  rintro e w1 ⟨rfl, hbb⟩
  rw [HD.out]
  have hb1 := ((Below.refl _ w).alloc (Nat.le_refl _) (.cells #[.bool h, .int .i64 l, .int .i64 g] 23)).trans (hbb.mono (by simp))
  clear hbb
  go_wp2_with fail
  refine (awake_c _).mono ?_
  rintro e w2 ⟨rfl, hbb⟩
  go_wp2
  go_ret
  exact ⟨rfl, hb1.trans (hbb.mono hb1.size)⟩

theorem d_flip (n l g : Int) (h : Bool) : dLow n (!h) l g = -dHigh n h l g ∧ dHigh n (!h) l g = -dLow n h l g := by
  unfold dLow dHigh
  cases h <;> simp
theorem mod_5 {n g : Int} (h : Bool) : dLow n h 5 g = -dHigh n h 5 g ∧ dHigh n h 5 g = tol n g / 2 := by
  unfold dLow dHigh sLow sHigh
  cases h <;> simp
theorem mod_4 {n g : Int} : dLow n true 4 g = 0 ∧ dHigh n false 4 g = 0 := by
  unfold dLow dHigh sLow sHigh sh shf
  simp
theorem mod_w {n l g : Int} (h : Bool) (hl : l ≠ 5) : dHigh n h l g - dLow n h l g = tol n g := by
  unfold dLow dHigh sLow sHigh
  cases h <;> simp [hl] <;> split <;> omega

theorem letter_j (i : Nat) (h5 : i ≠ 5) (h : i < (ByteArray.mk #[100, 101, 102, 103, 104, 106, 107, 109, 110, 112]).size) : (((((ByteArray.mk #[100, 101, 102, 103, 104, 106, 107, 109, 110, 112])[i]'h).toNat : Int)) == 106) = false :=
  match i, h5, h with
  | 0, _, _ => rfl
  | 1, _, _ => rfl
  | 2, _, _ => rfl
  | 3, _, _ => rfl
  | 4, _, _ => rfl
  | 5, h5, _ => absurd rfl h5
  | 6, _, _ => rfl
  | 7, _, _ => rfl
  | 8, _, _ => rfl
  | 9, _, _ => rfl
  | k + 10, _, h => absurd h (by simp [ByteArray.size])
theorem letter_h (i : Nat) (h4 : i ≠ 4) (h : i < (ByteArray.mk #[100, 101, 102, 103, 104, 106, 107, 109, 110, 112]).size) : (((((ByteArray.mk #[100, 101, 102, 103, 104, 106, 107, 109, 110, 112])[i]'h).toNat : Int)) == 104) = false :=
  match i, h4, h with
  | 0, _, _ => rfl
  | 1, _, _ => rfl
  | 2, _, _ => rfl
  | 3, _, _ => rfl
  | 4, h4, _ => absurd rfl h4
  | 5, _, _ => rfl
  | 6, _, _ => rfl
  | 7, _, _ => rfl
  | 8, _, _ => rfl
  | 9, _, _ => rfl
  | k + 10, _, h => absurd h (by simp [ByteArray.size])

set_option maxHeartbeats 4000000 in
theorem mirrors_other (n : Int) (h : Bool) (i : Nat) (g : Int) (w : World) (hd : dE n i g = 0) (h4 : i ≠ 4) (h5 : i ≠ 5) : Calls Tryz.prog 5 #[.int .i64 n, .agg #[.bool h, .int .i64 i, .int .i64 g]] w fun e w' => e = .returned (.bool true) ∧ Below w.heap.size w w' := by
  obtain ⟨⟨n1, n2⟩, ⟨l0, l9⟩, g5, g12⟩ := dE_ok.1 hd
  have hr : rgt n i g = true := by unfold rgt; rw [hd]; rfl
  have A1 := fun W => Deviations_ok' n i g h W hd
  have A2 := fun W => Deviations_ok' n i g (!h) W hd
  have A3 := fun W => Tolerance_ok n g W (zE_ok.2 ⟨n1, n2⟩) g5 g12
  have f1 := (d_flip n i g h).1
  have f2 := (d_flip n i g h).2
  have f3 := mod_w (n := n) (g := g) h (show (i : Int) ≠ 5 by omega)
  have f4 := d_bd n h i g
  rw [f1, f2] at A2
  generalize dLow n h i g = a at *
  generalize dHigh n h i g = b at *
  generalize tol n g = t at *
  obtain ⟨b1, b2, b3, b4, b5⟩ := f4
  clear f1 f2 hd
  have HR := Lib.hid hr
  have B1 := Lib.hid A1; have B2 := Lib.hid A2; have B3 := Lib.hid A3
  clear hr A1 A2 A3
  have hj6 := letter_j i h5
  have hj4 := letter_h i h4
  clear h4 h5
  go_enter Tryz.func5, Tryz.ntmps5
  go_wp2_with fail
  refine (right_c _ _ _ _ _).mono ?_
  rintro e w1 ⟨rfl, hbb⟩
  rw [HR.out]
  have hr0 := (Row.new w #[.bool h, .int .i64 i, .int .i64 g] 23).next hbb
  have hb1 := ((Below.refl _ w).alloc (Nat.le_refl _) (.cells #[.bool h, .int .i64 i, .int .i64 g] 23)).trans (hbb.mono (by simp))
  clear hbb
  have hc0 := hr0.cell
  have hcA := hr0.cellA
  go_wp2_with fail
  refine (B1.out _).mono ?_
  rintro e w2 ⟨rfl, hbb⟩
  have hr0 := (hr0.alloc _).next hbb
  have hr1 := (Row.new w1 #[.bool (!h), .int .i64 i, .int .i64 g] 23).next hbb
  have hb2 := (hb1.alloc hb1.size (.cells #[.bool (!h), .int .i64 i, .int .i64 g] 23)).trans (hbb.mono (by simp; have := hb1.size; omega))
  clear hbb
  clear hc0 hcA
  have hc0 := hr0.cell
  have hcA := hr0.cellA
  have hc1 := hr1.cell
  have hcB := hr1.cellA
  go_wp2_with fail
  refine (B2.out _).mono ?_
  rintro e w3 ⟨rfl, hbb⟩
  have hr0 := (hr0.alloc _).next hbb
  have hr1 := (hr1.alloc _).next hbb
  have hr2 := (Row.new w2 #[.int .i64 a, .int .i64 b] 39).next hbb
  have hb3 := (hb2.alloc hb2.size (.cells #[.int .i64 a, .int .i64 b] 39)).trans (hbb.mono (by simp; have := hb2.size; omega))
  clear hbb
  clear hc0 hcA hc1 hcB
  have hc0 := hr0.cell
  have hcA := hr0.cellA
  go_wp2_with fail
  refine (B3.out _).mono ?_
  rintro e w4 ⟨rfl, hbb⟩
  have hr0 := (hr0.alloc _).next hbb
  have hr1 := (hr1.alloc _).next hbb
  have hr2 := (hr2.alloc _).next hbb
  have hr3 := (Row.new w3 #[.int .i64 (-b), .int .i64 (-a)] 39).next hbb
  have hb4 := (hb3.alloc hb3.size (.cells #[.int .i64 (-b), .int .i64 (-a)] 39)).trans (hbb.mono (by simp; have := hb3.size; omega))
  clear hbb
  clear hc0 hcA
  have hc0 := hr0.cell
  have hc2 := hr2.cell
  have hc3 := hr3.cell
  go_wp2_with fail
  refine (awake_c _).mono ?_
  rintro e w5 ⟨rfl, hbb⟩
  have hb5 := hb4.trans (hbb.mono hb4.size)
  go_wp2
  go_ret
  exact ⟨rfl, hb5⟩

set_option maxHeartbeats 4000000 in
theorem mirrors_five (n : Int) (h : Bool) (g : Int) (w : World) (hd : dE n 5 g = 0) : Calls Tryz.prog 5 #[.int .i64 n, .agg #[.bool h, .int .i64 5, .int .i64 g]] w fun e w' => e = .returned (.bool true) ∧ Below w.heap.size w w' := by
  obtain ⟨⟨n1, n2⟩, ⟨l0, l9⟩, g5, g12⟩ := dE_ok.1 hd
  have hr : rgt n 5 g = true := by unfold rgt; rw [hd]; rfl
  have A1 := fun W => Deviations_ok' n 5 g h W hd
  have A2 := fun W => Deviations_ok' n 5 g (!h) W hd
  have A3 := fun W => Tolerance_ok n g W (zE_ok.2 ⟨n1, n2⟩) g5 g12
  have f1 := (d_flip n 5 g h).1
  have f2 := (d_flip n 5 g h).2
  have f3 := mod_5 (n := n) (g := g) h
  have f4 := d_bd n h 5 g
  rw [f1, f2] at A2
  generalize dLow n h 5 g = a at *
  generalize dHigh n h 5 g = b at *
  generalize tol n g = t at *
  obtain ⟨b1, b2, b3, b4, b5⟩ := f4
  have F3 := Lib.hid f3
  clear f3
  clear f1 f2 hd
  have HR := Lib.hid hr
  have B1 := Lib.hid A1; have B2 := Lib.hid A2; have B3 := Lib.hid A3
  clear hr A1 A2 A3
  go_enter Tryz.func5, Tryz.ntmps5
  go_wp2_with fail
  refine (right_c _ _ _ _ _).mono ?_
  rintro e w1 ⟨rfl, hbb⟩
  rw [HR.out]
  have hr0 := (Row.new w #[.bool h, .int .i64 5, .int .i64 g] 23).next hbb
  have hb1 := ((Below.refl _ w).alloc (Nat.le_refl _) (.cells #[.bool h, .int .i64 5, .int .i64 g] 23)).trans (hbb.mono (by simp))
  clear hbb
  have hc0 := hr0.cell
  have hcA := hr0.cellA
  go_wp2_with fail
  refine (B1.out _).mono ?_
  rintro e w2 ⟨rfl, hbb⟩
  have hr0 := (hr0.alloc _).next hbb
  have hr1 := (Row.new w1 #[.bool (!h), .int .i64 5, .int .i64 g] 23).next hbb
  have hb2 := (hb1.alloc hb1.size (.cells #[.bool (!h), .int .i64 5, .int .i64 g] 23)).trans (hbb.mono (by simp; have := hb1.size; omega))
  clear hbb
  clear hc0 hcA
  have hc0 := hr0.cell
  have hcA := hr0.cellA
  have hc1 := hr1.cell
  have hcB := hr1.cellA
  go_wp2_with fail
  refine (B2.out _).mono ?_
  rintro e w3 ⟨rfl, hbb⟩
  have hr0 := (hr0.alloc _).next hbb
  have hr1 := (hr1.alloc _).next hbb
  have hr2 := (Row.new w2 #[.int .i64 a, .int .i64 b] 39).next hbb
  have hb3 := (hb2.alloc hb2.size (.cells #[.int .i64 a, .int .i64 b] 39)).trans (hbb.mono (by simp; have := hb2.size; omega))
  clear hbb
  clear hc0 hcA hc1 hcB
  have hc0 := hr0.cell
  have hcA := hr0.cellA
  go_wp2_with fail
  refine (B3.out _).mono ?_
  rintro e w4 ⟨rfl, hbb⟩
  have hr0 := (hr0.alloc _).next hbb
  have hr1 := (hr1.alloc _).next hbb
  have hr2 := (hr2.alloc _).next hbb
  have hr3 := (Row.new w3 #[.int .i64 (-b), .int .i64 (-a)] 39).next hbb
  have hb4 := (hb3.alloc hb3.size (.cells #[.int .i64 (-b), .int .i64 (-a)] 39)).trans (hbb.mono (by simp; have := hb3.size; omega))
  clear hbb
  clear hc0 hcA
  have hc0 := hr0.cell
  have hc2 := hr2.cell
  have hc3 := hr3.cell
  obtain ⟨f3a, f3b⟩ := F3.out
  go_wp2_with fail
  refine (awake_c _).mono ?_
  rintro e w5 ⟨rfl, hbb⟩
  have hb5 := hb4.trans (hbb.mono hb4.size)
  go_wp2
  go_ret
  exact ⟨rfl, hb5⟩

set_option maxHeartbeats 4000000 in
theorem mirrors_four (n : Int) (h : Bool) (g : Int) (w : World) (hd : dE n 4 g = 0) : Calls Tryz.prog 5 #[.int .i64 n, .agg #[.bool h, .int .i64 4, .int .i64 g]] w fun e w' => e = .returned (.bool true) ∧ Below w.heap.size w w' := by
  obtain ⟨⟨n1, n2⟩, ⟨l0, l9⟩, g5, g12⟩ := dE_ok.1 hd
  have hr : rgt n 4 g = true := by unfold rgt; rw [hd]; rfl
  have A1 := fun W => Deviations_ok' n 4 g h W hd
  have A2 := fun W => Deviations_ok' n 4 g (!h) W hd
  have A3 := fun W => Tolerance_ok n g W (zE_ok.2 ⟨n1, n2⟩) g5 g12
  have f1 := (d_flip n 4 g h).1
  have f2 := (d_flip n 4 g h).2
  have f3 := mod_w (n := n) (g := g) h (show (4 : Int) ≠ 5 by omega)
  have f6 : (h = true → dLow n h 4 g = 0) ∧ (h = false → dHigh n h 4 g = 0) := ⟨fun e => by subst e; exact mod_4.1, fun e => by subst e; exact mod_4.2⟩
  have f4 := d_bd n h 4 g
  rw [f1, f2] at A2
  generalize dLow n h 4 g = a at *
  generalize dHigh n h 4 g = b at *
  generalize tol n g = t at *
  obtain ⟨b1, b2, b3, b4, b5⟩ := f4
  have F6 := Lib.hid f6
  clear f1 f2 hd f6
  have HR := Lib.hid hr
  have B1 := Lib.hid A1; have B2 := Lib.hid A2; have B3 := Lib.hid A3
  clear hr A1 A2 A3
  go_enter Tryz.func5, Tryz.ntmps5
  go_wp2_with fail
  refine (right_c _ _ _ _ _).mono ?_
  rintro e w1 ⟨rfl, hbb⟩
  rw [HR.out]
  have hr0 := (Row.new w #[.bool h, .int .i64 4, .int .i64 g] 23).next hbb
  have hb1 := ((Below.refl _ w).alloc (Nat.le_refl _) (.cells #[.bool h, .int .i64 4, .int .i64 g] 23)).trans (hbb.mono (by simp))
  clear hbb
  have hc0 := hr0.cell
  have hcA := hr0.cellA
  go_wp2_with fail
  refine (B1.out _).mono ?_
  rintro e w2 ⟨rfl, hbb⟩
  have hr0 := (hr0.alloc _).next hbb
  have hr1 := (Row.new w1 #[.bool (!h), .int .i64 4, .int .i64 g] 23).next hbb
  have hb2 := (hb1.alloc hb1.size (.cells #[.bool (!h), .int .i64 4, .int .i64 g] 23)).trans (hbb.mono (by simp; have := hb1.size; omega))
  clear hbb
  clear hc0 hcA
  have hc0 := hr0.cell
  have hcA := hr0.cellA
  have hc1 := hr1.cell
  have hcB := hr1.cellA
  go_wp2_with fail
  refine (B2.out _).mono ?_
  rintro e w3 ⟨rfl, hbb⟩
  have hr0 := (hr0.alloc _).next hbb
  have hr1 := (hr1.alloc _).next hbb
  have hr2 := (Row.new w2 #[.int .i64 a, .int .i64 b] 39).next hbb
  have hb3 := (hb2.alloc hb2.size (.cells #[.int .i64 a, .int .i64 b] 39)).trans (hbb.mono (by simp; have := hb2.size; omega))
  clear hbb
  clear hc0 hcA hc1 hcB
  have hc0 := hr0.cell
  have hcA := hr0.cellA
  go_wp2_with fail
  refine (B3.out _).mono ?_
  rintro e w4 ⟨rfl, hbb⟩
  have hr0 := (hr0.alloc _).next hbb
  have hr1 := (hr1.alloc _).next hbb
  have hr2 := (hr2.alloc _).next hbb
  have hr3 := (Row.new w3 #[.int .i64 (-b), .int .i64 (-a)] 39).next hbb
  have hb4 := (hb3.alloc hb3.size (.cells #[.int .i64 (-b), .int .i64 (-a)] 39)).trans (hbb.mono (by simp; have := hb3.size; omega))
  clear hbb
  clear hc0 hcA
  have hc0 := hr0.cell
  have hc2 := hr2.cell
  have hc3 := hr3.cell
  have f6 := F6.out
  cases h
  all_goals
    simp at f6
    go_wp2_with fail
    refine (awake_c _).mono ?_
    rintro e w5 ⟨rfl, hbb⟩
    have hb5 := hb4.trans (hbb.mono hb4.size)
    go_wp2
    go_ret
    exact ⟨rfl, hb5⟩

theorem gradesMirrors_c (n : Int) (h : Bool) (l g : Int) (w : World) (_ : (Lit.int .i64 n).wf = true) (_ : (Lit.int .i64 l).wf = true) (_ : (Lit.int .i64 g).wf = true) : Calls Tryz.prog 5 #[.int .i64 n, .agg #[.bool h, .int .i64 l, .int .i64 g]] w fun e w' => e = .returned (.bool true) ∧ Below w.heap.size w w' := by
  by_cases hd : dE n l g = 0
  · obtain ⟨_, ⟨l0, l9⟩, _⟩ := dE_ok.1 hd
    obtain ⟨i, rfl⟩ : ∃ i : Nat, l = (i : Int) := ⟨l.toNat, by omega⟩
    by_cases h5 : i = 5
    · subst h5; exact mirrors_five n h g w hd
    · by_cases h4 : i = 4
      · subst h4; exact mirrors_four n h g w hd
      · exact mirrors_other n h i g w hd h4 h5
  · exact mirrors_out n h l g w (by unfold rgt; simpa using hd)
end Go.Proofs.YteaopiogjlinbaaGreatDoor

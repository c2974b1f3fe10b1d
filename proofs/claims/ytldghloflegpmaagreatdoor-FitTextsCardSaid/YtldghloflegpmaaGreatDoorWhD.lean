/- Contracts of package whole at short numbers: an integer is read into its words. -/
import Derived.Test.YtldghloflegpmaaGreatDoorWhC
namespace Go.Proofs.YtldghloflegpmaaGreatDoor
open Go.RowKit Go.Shelf Pu Go.Lib

/-- The cells of an integer of one word. -/
noncomputable def zW : Array Value := Tryz.zeroCells245.setIfInBounds 0 (.bool false)
noncomputable def wW (n u : Int) : Array Value := (zW.setIfInBounds 2 (.int .i64 u)).setIfInBounds 1 (.int .i64 n)
theorem zW_size : zW.size = 234 := by kernel_rfl
theorem zW_at0 : zW[0]? = some (.bool false) := by kernel_rfl
theorem zW_at1 : zW[1]? = some (.int .i64 0) := by kernel_rfl
theorem zW_at2 : zW[2]? = some (.int .i64 0) := by kernel_rfl
theorem wW_at0 (n u : Int) : (wW n u)[0]? = some (.bool false) := by
  unfold wW
  rw [Array.getElem?_setIfInBounds, if_neg (by omega), Array.getElem?_setIfInBounds, if_neg (by omega)]
  exact zW_at0
theorem wW_at1 (n u : Int) : (wW n u)[1]? = some (.int .i64 n) := by
  unfold wW
  rw [Array.getElem?_setIfInBounds, if_pos rfl, if_pos (by rw [Array.size_setIfInBounds, zW_size]; omega)]
theorem wW_at2 (n u : Int) : (wW n u)[2]? = some (.int .i64 u) := by
  unfold wW
  rw [Array.getElem?_setIfInBounds, if_neg (by omega), Array.getElem?_setIfInBounds, if_pos rfl, if_pos (by rw [zW_size]; omega)]
theorem wW_zero : wW 0 0 = zW := by kernel_rfl
theorem wW_set (n m u : Int) : (wW n u).setIfInBounds 1 (.int .i64 m) = wW m u := by
  unfold wW
  simp
theorem wW_set2 (n u v : Int) : (wW n u).setIfInBounds 2 (.int .i64 v) = wW n v := by
  unfold wW
  apply Array.ext_getElem?
  intro i
  simp only [Array.getElem?_setIfInBounds, Array.size_setIfInBounds]
  by_cases h2 : 2 = i
  · subst h2; simp
  · by_cases h1 : 1 = i
    · subst h1; simp
    · simp [h1, h2]
/-- How many words a short number has. -/
def nW (u : Nat) : Int := if u = 0 then 0 else 1
theorem nW_pos {u : Nat} (h : u ≠ 0) : nW u = 1 := by unfold nW; rw [if_neg h]
theorem nW_zero : nW 0 = 0 := rfl
theorem nW_le (u : Nat) : nW u ≤ 1 := by unfold nW; split <;> omega
/-- An integer of one word, at a block. -/
abbrev Wide (w : World) (B : Nat) (n u : Int) : Prop := Row w B (wW n u) 245
theorem Wide.c0 {w : World} {B : Nat} {n u : Int} (h : Wide w B n u) : w.cell? ⟨B, 0, none⟩ = some (.bool false) := (h.cell 0).trans (wW_at0 n u)
theorem Wide.c1 {w : World} {B : Nat} {n u : Int} (h : Wide w B n u) : w.cell? ⟨B, 1, none⟩ = some (.int .i64 n) := (h.cell 1).trans (wW_at1 n u)
theorem Wide.c2 {w : World} {B : Nat} {n u : Int} (h : Wide w B n u) : w.cell? ⟨B, 2, none⟩ = some (.int .i64 u) := (h.cell 2).trans (wW_at2 n u)
theorem Wide.put1 {w : World} {B : Nat} {n u : Int} (h : Wide w B n u) (m : Int) : Wide (w.setCell ⟨B, 1, none⟩ (.int .i64 m)) B m u := by
  have := h.put 1 (.int .i64 m)
  rw [wW_set] at this
  exact this

theorem Wide.put2 {w : World} {B : Nat} {n u : Int} (h : Wide w B n u) (v : Int) : Wide (w.setCell ⟨B, 2, none⟩ (.int .i64 v)) B n v := by
  have := h.put 2 (.int .i64 v)
  rw [wW_set2] at this
  exact this
set_option maxRecDepth 100000 in
set_option maxHeartbeats 4000000 in
theorem trimmed_c (B u : Nat) (w : World) (h : Wide w B 1 u) :
    Calls Tryz.prog 183 #[.pointer (some ⟨B, 0, none⟩)] w fun e w' => e = .returned (.pointer (some ⟨B, 0, none⟩)) ∧ Wide w' B (nW u) u ∧ Below B w w' := by
  have c1 := h.c1
  have c2 := h.c2
  have f1 := h.frozen
  by_cases hu : u = 0
  · subst hu
    rw [nW_zero]
    go_enter Tryz.func183, Tryz.ntmps183
    go_wp2_with fail
    refine wp_loop_rounds 2 ?_
    rw [rounds_succ]
    go_wp2_with fail
    go_quiet (fail)
    go_wp2_with fail
    have hb2 : Below B w ((w.drewN nq).setCell ⟨B, 1, none⟩ (.int .i64 0)) := (show Below B w (w.drewN nq) from ⟨rfl, rfl, rfl, Nat.le_refl _, fun _ _ => rfl⟩).setCell (Nat.le_refl _) _
    have h2 := (show Wide (w.drewN nq) B 1 ((0 : Nat) : Int) from h).put1 0
    clear c1 c2 f1 h
    generalize (w.drewN nq).setCell ⟨B, 1, none⟩ (.int .i64 0) = w2 at *
    have c1 := h2.c1
    rw [rounds_succ]
    go_wp2_with fail
    go_quiet (fail)
    go_wp2
    go_ret
    exact ⟨rfl, h2, hb2.trans ⟨rfl, rfl, rfl, Nat.le_refl _, fun _ _ => rfl⟩⟩
  · rw [nW_pos hu]
    have hx : ((u : Int) == 0) = false := by simp; omega
    go_enter Tryz.func183, Tryz.ntmps183
    go_wp2_with fail
    refine wp_loop_rounds 2 ?_
    rw [rounds_succ]
    go_wp2_with fail
    go_quiet (fail)
    go_wp2
    go_ret
    exact ⟨rfl, h, ⟨rfl, rfl, rfl, Nat.le_refl _, fun _ _ => rfl⟩⟩

set_option maxRecDepth 100000 in
set_option maxHeartbeats 4000000 in
theorem read_c (s : ByteArray) (u : Nat) (w : World) (hs : Num s u) :
    Calls Tryz.prog 137 #[.string s] w fun e w' => ∃ B, e = .returned (.pointer (some ⟨B, 0, none⟩)) ∧ w.heap.size ≤ B ∧ Wide w' B (nW u) u ∧ Below w.heap.size w w' := by
  have hT := Tryz.strings_TrimPrefix s ⟨#[45]⟩
  rw [show (⟨#[45]⟩ : ByteArray).data.toList = [45] from rfl, hs.pre] at hT
  have hp := hs.pos
  have h9 := hs.short
  have h45 : (((s[0]'hp).toNat : Int) == 45) = false := by
    have := hs.bytes 0 hp
    simp; omega
  have A0 := fun w => Tryz.strconv_Atoi s (u : Int) (by omega) hs.read w
  have A1 := Lib.hid A0
  have HT := Lib.hid hT
  clear hT A0
  go_enter Tryz.func137, Tryz.ntmps137
  go_wp2_with fail
  refine (HT.out _).mono ?_
  rintro e w2 ⟨rfl, rfl⟩
  have hW0 : Wide (w.alloc (.cells (Tryz.zeroCells245.setIfInBounds 0 (.bool false)) 245)) w.heap.size 0 0 := by
    show Row _ _ (wW 0 0) _
    rw [wW_zero]
    exact Row.new w zW _
  have hb0 := (Below.refl _ w).alloc (Nat.le_refl _) (.cells (Tryz.zeroCells245.setIfInBounds 0 (.bool false)) 245)
  obtain ⟨V, hV⟩ : ∃ V, w.alloc (.cells (Tryz.zeroCells245.setIfInBounds 0 (.bool false)) 245) = V := ⟨_, rfl⟩
  rw [hV] at hW0 hb0 ⊢
  clear hV
  have c1 := hW0.c1
  have c2 := hW0.c2
  have f1 := hW0.frozen
  have hp' : (0 : Int) < (s.size : Int) := by omega
  have hmx : max (0 : Int) ((s.size : Int) - 9) = 0 := by omega
  go_wp2_with fail
  refine wp_loop_rounds 2 ?_
  rw [rounds_succ]
  go_wp2_with fail
  have hex : s.extract 0 s.size = s := by
    apply ByteArray.ext
    simp
  go_region_with (go_at_call 82; (try rw [hex]); refine (A1.out _).mono ?_; rintro e w' ⟨rfl, x, hx⟩; have hbb : Below V.drew.heap.size V.drew w' := (by rw [hx]; exact Go.Joins.below_bytesWorld _ _ _ _ (Nat.le_refl _)); have hW1 : Wide w' w.heap.size 0 0 := (Row.drw hW0).next hbb; have c3 := hW1.c1; have c4 := hW1.c2; have f3 := hW1.frozen; clear hx)
  all_goals
    have hW2 := hW1.put2 (u : Int)
    have hb2 : Below w.heap.size w (w'.setCell ⟨w.heap.size, 2, none⟩ (.int .i64 (u : Int))) := (hb0.trans ((Below.refl V.heap.size V).drew.trans hbb |>.mono hb0.size)).setCell (Nat.le_refl _) _
    clear c1 c2 f1 c3 c4 f3 hW0 hW1 hb0 hbb
    generalize w'.setCell ⟨w.heap.size, 2, none⟩ (.int .i64 (u : Int)) = w3 at *
    have c1 := hW2.c1
    have f1 := hW2.frozen
    have hz0 : s.extract 0 0 = ⟨#[]⟩ := by
      apply ByteArray.ext
      simp
    go_wp2_with fail
    have hW3 := hW2.put1 1
    have hb3 := hb2.setCell (p := ⟨w.heap.size, 1, none⟩) (Nat.le_refl _) (.int .i64 1)
    clear c1 f1 hW2 hb2
    generalize w3.setCell ⟨w.heap.size, 1, none⟩ (.int .i64 1) = w4 at *
    rw [rounds_succ]
    go_wp2_with fail
    refine (trimmed_c w.heap.size u _ hW3).mono ?_
    rintro e w5 ⟨rfl, hW5, hb5⟩
    go_wp2
    go_ret
    exact ⟨w.heap.size, rfl, Nat.le_refl _, hW5, hb3.trans hb5⟩
end Go.Proofs.YtldghloflegpmaaGreatDoor

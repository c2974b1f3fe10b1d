/- Contracts of package grades: the deviations of a right class. -/
import Derived.Test.YtldghloflegpmaaGreatDoorGrD
import Derived.Shelf.Abstract
namespace Go.Proofs.YtldghloflegpmaaGreatDoor
open Go.RowKit Pu Go.Lib

theorem bcell {W w1 : World} (hb : Below W.heap.size W w1) : (∀ b o, b < W.heap.size → w1.cell? ⟨b, o, none⟩ = W.cell? ⟨b, o, none⟩) ∧ (∀ b o, b < W.heap.size → w1.frozen? ⟨b, o, none⟩ = W.frozen? ⟨b, o, none⟩) :=
  ⟨fun b o h => hb.cell (p := ⟨b, o, none⟩) h, fun b o h => hb.frozen (p := ⟨b, o, none⟩) h⟩

theorem allocAfter {W w' : World} {n : Nat} {a b : Value} {T : TypeId} (hn : W.heap.size = n) (hbb : Below W.drew.heap.size W.drew w') :
    ∃ c : Nat, Value.pointer (some ⟨w'.heap.size, 0, none⟩) = .pointer (some ⟨c, 0, none⟩) ∧ n ≤ c ∧ c < (w'.alloc (.cells #[a, b] T)).heap.size ∧
      (w'.alloc (.cells #[a, b] T)).cell? ⟨c, 0, none⟩ = some a ∧ (w'.alloc (.cells #[a, b] T)).cell? ⟨c, 1, none⟩ = some b ∧
      Below W.heap.size W (w'.alloc (.cells #[a, b] T)) := by
  subst hn
  have hs := hbb.size
  simp only [World.size_drew] at hs
  exact ⟨w'.heap.size, rfl, hs, by simp, by simp, by simp, ((Below.refl _ W).drew.trans hbb).alloc hs _⟩
theorem afterAlloc {W w' : World} {n : Nat} {a a0 b b0 : Value} {T : TypeId} (hn : W.heap.size = n) (hbb : Below (W.alloc (.cells #[a0, b0] T)).drew.heap.size (W.alloc (.cells #[a0, b0] T)).drew w') :
    ∃ c : Nat, Value.pointer (some ⟨n, 0, none⟩) = .pointer (some ⟨c, 0, none⟩) ∧ n ≤ c ∧ c < ((w'.setCell ⟨n, 0, none⟩ a).setCell ⟨n, 1, none⟩ b).heap.size ∧
      ((w'.setCell ⟨n, 0, none⟩ a).setCell ⟨n, 1, none⟩ b).cell? ⟨c, 0, none⟩ = some a ∧ ((w'.setCell ⟨n, 0, none⟩ a).setCell ⟨n, 1, none⟩ b).cell? ⟨c, 1, none⟩ = some b ∧
      Below W.heap.size W ((w'.setCell ⟨n, 0, none⟩ a).setCell ⟨n, 1, none⟩ b) := by
  subst hn
  have hs := hbb.size
  simp only [World.size_drew, World.size_alloc] at hs
  have k0 : w'.cell? ⟨W.heap.size, 0, none⟩ = some a0 := (hbb.cell (p := ⟨W.heap.size, 0, none⟩) (by simp)).trans (by simp)
  have k1 : w'.cell? ⟨W.heap.size, 1, none⟩ = some b0 := (hbb.cell (p := ⟨W.heap.size, 1, none⟩) (by simp)).trans (by simp)
  refine ⟨W.heap.size, rfl, Nat.le_refl _, by simp; omega, ?_, ?_, ?_⟩
  · exact (World.cell?_setCell_other _ _ _ _ (by simp)).trans (World.cell?_setCell_same' _ _ _ (by simp [k0]))
  · exact World.cell?_setCell_same' _ _ _ (by rw [World.cell?_setCell_other _ _ _ _ (by simp)]; simp [k1])
  · exact ((((Below.refl _ W).alloc (Nat.le_refl _) _).drew.trans (hbb.mono (by simp))).setCell (Nat.le_refl _) _).setCell (Nat.le_refl _) _

theorem sh_run (n : Int) (i : Nat) : IntKind.i64.wrap (bas (stp n) * shf i) = bas (stp n) * shf i ∧ IntKind.i64.wrap ((bas (stp n) * shf i).tdiv 10) = sh n i := by
  have h := bh_bd n i
  have e : bas (stp n) * shf i = bs n * shf i := rfl
  rw [e]
  have hd : (bs n * shf i).tdiv 10 = (bs n * shf i) / 10 := Int.tdiv_eq_ediv_of_nonneg (by omega)
  have ht : sh n i = (bs n * shf i) / 10 := by unfold sh; rw [Int.toNat_natCast]
  refine ⟨IntWalk.i64_in _ (by omega), ?_⟩
  rw [hd, ht]
  exact IntWalk.i64_in _ (by omega)

theorem rule_enters (i : Nat) (args : Array Value) (w : World) : (callFunc (ruleF i) args).run Tryz.prog w = .ok (.enter (ruleF i) args) w := by
  unfold ruleF
  split
  · exact Go.Proofs.enters_of Tryz.func108 (by kernel_rfl) rfl args w
  · split
    · exact Go.Proofs.enters_of Tryz.func109 (by kernel_rfl) rfl args w
    · exact Go.Proofs.enters_of Tryz.func110 (by kernel_rfl) rfl args w
theorem rule_c (i : Nat) (t s : Int) (w : World) (h0 : 0 ≤ t) (h1 : t ≤ 1000) (h2 : 0 ≤ s) (h3 : s ≤ 1000) : Calls Tryz.prog (ruleF i) #[.int .i64 t, .int .i64 s] w fun e w' => e = .returned (.agg #[.int .i64 (rLow i t s), .int .i64 (rHigh i t s)]) ∧ Below w.heap.size w w' := by
  unfold ruleF rLow rHigh
  split
  · exact below_c t s w h0 h1 h2 h3
  · split
    · exact around_c t s w h0 h1
    · exact above_c t s w h0 h1 h2 h3
theorem cell_call {wx wy : World} {p : Addr} {v : Value} (hb : Below wx.heap.size wx wy) (h : wx.cell? p = some v) : wy.cell? p = some v := (hb.cell (World.block_lt_of_cell? _ _ h)).trans h
theorem cell_alloc {wx : World} {o : Obj} {p : Addr} {v : Value} (h : wx.cell? p = some v) : (wx.alloc o).cell? p = some v := (World.cell?_alloc_lt _ _ _ (World.block_lt_of_cell? _ _ h)).trans h
theorem keep_call {wc wx wy : World} {p q r : Addr} {u v x : Value} (h : wx.cell? p = some u ∧ wx.cell? q = some v ∧ wx.cell? r = some x ∧ Below wc.heap.size wc wx) (hb : Below wx.heap.size wx wy) :
    wy.cell? p = some u ∧ wy.cell? q = some v ∧ wy.cell? r = some x ∧ Below wc.heap.size wc wy := ⟨cell_call hb h.1, cell_call hb h.2.1, cell_call hb h.2.2.1, bt h.2.2.2 hb⟩
theorem keep_alloc {wc wx : World} {o : Obj} {p q r : Addr} {u v x : Value} (h : wx.cell? p = some u ∧ wx.cell? q = some v ∧ wx.cell? r = some x ∧ Below wc.heap.size wc wx) :
    (wx.alloc o).cell? p = some u ∧ (wx.alloc o).cell? q = some v ∧ (wx.alloc o).cell? r = some x ∧ Below wc.heap.size wc (wx.alloc o) := ⟨cell_alloc h.1, cell_alloc h.2.1, cell_alloc h.2.2.1, h.2.2.2.alloc h.2.2.2.size _⟩

theorem keep_adrew {wc wx : World} {o : Obj} {p q r : Addr} {u v x : Value} (h : wx.drew.cell? p = some u ∧ wx.drew.cell? q = some v ∧ wx.drew.cell? r = some x ∧ Below wc.heap.size wc wx.drew) :
    (wx.alloc o).drew.cell? p = some u ∧ (wx.alloc o).drew.cell? q = some v ∧ (wx.alloc o).drew.cell? r = some x ∧ Below wc.heap.size wc (wx.alloc o).drew := keep_alloc (wx := wx.drew) (o := o) h
theorem keep_set {wc wx : World} {k : Nat} {a a' : Value} {p q r : Addr} {u v x : Value} (hp : p.block < wc.heap.size) (hq : q.block < wc.heap.size) (hr : r.block < wc.heap.size) (hk : wc.heap.size ≤ k) (h : wx.cell? p = some u ∧ wx.cell? q = some v ∧ wx.cell? r = some x ∧ Below wc.heap.size wc wx) :
    ((wx.setCell ⟨k, 0, none⟩ a).setCell ⟨k, 1, none⟩ a').cell? p = some u ∧ ((wx.setCell ⟨k, 0, none⟩ a).setCell ⟨k, 1, none⟩ a').cell? q = some v ∧ ((wx.setCell ⟨k, 0, none⟩ a).setCell ⟨k, 1, none⟩ a').cell? r = some x ∧ Below wc.heap.size wc ((wx.setCell ⟨k, 0, none⟩ a).setCell ⟨k, 1, none⟩ a') := by
  have far : ∀ {t : Addr} {y : Value}, t.block < wc.heap.size → wx.cell? t = some y → ((wx.setCell ⟨k, 0, none⟩ a).setCell ⟨k, 1, none⟩ a').cell? t = some y := fun {t y} ht hy => by
    rw [World.cell?_setCell_far _ _ _ _ (by show k ≠ t.block; omega), World.cell?_setCell_far _ _ _ _ (by show k ≠ t.block; omega)]; exact hy
  exact ⟨far hp h.1, far hq h.2.1, far hr h.2.2.1, (h.2.2.2.setCell hk _).setCell hk _⟩

/-- A block of two zeros that the call itself has laid. -/
def Fresh (wx : World) (k : Nat) : Prop := wx.cell? ⟨k, 0, none⟩ = some (.int .i64 0) ∧ wx.cell? ⟨k, 1, none⟩ = some (.int .i64 0) ∧ wx.frozen? ⟨k, 0, none⟩ = false ∧ wx.frozen? ⟨k, 1, none⟩ = false
theorem fresh_open {wx : World} {k : Nat} (h : Fresh wx k) : wx.cell? ⟨k, 0, none⟩ = some (.int .i64 0) ∧ wx.cell? ⟨k, 1, none⟩ = some (.int .i64 0) ∧ wx.frozen? ⟨k, 0, none⟩ = false ∧ wx.frozen? ⟨k, 1, none⟩ = false := h
theorem fresh_next {wx wy : World} {k : Nat} (hb : Below wx.heap.size wx wy) (h : Fresh wx k) : Fresh wy k := by
  have hk : k < wx.heap.size := World.block_lt_of_cell? _ _ h.1
  exact ⟨cell_call hb h.1, cell_call hb h.2.1, (hb.frozen (p := ⟨k, 0, none⟩) hk).trans h.2.2.1, (hb.frozen (p := ⟨k, 1, none⟩) hk).trans h.2.2.2⟩
theorem fresh_new {X wy : World} {T : TypeId} (hb : Below (X.alloc (.cells #[.int .i64 0, .int .i64 0] T)).heap.size (X.alloc (.cells #[.int .i64 0, .int .i64 0] T)) wy) : Fresh wy X.heap.size :=
  fresh_next hb ⟨by simp, by simp, by simp, by simp⟩
theorem fresh_drew {X wy : World} {T : TypeId} (hb : Below (X.alloc (.cells #[.int .i64 0, .int .i64 0] T)).drew.heap.size (X.alloc (.cells #[.int .i64 0, .int .i64 0] T)).drew wy) : Fresh wy X.heap.size :=
  fresh_next hb ⟨by simp, by simp, by simp, by simp⟩

theorem dev_alloc {V w' : World} {n : Nat} {a b : Value} {T : TypeId} (hn : n ≤ V.heap.size) (h : Below V.heap.size V w') :
    ∃ c : Nat, Value.pointer (some ⟨w'.heap.size, 0, none⟩) = .pointer (some ⟨c, 0, none⟩) ∧ n ≤ c ∧ c < (w'.alloc (.cells #[a, b] T)).heap.size ∧
      (w'.alloc (.cells #[a, b] T)).cell? ⟨c, 0, none⟩ = some a ∧ (w'.alloc (.cells #[a, b] T)).cell? ⟨c, 1, none⟩ = some b ∧ Below V.heap.size V (w'.alloc (.cells #[a, b] T)) :=
  ⟨w'.heap.size, rfl, Nat.le_trans hn h.size, by simp, by simp, by simp, h.alloc h.size _⟩
theorem dev_set {V w' : World} {n k : Nat} {a b : Value} (hn : n ≤ V.heap.size) (hk : V.heap.size ≤ k) (hF : Fresh w' k) (h : Below V.heap.size V w') :
    ∃ c : Nat, Value.pointer (some ⟨k, 0, none⟩) = .pointer (some ⟨c, 0, none⟩) ∧ n ≤ c ∧ c < ((w'.setCell ⟨k, 0, none⟩ a).setCell ⟨k, 1, none⟩ b).heap.size ∧
      ((w'.setCell ⟨k, 0, none⟩ a).setCell ⟨k, 1, none⟩ b).cell? ⟨c, 0, none⟩ = some a ∧ ((w'.setCell ⟨k, 0, none⟩ a).setCell ⟨k, 1, none⟩ b).cell? ⟨c, 1, none⟩ = some b ∧
      Below V.heap.size V ((w'.setCell ⟨k, 0, none⟩ a).setCell ⟨k, 1, none⟩ b) := by
  have hlt : k < w'.heap.size := World.block_lt_of_cell? _ _ hF.1
  refine ⟨k, rfl, Nat.le_trans hn hk, by simpa using hlt, ?_, ?_, (h.setCell hk _).setCell hk _⟩
  · exact (World.cell?_setCell_other _ _ _ _ (by simp)).trans (World.cell?_setCell_same' _ _ _ (by simp [hF.1]))
  · exact World.cell?_setCell_same' _ _ _ (by rw [World.cell?_setCell_other _ _ _ _ (by simp)]; simp [hF.2.1])
theorem rule_is (n : Int) (i : Nat) (g : Int) : rLow i (tol n g) (sh n i) = sLow n i g ∧ rHigh i (tol n g) (sh n i) = sHigh n i g := by
  unfold rLow rHigh sLow sHigh
  by_cases h1 : i < 5
  · rw [if_pos h1, if_pos h1, if_neg (by omega), if_pos (by omega), if_neg (by omega), if_pos (by omega)]; exact ⟨rfl, rfl⟩
  · by_cases h2 : i = 5
    · rw [if_neg h1, if_pos h2, if_neg h1, if_pos h2, if_pos (by omega), if_pos (by omega)]; exact ⟨rfl, rfl⟩
    · rw [if_neg h1, if_neg h2, if_neg h1, if_neg h2, if_neg (by omega), if_neg (by omega), if_neg (by omega), if_neg (by omega)]; exact ⟨rfl, rfl⟩

set_option maxRecDepth 100000 in
set_option maxHeartbeats 4000000 in
theorem deviations_c (n l g : Int) (h : Bool) (w : World) (hn : n ≤ 100000) (h5 : 5 ≤ g) (h12 : g ≤ 12) (hl0 : 0 ≤ l) (hl9 : l ≤ 9) :
    Calls Tryz.prog 41 #[.int .i64 n, .agg #[.bool h, .int .i64 l, .int .i64 g]] w fun e w' => e = .returned (.agg #[.int .i64 (dLow n h l g), .int .i64 (dHigh n h l g)]) ∧ Below w.heap.size w w' := by
  obtain ⟨i, rfl⟩ : ∃ i : Nat, l = (i : Int) := ⟨l.toNat, by omega⟩
  have hi : i < 10 := by omega
  have ha := letters_at i hi
  go_enter Tryz.func41, Tryz.ntmps41
  go_upto_region 1 with fail
  obtain ⟨W2, hW2⟩ : ∃ W2, (w.alloc (.cells #[.bool h, .int .i64 i, .int .i64 g] 40)).alloc (.cells #[.int .i64 0, .int .i64 0] 23) = W2 := ⟨_, rfl⟩
  rw [hW2]
  have z2 : W2.heap.size = w.heap.size + 2 := by rw [← hW2]; simp
  have b2 : Below w.heap.size w W2 := by rw [← hW2]; exact ((Below.refl _ _).alloc (Nat.le_refl _) _).alloc (by simp) _
  have c0 : W2.cell? ⟨w.heap.size, 0, none⟩ = some (.bool h) := by rw [← hW2]; simp
  have c1 : W2.cell? ⟨w.heap.size, 1, none⟩ = some (.int .i64 i) := by rw [← hW2]; simp
  have c2 : W2.cell? ⟨w.heap.size, 2, none⟩ = some (.int .i64 g) := by rw [← hW2]; simp
  have r0 : W2.cell? ⟨w.heap.size + 1, 0, none⟩ = some (.int .i64 0) := by rw [← hW2]; simp
  have r1 : W2.cell? ⟨w.heap.size + 1, 1, none⟩ = some (.int .i64 0) := by rw [← hW2]; simp
  have f0 : W2.frozen? ⟨w.heap.size + 1, 0, none⟩ = false := by rw [← hW2]; simp
  have f1 : W2.frozen? ⟨w.heap.size + 1, 1, none⟩ = false := by rw [← hW2]; simp
  clear hW2
  go_cut [5] (fun s5 wx => ∃ b : Nat, s5 = .pointer (some ⟨b, 0, none⟩) ∧ w.heap.size + 2 ≤ b ∧ b < wx.heap.size ∧ wx.cell? ⟨b, 0, none⟩ = some (.int .i64 (shf i)) ∧ wx.cell? ⟨b, 1, none⟩ = some (.func (.func (ruleF i)) #[] #[]) ∧ Below W2.heap.size W2 wx)
  case first =>
    go_region_held3 (fun w' => w'.cell? ⟨w.heap.size, 1, none⟩ = some (.int .i64 i)) (first | go_keep | assumption)
      (first | (go_at_call 73; refine (letters_c _).mono ?_; rintro e w' ⟨rfl, hbb⟩; obtain ⟨hq1, hq2⟩ := bcell hbb; have hq3 := hbb.size; have hq4 := (hbb.cell (p := ⟨w.heap.size, 1, none⟩) (by simp; omega)).trans ‹_›))
    all_goals (go_wp2_with fail; go_meet)
    all_goals simp only [World.size_drew, World.size_alloc] at hq3
    all_goals first
      | exact allocAfter z2 hbb
      | exact afterAlloc z2 hbb
  case rest =>
    obtain ⟨b, rfl, hb1, hb2, e0, e1, hbw⟩ := hcut
    obtain ⟨V, rfl⟩ : ∃ V, V = wc := ⟨_, rfl⟩
    have d0 := (hbw.cell (p := ⟨w.heap.size, 0, none⟩) (by simp; omega)).trans c0
    have d2 := (hbw.cell (p := ⟨w.heap.size, 2, none⟩) (by simp; omega)).trans c2
    have s0 := (hbw.cell (p := ⟨w.heap.size + 1, 0, none⟩) (by simp; omega)).trans r0
    have s1 := (hbw.cell (p := ⟨w.heap.size + 1, 1, none⟩) (by simp; omega)).trans r1
    have g0 := (hbw.frozen (p := ⟨w.heap.size + 1, 0, none⟩) (by simp; omega)).trans f0
    have g1 := (hbw.frozen (p := ⟨w.heap.size + 1, 1, none⟩) (by simp; omega)).trans f1
    have b3 := b2.trans (hbw.mono b2.size)
    clear c0 c1 c2 r0 r1 f0 f1 hbw b2 z2 W2
    have h1 := steps_at (stp n) (stp_lt n)
    have h3 := step_base (most (stp n)) (bas (stp n))
    have hs := sh_run n i
    obtain ⟨k1, k2⟩ := hs
    go_upto_region 2 with fail
    go_cut [6] (fun s6 wx => ∃ b : Nat, s6 = .pointer (some ⟨b, 0, none⟩) ∧ w.heap.size + 2 ≤ b ∧ b < wx.heap.size ∧ wx.cell? ⟨b, 0, none⟩ = some (.int .i64 (rLow i (tol n g) (sh n i))) ∧ wx.cell? ⟨b, 1, none⟩ = some (.int .i64 (rHigh i (tol n g) (sh n i))) ∧ Below V.heap.size V wx)
    case first =>
      have heg := rule_enters i
      have hru := rule_c i (tol n g) (sh n i)
      have ht := tol_bd n g
      have hsb := sh_bd n i
      have HR := Lib.hid hru
      clear hru
      go_region_held3 (fun w' => w'.cell? ⟨b, 0, none⟩ = some (.int .i64 (shf i)) ∧ w'.cell? ⟨b, 1, none⟩ = some (.func (.func (ruleF i)) #[] #[]) ∧ w'.cell? ⟨w.heap.size, 2, none⟩ = some (.int .i64 g) ∧ Below V.heap.size V w')
        (first | exact ⟨by simpa using e0, by simpa using e1, by simpa using d2, (Below.refl _ _).drew⟩ | assumption | (refine keep_alloc ?_; assumption) | (refine keep_adrew ?_; assumption) | (refine keep_set hb2 hb2 (by show w.heap.size < V.heap.size; omega) (by omega) ?_; assumption))
        (first | (go_at_call 45; refine (tolerance_c _ _ _ hn h5 h12).mono ?_; rintro e w' ⟨rfl, hbb⟩; have hS5 := keep_call (by assumption) hbb; have hS6 := hS5.2.2.2.size; (first | (have hFr := fresh_new hbb; have hz0 := hFr.1; have hz1 := hFr.2.1; have hz2 := hFr.2.2.1; have hz3 := hFr.2.2.2) | (have hFr := fresh_drew hbb; have hz0 := hFr.1; have hz1 := hFr.2.1; have hz2 := hFr.2.2.1; have hz3 := hFr.2.2.2) | (have hFr := fresh_next hbb hFr; have hz0 := hFr.1; have hz1 := hFr.2.1; have hz2 := hFr.2.2.1; have hz3 := hFr.2.2.2) | skip)) | (go_at_call 74; refine (steps_c _).mono ?_; rintro e w' ⟨rfl, hbb⟩; have hS5 := keep_call (by assumption) hbb; have hS6 := hS5.2.2.2.size; (first | (have hFr := fresh_new hbb; have hz0 := hFr.1; have hz1 := hFr.2.1; have hz2 := hFr.2.2.1; have hz3 := hFr.2.2.2) | (have hFr := fresh_drew hbb; have hz0 := hFr.1; have hz1 := hFr.2.1; have hz2 := hFr.2.2.1; have hz3 := hFr.2.2.2) | (have hFr := fresh_next hbb hFr; have hz0 := hFr.1; have hz1 := hFr.2.1; have hz2 := hFr.2.2.1; have hz3 := hFr.2.2.2) | skip)) | (go_at_call 75; refine (index_c _ _ hn).mono ?_; rintro e w' ⟨rfl, hbb⟩; have hS5 := keep_call (by assumption) hbb; have hS6 := hS5.2.2.2.size; (first | (have hFr := fresh_new hbb; have hz0 := hFr.1; have hz1 := hFr.2.1; have hz2 := hFr.2.2.1; have hz3 := hFr.2.2.2) | (have hFr := fresh_drew hbb; have hz0 := hFr.1; have hz1 := hFr.2.1; have hz2 := hFr.2.2.1; have hz3 := hFr.2.2.2) | (have hFr := fresh_next hbb hFr; have hz0 := hFr.1; have hz1 := hFr.2.1; have hz2 := hFr.2.2.1; have hz3 := hFr.2.2.2) | skip)) | (refine (HR.out _ (by omega) (by omega) (by omega) (by omega)).mono ?_; rintro e w' ⟨rfl, hbb⟩; have hS5 := keep_call (by assumption) hbb; have hS6 := hS5.2.2.2.size; (first | (have hFr := fresh_new hbb; have hz0 := hFr.1; have hz1 := hFr.2.1; have hz2 := hFr.2.2.1; have hz3 := hFr.2.2.2) | (have hFr := fresh_drew hbb; have hz0 := hFr.1; have hz1 := hFr.2.1; have hz2 := hFr.2.2.1; have hz3 := hFr.2.2.2) | (have hFr := fresh_next hbb hFr; have hz0 := hFr.1; have hz1 := hFr.2.1; have hz2 := hFr.2.2.1; have hz3 := hFr.2.2.2) | skip)))
      all_goals (go_wp2_with fail; go_meet)
      all_goals first
        | exact dev_alloc (by omega) hS5.2.2.2
        | exact dev_set (by omega) (by omega) hFr hS5.2.2.2
    case rest =>
      obtain ⟨b6, rfl, hb61, hb62, q0, q1, hbw⟩ := hcut
      obtain ⟨U, rfl⟩ : ∃ U, U = wc := ⟨_, rfl⟩
      have n0 := (hbw.cell (p := ⟨w.heap.size, 0, none⟩) (by show w.heap.size < V.heap.size; omega)).trans d0
      have t0 := (hbw.cell (p := ⟨w.heap.size + 1, 0, none⟩) (by show w.heap.size + 1 < V.heap.size; omega)).trans s0
      have t1 := (hbw.cell (p := ⟨w.heap.size + 1, 1, none⟩) (by show w.heap.size + 1 < V.heap.size; omega)).trans s1
      have f0 := (hbw.frozen (p := ⟨w.heap.size + 1, 0, none⟩) (by show w.heap.size + 1 < V.heap.size; omega)).trans g0
      have f1 := (hbw.frozen (p := ⟨w.heap.size + 1, 1, none⟩) (by show w.heap.size + 1 < V.heap.size; omega)).trans g1
      have b4 := b3.trans (hbw.mono b3.size)
      clear e0 e1 d0 d2 s0 s1 g0 g1 h1 h3 k1 k2 ha hbw b3
      have hr := rule_is n i g
      rw [hr.1] at q0
      rw [hr.2] at q1
      have hb := s_bd n i g
      clear hr
      cases h
      · go_wp2
        exact bodyPost_ret (v := .agg #[.int .i64 (sLow n i g), .int .i64 (sHigh n i g)]) (by simp [results, Tryz.results41, go_sem, t0, t1]) rfl ⟨by simp [dLow, dHigh], (b4.setCell (by simp) _).setCell (by simp) _⟩
      · go_wp2
        exact bodyPost_ret (v := .agg #[.int .i64 (-sHigh n i g), .int .i64 (-sLow n i g)]) (by simp [results, Tryz.results41, go_sem, t0, t1]) rfl ⟨by simp [dLow, dHigh], (b4.setCell (by simp) _).setCell (by simp) _⟩
end Go.Proofs.YtldghloflegpmaaGreatDoor

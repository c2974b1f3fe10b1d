/- Contracts of package dimension: limits inside others. -/
import Derived.Test.YtldghloflegpmaaFtA
namespace Go.Proofs.Ytldghloflegpmaa
open Go.RowKit Pu Go.Lib

set_option maxHeartbeats 1000000 in
theorem ranged_yes (n : Int) (w : World) (h1 : -100000 ≤ n) (h2 : n ≤ 100000) : Calls Try.prog 31 #[.int .i64 n] w fun e w' => e = .returned (.bool true) ∧ w = w' := by
  go_enter Try.func31, Try.ntmps31
  go_wp2
  go_ret
  exact ⟨rfl, rfl⟩

/-- Right limits. -/
def limE (a b : Int) : Int := if (-100000 ≤ a ∧ a ≤ 100000) ∧ (-100000 ≤ b ∧ b ≤ 100000) then (if b < a then 9 else 0) else 2

set_option maxHeartbeats 1000000 in
theorem dcheck_ok (a b : Int) (w : World) (h1 : -100000 ≤ a) (h2 : a ≤ b) (h3 : b ≤ 100000) : Calls Try.prog 27 #[.agg #[.int .i64 a, .int .i64 b]] w fun e w' => e = .returned (.int .i64 0) ∧ Below w.heap.size w w' := by
  have h4 : a ≤ 100000 := by omega
  have h5 : -100000 ≤ b := by omega
  have h6 : ¬ b < a := by omega
  go_enter Try.func27, Try.ntmps27
  go_wp2_with fail
  refine (ranged_yes _ _ h1 h4).mono ?_
  rintro e w' ⟨rfl, rfl⟩
  go_wp2_with fail
  refine (ranged_yes _ _ h5 h3).mono ?_
  rintro e w' ⟨rfl, rfl⟩
  go_wp2
  go_ret
  exact ⟨rfl, (Below.refl _ w).alloc (Nat.le_refl _) _⟩

set_option maxHeartbeats 1000000 in
theorem dlimits_c (a b : Int) (w : World) : Calls Try.prog 20 #[.agg #[.int .i64 a, .int .i64 b]] w
    fun e w' => e = .returned (.func (.func 26) #[] #[.pointer (some ⟨w.heap.size, 0, none⟩)]) ∧ w.alloc (.cells #[.int .i64 a, .int .i64 b] 23) = w' := by
  go_enter Try.func20, Try.ntmps20
  go_wp2
  go_ret
  exact ⟨rfl, rfl⟩

set_option maxHeartbeats 1000000 in
theorem dlimits1_ok (a b : Int) (B : Nat) (w : World) (hc0 : w.cell? ⟨B, 0, none⟩ = some (.int .i64 a)) (hc1 : w.cell? ⟨B, 1, none⟩ = some (.int .i64 b)) (h1 : -100000 ≤ a) (h2 : a ≤ b) (h3 : b ≤ 100000) :
    Calls Try.prog 26 #[.pointer (some ⟨B, 0, none⟩)] w fun e w' => e = .returned (.int .i64 0) ∧ Below w.heap.size w w' := by
  go_enter Try.func26, Try.ntmps26
  go_wp2_with fail
  refine (dcheck_ok _ _ _ h1 h2 h3).mono ?_
  rintro e w' ⟨rfl, hb⟩
  go_wp2
  go_ret
  exact ⟨rfl, hb⟩

set_option maxHeartbeats 2000000 in
theorem dfirst_ok (a b c d : Int) (A B S : Nat) (w : World)
    (ha0 : w.cell? ⟨A, 0, none⟩ = some (.int .i64 a)) (ha1 : w.cell? ⟨A, 1, none⟩ = some (.int .i64 b)) (hb0 : w.cell? ⟨B, 0, none⟩ = some (.int .i64 c)) (hb1 : w.cell? ⟨B, 1, none⟩ = some (.int .i64 d))
    (hs0 : w.cell? ⟨S, 0, none⟩ = some (.func (.func 26) #[] #[.pointer (some ⟨A, 0, none⟩)])) (hs1 : w.cell? ⟨S, 1, none⟩ = some (.func (.func 26) #[] #[.pointer (some ⟨B, 0, none⟩)]))
    (h1 : -100000 ≤ a) (h2 : a ≤ b) (h3 : b ≤ 100000) (h4 : -100000 ≤ c) (h5 : c ≤ d) (h6 : d ≤ 100000) :
    Calls Try.prog 19 #[.slice (some ⟨S, 0, none⟩) 2 2] w fun e w' => e = .returned (.int .i64 0) ∧ Below w.heap.size w w' := by
  go_enter Try.func19, Try.ntmps19
  go_wp2_with fail
  refine wp_loop_rounds 3 ?_
  rw [rounds_succ]
  go_wp2_with fail
  refine (dlimits1_ok a b A _ ha0 ha1 h1 h2 h3).mono ?_
  rintro e w2 ⟨rfl, hb2⟩
  have hs1' := cell_call hb2 hs1
  have hb0' := cell_call hb2 hb0
  have hb1' := cell_call hb2 hb1
  clear ha0 ha1 hb0 hb1 hs0 hs1
  go_wp2_with fail
  rw [rounds_succ]
  go_wp2_with fail
  refine (dlimits1_ok c d B _ hb0' hb1' h4 h5 h6).mono ?_
  rintro e w3 ⟨rfl, hb3⟩
  clear hs1' hb0' hb1'
  go_wp2_with fail
  rw [rounds_succ]
  go_wp2
  go_ret
  exact ⟨rfl, bt hb2 hb3⟩

theorem Row.drew' {w : World} {b : Nat} {cs : Array Value} {T : TypeId} (h : Row w b cs T) : Row w.drew b cs T := h
theorem rows3 (V : World) (A B S : Array Value) (TA TB TS : TypeId) : (∀ j, (((V.alloc (.cells A TA)).alloc (.cells B TB)).alloc (.cells S TS)).drew.cell? ⟨V.heap.size, j, none⟩ = A[j]?) ∧
    (∀ j, (((V.alloc (.cells A TA)).alloc (.cells B TB)).alloc (.cells S TS)).drew.cell? ⟨V.heap.size + 1, j, none⟩ = B[j]?) ∧ (∀ j, (((V.alloc (.cells A TA)).alloc (.cells B TB)).alloc (.cells S TS)).drew.cell? ⟨V.heap.size + 1 + 1, j, none⟩ = S[j]?) := by
  refine ⟨fun j => (((Row.new V A TA).alloc _).alloc _).drew'.cell j, fun j => ?_, fun j => ?_⟩
  · have h := ((Row.new (V.alloc (.cells A TA)) B TB).alloc (.cells S TS)).drew'.cell j
    simpa using h
  · have h := (Row.new ((V.alloc (.cells A TA)).alloc (.cells B TB)) S TS).drew'.cell j
    simpa using h
theorem k4_adrew {wx : World} {o : Obj} {p q r s : Addr} {u v x y : Value} (h : wx.drew.cell? p = some u ∧ wx.drew.cell? q = some v ∧ wx.drew.cell? r = some x ∧ wx.drew.cell? s = some y) :
    (wx.alloc o).drew.cell? p = some u ∧ (wx.alloc o).drew.cell? q = some v ∧ (wx.alloc o).drew.cell? r = some x ∧ (wx.alloc o).drew.cell? s = some y :=
  ⟨cell_alloc (wx := wx.drew) h.1, cell_alloc (wx := wx.drew) h.2.1, cell_alloc (wx := wx.drew) h.2.2.1, cell_alloc (wx := wx.drew) h.2.2.2⟩
theorem k4_call {wx wy : World} {p q r s : Addr} {u v x y : Value} (h : wx.cell? p = some u ∧ wx.cell? q = some v ∧ wx.cell? r = some x ∧ wx.cell? s = some y) (hb : Below wx.heap.size wx wy) :
    wy.cell? p = some u ∧ wy.cell? q = some v ∧ wy.cell? r = some x ∧ wy.cell? s = some y :=
  ⟨cell_call hb h.1, cell_call hb h.2.1, cell_call hb h.2.2.1, cell_call hb h.2.2.2⟩

set_option maxRecDepth 100000 in
set_option maxHeartbeats 4000000 in
theorem Inside_ok (a b c d : Int) (w : World) (h1 : -100000 ≤ a) (h2 : a ≤ b) (h3 : b ≤ 100000) (h4 : -100000 ≤ c) (h5 : c ≤ d) (h6 : d ≤ 100000) (hac : c ≤ a) (hbd : b ≤ d) :
    Calls Try.prog 10 #[.agg #[.int .i64 a, .int .i64 b], .agg #[.int .i64 c, .int .i64 d]] w fun e w' => e = .returned (.tuple #[.bool true, .int .i64 0]) ∧ Below w.heap.size w w' := by
  go_enter Try.func10, Try.ntmps10
  go_wp2_with fail
  obtain ⟨V, hV⟩ : ∃ V, (w.alloc (.cells #[.int .i64 a, .int .i64 b] 23)).alloc (.cells #[.int .i64 c, .int .i64 d] 23) = V := ⟨_, rfl⟩
  have e0 : V.cell? ⟨w.heap.size, 0, none⟩ = some (.int .i64 a) := by rw [← hV]; simp
  have e1 : V.cell? ⟨w.heap.size, 1, none⟩ = some (.int .i64 b) := by rw [← hV]; simp
  have e2 : V.cell? ⟨w.heap.size + 1, 0, none⟩ = some (.int .i64 c) := by rw [← hV]; simp
  have e3 : V.cell? ⟨w.heap.size + 1, 1, none⟩ = some (.int .i64 d) := by rw [← hV]; simp
  have hb2 : Below w.heap.size w V := by rw [← hV]; exact ((Below.refl _ w).alloc (Nat.le_refl _) _).alloc (by simp) _
  rw [hV]
  clear hV
  go_region_held3 (fun w' => w'.cell? ⟨w.heap.size, 0, none⟩ = some (.int .i64 a) ∧ w'.cell? ⟨w.heap.size, 1, none⟩ = some (.int .i64 b) ∧ w'.cell? ⟨w.heap.size + 1, 0, none⟩ = some (.int .i64 c) ∧ w'.cell? ⟨w.heap.size + 1, 1, none⟩ = some (.int .i64 d))
    (first | exact ⟨e0, e1, e2, e3⟩ | (refine k4_adrew ?_; assumption) | (refine k4_call ?_ hbb; assumption))
    (first | (go_at_call 20; refine (dlimits_c _ _ _).mono ?_; rintro e w' ⟨rfl, rfl⟩) | (go_at_call 19; refine (dfirst_ok a b c d V.heap.size (V.heap.size + 1) _ _ ((rows3 V _ _ _ _ _ _).1 0) ((rows3 V _ _ _ _ _ _).1 1) ((rows3 V _ _ _ _ _ _).2.1 0) ((rows3 V _ _ _ _ _ _).2.1 1) ((rows3 V _ _ _ _ _ _).2.2 0) ((rows3 V _ _ _ _ _ _).2.2 1) h1 h2 h3 h4 h5 h6).mono ?_; rintro e w' ⟨rfl, hbb⟩))
  obtain ⟨q0, q1, q2, q3⟩ : w'.cell? ⟨w.heap.size, 0, none⟩ = some (.int .i64 a) ∧ w'.cell? ⟨w.heap.size, 1, none⟩ = some (.int .i64 b) ∧ w'.cell? ⟨w.heap.size + 1, 0, none⟩ = some (.int .i64 c) ∧ w'.cell? ⟨w.heap.size + 1, 1, none⟩ = some (.int .i64 d) := by assumption
  have hb3 : Below w.heap.size w w' := hb2.trans (((((Below.refl _ V).alloc (Nat.le_refl _) _).alloc (by simp) _).alloc (by simp; omega) _).drew.trans (hbb.mono (by simp; omega)) |>.mono hb2.size)
  clear hbb
  go_wp2
  go_ret2
  exact ⟨rfl, hb3⟩
end Go.Proofs.Ytldghloflegpmaa

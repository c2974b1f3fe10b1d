/- Contracts of package whole at short numbers: what is reckoned. -/
import Derived.Test.YtldghloflegpmaaGreatDoorWhA
namespace Go.Proofs.YtldghloflegpmaaGreatDoor
open Go.RowKit Go.Shelf Pu Go.Lib

set_option maxHeartbeats 2000000 in
theorem all2_c (b : Nat) (s t : ByteArray) (u v : Nat) (w : World) (hs : Num s u) (ht : Num t v) (hr : Row w b #[.string s, .string t] 153) :
    Calls Tryz.prog 134 #[.slice (some ⟨b, 0, none⟩) 2 2] w fun e w' => e = .returned (.int .i64 0) ∧ Below w.heap.size w w' := by
  have hc := hr.cell
  go_enter Tryz.func134, Tryz.ntmps134
  go_wp2_with fail
  refine wp_loop_rounds 3 ?_
  rw [rounds_succ]
  go_wp2_with fail
  refine (wCheck_c s u _ hs).mono ?_
  rintro e w2 ⟨rfl, hb2⟩
  have hr := hr.next hb2
  clear hc
  have hc := hr.cell
  go_wp2_with fail
  rw [rounds_succ]
  go_wp2_with fail
  refine (wCheck_c t v _ ht).mono ?_
  rintro e w3 ⟨rfl, hb3⟩
  clear hc
  go_wp2_with fail
  rw [rounds_succ]
  go_wp2
  go_ret
  exact ⟨rfl, bt hb2 hb3⟩

set_option maxHeartbeats 2000000 in
theorem small_c (s t : ByteArray) (u v : Nat) (w : World) (hs : Num s u) (ht : Num t v) :
    Calls Tryz.prog 135 #[.string s, .string t] w fun e w' => e = .returned (.tuple #[.int .i64 (u : Int), .int .i64 (v : Int), .bool true]) ∧ Below w.heap.size w w' := by
  have h1 := hs.short
  have h2 := ht.short
  have A1 := fun w => Tryz.strconv_Atoi s (u : Int) (by omega) hs.read w
  have A2 := fun w => Tryz.strconv_Atoi t (v : Int) (by omega) ht.read w
  have A1 := Lib.hid A1
  have A2 := Lib.hid A2
  go_enter Tryz.func135, Tryz.ntmps135
  go_wp2_with fail
  refine (A1.out _).mono ?_
  rintro e w2 ⟨rfl, x, hx⟩
  have hb2 : Below w.heap.size w w2 := by rw [hx]; exact Go.Joins.below_bytesWorld _ _ _ _ (Nat.le_refl _)
  clear hx
  go_wp2_with fail
  refine (A2.out _).mono ?_
  rintro e w3 ⟨rfl, x, hx⟩
  have hb3 : Below w2.heap.size w2 w3 := by rw [hx]; exact Go.Joins.below_bytesWorld _ _ _ _ (Nat.le_refl _)
  clear hx
  go_wp2
  exact bodyPost_ret (v := .tuple #[.int .i64 (u : Int), .int .i64 (v : Int), .bool true]) (by simp [results, Tryz.results135, go_sem]) rfl ⟨rfl, bt hb2 hb3⟩

theorem result_c (u : Nat) (w : World) (hu : u < 1000000000000000000) (hG : Gw w) : Calls Tryz.prog 136 #[.int .i64 (u : Int)] w fun e w' => e = .returned (.tuple #[.string (nT u), .int .i64 0]) ∧ Below w.heap.size w w' := by
  go_enter Tryz.func136, Tryz.ntmps136
  go_wp2_with fail
  refine (Of_c u _ hu hG).mono ?_
  rintro e w2 ⟨rfl, hb2⟩
  go_wp2
  go_ret2
  exact ⟨rfl, hb2⟩

set_option maxRecDepth 100000 in
set_option maxHeartbeats 4000000 in
theorem parted_c (s t : ByteArray) (u v : Nat) (w : World) (hs : Num s u) (ht : Num t v) (hv : v ≠ 0) (hG : Gw w) :
    Calls Tryz.prog 140 #[.string s, .string t] w fun e w' => e = .returned (.tuple #[.string (nT (u / v)), .string (nT (u % v)), .int .i64 0]) ∧ Below w.heap.size w w' := by
  have hne := mt ht.zero.1 hv
  have hbe : (t.toList == [48]) = false := by simpa using hne
  have hul := hs.lt
  have hvl := ht.lt
  have hq : ((u : Int)).tdiv (v : Int) = ((u / v : Nat) : Int) := by rw [Int.tdiv_eq_ediv_of_nonneg (by omega)]; rfl
  have hm : ((u : Int)).tmod (v : Int) = ((u % v : Nat) : Int) := by rw [Int.tmod_eq_emod_of_nonneg (by omega)]; rfl
  have hq1 : u / v ≤ u := Nat.div_le_self _ _
  have hm1 : u % v < v := Nat.mod_lt _ (by omega)
  obtain ⟨q, eq⟩ : ∃ q, u / v = q := ⟨_, rfl⟩
  obtain ⟨m, em⟩ : ∃ m, u % v = m := ⟨_, rfl⟩
  rw [eq] at hq hq1 ⊢
  rw [em] at hm hm1 ⊢
  clear eq em
  have hv' : ¬ (v : Int) = 0 := by omega
  have hm0 : ¬ (m : Int) < 0 := by omega
  go_enter Tryz.func140, Tryz.ntmps140
  go_wp2_with fail
  refine (all2_c w.heap.size s t u v _ hs ht (Row.new w _ _)).mono ?_
  rintro e w2 ⟨rfl, hbb⟩
  have hb2 := ((Below.refl _ w).alloc (Nat.le_refl _) (.cells #[.string s, .string t] 153)).trans (hbb.mono (by simp))
  clear hbb
  go_wp2_with fail
  refine (small_c s t u v _ hs ht).mono ?_
  rintro e w3 ⟨rfl, hbb⟩
  have hb3 := hb2.trans (hbb.mono hb2.size)
  clear hbb
  have hG3 := hG.next hb3
  have hvn : ¬ (v : Int) < 0 := by omega
  go_wp2_with fail
  go_quiet (fail)
  have hb4 : Below w.heap.size w (w3.drewN nq) := hb3.trans ⟨rfl, rfl, rfl, Nat.le_refl _, fun _ _ => rfl⟩
  have hG4 := hG.next hb4
  generalize w3.drewN nq = w4 at *
  by_cases h0 : (m : Int) = 0
  · obtain rfl : m = 0 := by omega
    go_wp2_with fail
    refine (Of_c q _ (by omega) hG4).mono ?_
    rintro e w5 ⟨rfl, hb5⟩
    go_wp2_with fail
    refine (Of_c 0 _ (by omega) (hG4.next hb5)).mono ?_
    rintro e w6 ⟨rfl, hb6⟩
    go_wp2
    exact bodyPost_ret (v := .tuple #[.string (nT q), .string (nT 0), .int .i64 0]) (by simp [results, Tryz.results140, go_sem]) rfl ⟨rfl, hb4.trans ((bt hb5 hb6).mono hb4.size)⟩
  · have d1 : decide ((m : Int) < 0) = false := decide_eq_false (by omega)
    have d2 : decide ((v : Int) < 0) = false := decide_eq_false (by omega)
    have d3 : ((m : Int) != 0) = true := by simpa using h0
    go_wp2_with fail
    refine (Of_c q _ (by omega) hG4).mono ?_
    rintro e w5 ⟨rfl, hb5⟩
    go_wp2_with fail
    refine (Of_c m _ (by omega) (hG4.next hb5)).mono ?_
    rintro e w6 ⟨rfl, hb6⟩
    go_wp2
    exact bodyPost_ret (v := .tuple #[.string (nT q), .string (nT m), .int .i64 0]) (by simp [results, Tryz.results140, go_sem]) rfl ⟨rfl, hb4.trans ((bt hb5 hb6).mono hb4.size)⟩

set_option maxHeartbeats 2000000 in
theorem Quo_c (s t : ByteArray) (u v : Nat) (w : World) (hs : Num s u) (ht : Num t v) (hv : v ≠ 0) (hG : Gw w) :
    Calls Tryz.prog 94 #[.string s, .string t] w fun e w' => e = .returned (.tuple #[.string (nT (u / v)), .int .i64 0]) ∧ Below w.heap.size w w' := by
  have hq : u / v < 1000000000 := Nat.lt_of_le_of_lt (Nat.div_le_self _ _) hs.lt
  go_enter Tryz.func94, Tryz.ntmps94
  go_wp2_with fail
  refine (parted_c s t u v _ hs ht hv hG).mono ?_
  rintro e w2 ⟨rfl, hb2⟩
  go_wp2_with fail
  refine (wCheck_c _ (u / v) _ (Num.of hq)).mono ?_
  rintro e w3 ⟨rfl, hb3⟩
  go_wp2
  go_ret2
  exact ⟨rfl, bt hb2 hb3⟩

set_option maxHeartbeats 2000000 in
theorem Rem_c (s t : ByteArray) (u v : Nat) (w : World) (hs : Num s u) (ht : Num t v) (hv : v ≠ 0) (hG : Gw w) :
    Calls Tryz.prog 96 #[.string s, .string t] w fun e w' => e = .returned (.tuple #[.string (nT (u % v)), .int .i64 0]) ∧ Below w.heap.size w w' := by
  go_enter Tryz.func96, Tryz.ntmps96
  go_wp2_with fail
  refine (parted_c s t u v _ hs ht hv hG).mono ?_
  rintro e w2 ⟨rfl, hb2⟩
  go_wp2
  go_ret2
  exact ⟨rfl, hb2⟩

set_option maxRecDepth 100000 in
set_option maxHeartbeats 2000000 in
theorem Mul_c (s t : ByteArray) (u v : Nat) (w : World) (hs : Num s u) (ht : Num t v) (hG : Gw w) :
    Calls Tryz.prog 93 #[.string s, .string t] w fun e w' => e = .returned (.tuple #[.string (nT (u * v)), .int .i64 0]) ∧ Below w.heap.size w w' := by
  have hm : (u : Int) * (v : Int) = ((u * v : Nat) : Int) := by simp
  have hl : u * v < 1000000000000000000 := by
    have := Nat.mul_le_mul (Nat.le_of_lt_succ hs.lt) (Nat.le_of_lt_succ ht.lt)
    omega
  obtain ⟨p, ep⟩ : ∃ p, u * v = p := ⟨_, rfl⟩
  rw [ep] at hm hl ⊢
  clear ep
  go_enter Tryz.func93, Tryz.ntmps93
  go_wp2_with fail
  refine (all2_c w.heap.size s t u v _ hs ht (Row.new w _ _)).mono ?_
  rintro e w2 ⟨rfl, hbb⟩
  have hb2 := ((Below.refl _ w).alloc (Nat.le_refl _) (.cells #[.string s, .string t] 153)).trans (hbb.mono (by simp))
  clear hbb
  go_wp2_with fail
  refine (small_c s t u v _ hs ht).mono ?_
  rintro e w3 ⟨rfl, hbb⟩
  have hb3 := hb2.trans (hbb.mono hb2.size)
  clear hbb
  go_wp2_with fail
  refine (result_c p _ hl (hG.next hb3)).mono ?_
  rintro e w4 ⟨rfl, hb4⟩
  go_wp2
  go_ret2
  exact ⟨rfl, hb3.trans (hb4.mono hb3.size)⟩
end Go.Proofs.YtldghloflegpmaaGreatDoor

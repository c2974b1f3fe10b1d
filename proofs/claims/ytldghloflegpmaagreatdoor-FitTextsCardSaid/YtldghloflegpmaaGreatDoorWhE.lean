/- Contracts of package whole at short numbers: the greatest common divisor. -/
import Derived.Test.YtldghloflegpmaaGreatDoorWhD
namespace Go.Proofs.YtldghloflegpmaaGreatDoor
open Go.RowKit Go.Shelf Pu Go.Lib

theorem Wide.next {w w' : World} {B : Nat} {n u : Int} (h : Wide w B n u) (hb : Below w.heap.size w w') : Wide w' B n u := Row.next h hb
set_option maxRecDepth 100000 in
set_option maxHeartbeats 4000000 in
theorem Gcd_c (s t : ByteArray) (u v : Nat) (w : World) (hs : Num s u) (ht : Num t v) (hv : v ≠ 0) (hG : Gw w) :
    Calls Tryz.prog 177 #[.string s, .string t] w fun e w' => e = .returned (.tuple #[.string (nT (Nat.gcd u v)), .int .i64 0]) ∧ Below w.heap.size w w' := by
  have hul := hs.lt
  have hvl := ht.lt
  go_enter Tryz.func177, Tryz.ntmps177
  go_wp2_with fail
  refine (all2_c w.heap.size s t u v _ hs ht (Row.new w _ _)).mono ?_
  rintro e w2 ⟨rfl, hbb⟩
  have hb2 := ((Below.refl _ w).alloc (Nat.le_refl _) (.cells #[.string s, .string t] 153)).trans (hbb.mono (by simp))
  clear hbb
  go_wp2_with fail
  refine (read_c s u _ hs).mono ?_
  rintro e w3 ⟨X, rfl, hX, hWX, hbb⟩
  have hb3 := hb2.trans (hbb.mono hb2.size)
  clear hbb
  go_wp2_with fail
  refine (read_c t v _ ht).mono ?_
  rintro e w4 ⟨Y, rfl, hY, hWY, hbb⟩
  rw [nW_pos hv] at hWY
  have hWX := hWX.next hbb
  have hb4 := hb3.trans (hbb.mono hb3.size)
  clear hbb
  obtain ⟨k, hk, hk1⟩ : ∃ k : Int, nW u = k ∧ k ≤ 1 := ⟨_, rfl, nW_le u⟩
  rw [hk] at hWX
  have x1 := hWX.c1
  have x2 := hWX.c2
  have y1 := hWY.c1
  have y2 := hWY.c2
  clear hk
  go_wp2_with fail
  refine wp_loop_rounds 1 ?_
  rw [rounds_succ]
  go_wp2_with fail
  go_quiet (fail)
  have hb5 : Below w.heap.size w (w4.drewN nq) := hb4.trans ⟨rfl, rfl, rfl, Nat.le_refl _, fun _ _ => rfl⟩
  generalize w4.drewN nq = w5 at *
  clear x1 x2 y1 y2
  go_wp2_with fail
  go_loopw [9, 10] (fun p q wr => ∃ m n : Nat, p = .int .i64 (m : Int) ∧ q = .int .i64 (n : Int) ∧ Nat.gcd m n = Nat.gcd u v ∧ m < 1000000000 ∧ n < 1000000000 ∧ Below w.heap.size w wr) (fun _ q _ => (RowKit.intOf q).toNat)
  case atStart => exact ⟨u, v, rfl, rfl, rfl, hul, hvl, hb5⟩
  case round =>
    obtain ⟨m, n, rfl, rfl, hg, hm, hn, hbr⟩ := hrel
    by_cases h0 : n = 0
    · subst h0
      have hGr := hG.next hbr
      rw [Nat.gcd_zero_right] at hg
      subst hg
      go_wp2_with fail
      refine (Of_c (Nat.gcd u v) _ (by omega) hGr).mono ?_
      rintro e w6 ⟨rfl, hbb⟩
      go_wp2
      go_ret2
      exact ⟨rfl, hbr.trans (hbb.mono hbr.size)⟩
    · have hn0 : ((n : Int) != 0) = true := by simp; omega
      have hn1 : ¬ (n : Int) = 0 := by omega
      have hr : ((m : Int)).tmod (n : Int) = ((m % n : Nat) : Int) := by rw [Int.tmod_eq_emod_of_nonneg (by omega)]; rfl
      have hlt : m % n < n := Nat.mod_lt _ (by omega)
      have hgg : Nat.gcd n (m % n) = Nat.gcd u v := by rw [← hg, Nat.gcd_comm, ← Nat.gcd_rec, Nat.gcd_comm]
      obtain ⟨q, hq⟩ : ∃ q, m % n = q := ⟨_, rfl⟩
      rw [hq] at hr hlt hgg
      clear hq hg
      go_wp2_with fail
      go_quiet (fail)
      go_wp2
      go_roundw
      case rel => exact ⟨n, q, rfl, rfl, hgg, hn, by omega, hbr.trans ⟨rfl, rfl, rfl, Nat.le_refl _, fun _ _ => rfl⟩⟩
      case measure => simp [RowKit.intOf]; omega
end Go.Proofs.YtldghloflegpmaaGreatDoor

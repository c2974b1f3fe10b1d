/- Contracts of package ratio at short numbers. -/
import Derived.Test.YtldghloflegpmaaGreatDoorWhE
import Derived.Test.YtldghloflegpmaaGreatDoorRqP
namespace Go.Proofs.YtldghloflegpmaaGreatDoor
open Go.RowKit Go.Shelf Pu Go.Lib

theorem below_drewN (w : World) (k : Nat) : Below w.heap.size w (w.drewN k) := ⟨rfl, rfl, rfl, Nat.le_refl _, fun _ _ => rfl⟩
theorem below_drewB {B : Nat} (w : World) (k : Nat) : Below B w (w.drewN k) := ⟨rfl, rfl, rfl, Nat.le_refl _, fun _ _ => rfl⟩

set_option maxHeartbeats 2000000 in
theorem cut_c (p q : Nat) (w : World) (hp : p < 1000000000) (hq : q < 1000000000) (hG : Gw w) :
    Calls Tryz.prog 131 #[.string (rT p q)] w fun e w' => e = .returned (.tuple #[.string (nT p), .string (nT q), .bool (decide (q ≠ 1))]) ∧ Below w.heap.size w w' := by
  obtain ⟨m, hm⟩ := hG.most
  have hC := Tryz.strings_Cut (rT p q) ⟨#[47]⟩ m w (by have := rT_size p q hp hq; omega) hm
  rw [show (⟨#[47]⟩ : ByteArray).data.toList = [47] from rfl, rT_list, rL_cut] at hC
  dsimp only at hC
  have HC := Lib.hid hC
  clear hC hm
  by_cases h1 : q = 1
  · subst h1
    rw [if_pos rfl, show decide ((1 : Nat) ≠ 1) = false from rfl] at HC
    go_enter Tryz.func131, Tryz.ntmps131
    go_wp2_with fail
    refine HC.out.mono ?_
    rintro e w2 ⟨rfl, k, rfl⟩
    go_wp2
    exact bodyPost_ret (v := .tuple #[.string (nT p), .string ⟨#[49]⟩, .bool false]) (by simp [results, Tryz.results131, go_sem, nT]) rfl ⟨by rw [nT_one]; rfl, below_drewN _ _⟩
  · have hd : decide (q ≠ 1) = true := decide_eq_true h1
    rw [if_neg h1, hd] at HC
    rw [hd]
    clear hd
    go_enter Tryz.func131, Tryz.ntmps131
    go_wp2_with fail
    refine HC.out.mono ?_
    rintro e w2 ⟨rfl, k, rfl⟩
    go_wp2
    exact bodyPost_ret (v := .tuple #[.string (nT p), .string (nT q), .bool true]) (by simp [results, Tryz.results131, go_sem, nT]) rfl ⟨rfl, below_drewN _ _⟩

theorem rT_join (p q : Nat) (h : q ≠ 1) : nT p ++ ⟨#[47]⟩ ++ nT q = rT p q := by
  apply ByteArray.ext
  unfold rT rL nT
  rw [if_neg h]
  simp [ByteArray.data_append]
set_option maxHeartbeats 2000000 in
theorem joined_c (p q : Nat) (w : World) (hp : p < 1000000000) (hq : q < 1000000000) :
    Calls Tryz.prog 179 #[.string (nT p), .string (nT q)] w fun e w' => e = .returned (.string (rT p q)) ∧ Below w.heap.size w w' := by
  have nq := Num.of hq
  have h9 := (Num.of hp).short
  have h9q := nq.short
  by_cases h1 : q = 1
  · subst h1
    have e : rT p 1 = nT p := rfl
    rw [nT_one, e]
    go_enter Tryz.func179, Tryz.ntmps179
    go_wp2
    go_ret
    exact ⟨rfl, Below.refl _ _⟩
  · have hne := mt nq.one.1 h1
    have hbe : ((nT q).toList == [49]) = false := by simpa using hne
    have hj := rT_join p q h1
    generalize nT p = s at *
    generalize nT q = t at *
    have hs2 : s.size + 1 ≤ 9223372036854775807 := by omega
    have hs3 : ¬ 9223372036854775807 < s.size + 1 := by omega
    have hs4 : ¬ 9223372036854775807 < s.size + 1 + t.size := by omega
    have hsz : (s ++ ⟨#[47]⟩).size = s.size + 1 := by simp [ByteArray.size_append]; rfl
    have HJ := Lib.hid hj
    clear hj nq hne
    go_enter Tryz.func179, Tryz.ntmps179
    go_wp2
    go_ret
    exact ⟨by rw [← HJ.out]; rfl, Below.refl _ _⟩
end Go.Proofs.YtldghloflegpmaaGreatDoor

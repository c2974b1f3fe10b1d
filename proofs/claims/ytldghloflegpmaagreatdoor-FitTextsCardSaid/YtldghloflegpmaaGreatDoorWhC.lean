/- Contracts of package whole at short numbers: order. -/
import Derived.Test.YtldghloflegpmaaGreatDoorWhB
namespace Go.Proofs.YtldghloflegpmaaGreatDoor
open Go.RowKit Go.Shelf Pu Go.Lib

theorem Num.bytes {s : ByteArray} {u : Nat} (h : Num s u) : ∀ i (hi : i < s.size), 48 ≤ (s[i]'hi).toNat ∧ (s[i]'hi).toNat ≤ 57 := by
  intro i hi
  have hx := h.text
  subst hx
  have hm : (nT u)[i]'hi ∈ Lib.decDigits u := by
    have : (nT u)[i]'hi = (Lib.decDigits u)[i]'(by rw [← nT_size]; exact hi) := rfl
    rw [this]; exact List.getElem_mem _
  exact dD_dig u _ hm

set_option maxHeartbeats 2000000 in
theorem sign_c (s : ByteArray) (u : Nat) (w : World) (hs : Num s u) (hu : u ≠ 0) :
    Calls Tryz.prog 223 #[.string s] w fun e w' => e = .returned (.int .i64 1) ∧ Below w.heap.size w w' := by
  have hne := mt hs.zero.1 hu
  have hbe : (s.toList == [48]) = false := by simpa using hne
  have hp := hs.pos
  have h9 := hs.short
  have hb := hs.bytes 0 hp
  have hb' : ¬ ((s[0]'hp).toNat : Int) = 45 := by omega
  have HB := Lib.hid hb
  clear hb
  go_enter Tryz.func223, Tryz.ntmps223
  go_wp2
  go_ret
  exact ⟨rfl, Below.refl _ _⟩

set_option maxHeartbeats 2000000 in
theorem order_one (s : ByteArray) (u : Nat) (w : World) (hs : Num s u) (hu : 2 ≤ u) :
    Calls Tryz.prog 224 #[.string s, .string ⟨#[49]⟩] w fun e w' => e = .returned (.int .i64 1) ∧ Below w.heap.size w w' := by
  have hp := hs.pos
  have h9 := hs.short
  have hone : (⟨#[49]⟩ : ByteArray).size = 1 := rfl
  by_cases h1 : s.size = 1
  · have hc : Lib.compareBytes s.data.toList [49] = 1 := by
      have hx := hs.text
      subst hx
      rw [nT_list]
      have : u < 10 := by
        rcases Nat.lt_or_ge u 10 with h | h
        · exact h
        · exfalso
          rw [nT_size, dD_step (by omega), List.length_append] at h1
          have := List.length_pos_iff.2 (dD_ne (u / 10))
          simp only [List.length_singleton] at h1; omega
      rw [Lib.decDigits_one this]
      have h10 : u = 2 ∨ u = 3 ∨ u = 4 ∨ u = 5 ∨ u = 6 ∨ u = 7 ∨ u = 8 ∨ u = 9 := by omega
      rcases h10 with rfl | rfl | rfl | rfl | rfl | rfl | rfl | rfl <;> decide
    have hC := Tryz.strings_Compare s ⟨#[49]⟩
    have HC := Lib.hid hC
    have HR := Lib.hid hc
    clear hC hc
    go_enter Tryz.func224, Tryz.ntmps224
    go_wp2_with fail
    refine (HC.out _).mono ?_
    rintro e w2 ⟨rfl, rfl⟩
    rw [HR.out]
    go_wp2
    go_ret
    exact ⟨rfl, Below.refl _ _⟩
  · have h2 : ¬ s.size < 1 := by omega
    have h3 : ¬ (s.size : Int) < 1 := by omega
    go_enter Tryz.func224, Tryz.ntmps224
    go_wp2
    go_ret
    exact ⟨rfl, Below.refl _ _⟩

set_option maxRecDepth 100000 in
set_option maxHeartbeats 2000000 in
theorem Compare_one (s : ByteArray) (u : Nat) (w : World) (hs : Num s u) (hu : 2 ≤ u) :
    Calls Tryz.prog 180 #[.string s, .string ⟨#[49]⟩] w fun e w' => e = .returned (.tuple #[.int .i64 1, .int .i64 0]) ∧ Below w.heap.size w w' := by
  have h1 : Num ⟨#[49]⟩ 1 := by have := Num.of (u := 1) (by omega); rw [nT_one] at this; exact this
  have hT := Tryz.strings_TrimPrefix s ⟨#[45]⟩
  rw [show (⟨#[45]⟩ : ByteArray).data.toList = [45] from rfl, hs.pre] at hT
  have hT1 := Tryz.strings_TrimPrefix ⟨#[49]⟩ ⟨#[45]⟩
  rw [show (⟨#[45]⟩ : ByteArray).data.toList = [45] from rfl, h1.pre] at hT1
  have HT := Lib.hid hT
  have HT1 := Lib.hid hT1
  clear hT hT1
  go_enter Tryz.func180, Tryz.ntmps180
  go_wp2_with fail
  refine (all2_c w.heap.size s ⟨#[49]⟩ u 1 _ hs h1 (Row.new w _ _)).mono ?_
  rintro e w2 ⟨rfl, hbb⟩
  have hb2 := ((Below.refl _ w).alloc (Nat.le_refl _) (.cells #[.string s, .string ⟨#[49]⟩] 153)).trans (hbb.mono (by simp))
  clear hbb
  go_wp2_with fail
  refine (sign_c s u _ hs (by omega)).mono ?_
  rintro e w3 ⟨rfl, hbb⟩
  have hb3 := hb2.trans (hbb.mono hb2.size)
  clear hbb
  go_wp2_with fail
  refine (sign_c ⟨#[49]⟩ 1 _ h1 (by omega)).mono ?_
  rintro e w4 ⟨rfl, hbb⟩
  have hb4 := hb3.trans (hbb.mono hb3.size)
  clear hbb
  go_wp2_with fail
  refine (sign_c ⟨#[49]⟩ 1 _ h1 (by omega)).mono ?_
  rintro e w5 ⟨rfl, hbb⟩
  have hb5 := hb4.trans (hbb.mono hb4.size)
  clear hbb
  go_wp2_with fail
  refine (HT.out _).mono ?_
  rintro e w6 ⟨rfl, rfl⟩
  go_wp2_with fail
  refine (HT1.out _).mono ?_
  rintro e w6 ⟨rfl, rfl⟩
  go_wp2_with fail
  refine (order_one s u _ hs hu).mono ?_
  rintro e w7 ⟨rfl, hbb⟩
  go_wp2
  go_ret2
  exact ⟨rfl, hb5.trans (hbb.mono hb5.size)⟩
end Go.Proofs.YtldghloflegpmaaGreatDoor

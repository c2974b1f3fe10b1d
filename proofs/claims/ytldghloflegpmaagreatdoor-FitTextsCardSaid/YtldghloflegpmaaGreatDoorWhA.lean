/- Contracts of package whole at short numbers: what is read, checked and written. -/
import Derived.Test.YtldghloflegpmaaGreatDoorGl
namespace Go.Proofs.YtldghloflegpmaaGreatDoor
open Go.RowKit Go.Shelf Pu Go.Lib

theorem below_grown (w : World) (k : Nat) (os : Array Obj) : Below w.heap.size w (Go.Sort.grow (w.drewN k) os) :=
  ⟨rfl, rfl, rfl, by simp [Go.Sort.grow, World.drewN], fun i hi => by simp [Go.Sort.grow, World.drewN, Array.getElem?_append_left hi]⟩

theorem Of_c (u : Nat) (w : World) (hu : u < 1000000000000000000) (hG : Gw w) : Calls Tryz.prog 88 #[.int .i64 (u : Int)] w fun e w' => e = .returned (.string (nT u)) ∧ Below w.heap.size w w' := by
  have hI := Tryz.strconv_Itoa (u : Int) (by omega) (by omega) w hG.tab
  rw [itoa_nonneg] at hI
  go_enter Tryz.func88, Tryz.ntmps88
  go_wp2_with fail
  refine hI.mono ?_
  rintro e w2 ⟨rfl, k, os, rfl⟩
  go_wp2
  go_ret
  exact ⟨rfl, below_grown _ _ _⟩

set_option maxHeartbeats 2000000 in
theorem wCheck_c (s : ByteArray) (u : Nat) (w : World) (hs : Num s u) : Calls Tryz.prog 128 #[.string s] w fun e w' => e = .returned (.int .i64 0) ∧ Below w.heap.size w w' := by
  have hT := Tryz.strings_TrimPrefix s ⟨#[45]⟩ w
  rw [show (⟨#[45]⟩ : ByteArray).data.toList = [45] from rfl, hs.pre] at hT
  have hD := fun w => Tryz.strings_Trim_laid s ⟨#[48, 49, 50, 51, 52, 53, 54, 55, 56, 57]⟩ w (by have := hs.short; omega) (by decide) (ascii_of_all (by decide))
  rw [show (⟨#[48, 49, 50, 51, 52, 53, 54, 55, 56, 57]⟩ : ByteArray).data.toList = digC from rfl, hs.dig] at hD
  have hp := hs.pos
  have h9 := hs.short
  have hne := hs.ne
  have hie := hs.ie
  have H0 := Lib.hid (hs.at0 hp)
  have HT := Lib.hid hT
  have HD := Lib.hid hD
  clear hT hD
  go_enter Tryz.func128, Tryz.ntmps128
  go_wp2_with fail
  refine HT.out.mono ?_
  rintro e w2 ⟨rfl, rfl⟩
  go_wp2_with fail
  refine (HD.out _).mono ?_
  rintro e w3 ⟨rfl, hbb⟩
  by_cases h0 : (s[0]'hp).toNat = 48
  · have e0 := H0.out h0
    subst e0
    go_wp2
    go_ret
    exact ⟨rfl, hbb⟩
  · have h0' : ¬ ((s[0]'hp).toNat : Int) = 48 := by omega
    go_wp2
    go_ret
    exact ⟨rfl, hbb⟩
end Go.Proofs.YtldghloflegpmaaGreatDoor

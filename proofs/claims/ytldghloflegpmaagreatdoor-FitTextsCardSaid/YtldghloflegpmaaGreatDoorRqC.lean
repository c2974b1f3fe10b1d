/- Contracts of package ratio at short numbers: checked, and taken apart. -/
import Derived.Test.YtldghloflegpmaaGreatDoorRqB
namespace Go.Proofs.YtldghloflegpmaaGreatDoor
open Go.RowKit Go.Shelf Pu Go.Lib

theorem cut_one (p : Nat) (w : World) (hp : p < 1000000000) (hG : Gw w) :
    Calls Tryz.prog 131 #[.string (rT p 1)] w fun e w' => e = .returned (.tuple #[.string (nT p), .string ⟨#[49]⟩, .bool false]) ∧ Below w.heap.size w w' :=
  (cut_c p 1 w hp (by omega) hG).mono fun e w' ⟨a, b⟩ => ⟨by rw [a, nT_one]; rfl, b⟩
theorem cut_two (p q : Nat) (w : World) (hp : p < 1000000000) (hq : q < 1000000000) (h1 : q ≠ 1) (hG : Gw w) :
    Calls Tryz.prog 131 #[.string (rT p q)] w fun e w' => e = .returned (.tuple #[.string (nT p), .string (nT q), .bool true]) ∧ Below w.heap.size w w' :=
  (cut_c p q w hp hq hG).mono fun e w' ⟨a, b⟩ => ⟨by rw [a, decide_eq_true h1], b⟩
theorem n1 : Num ⟨#[49]⟩ 1 := by
  have := Num.of (u := 1) (by omega)
  rwa [nT_one] at this
set_option maxRecDepth 100000 in
set_option maxHeartbeats 400000 in
theorem rcCheck_c (p q : Nat) (w : World) (hp : p < 1000000000) (hq : q < 1000000000) (h0 : q ≠ 0) (hg : Nat.gcd p q = 1) (hG : Gw w) :
    Calls Tryz.prog 130 #[.string (rT p q)] w fun e w' => e = .returned (.int .i64 0) ∧ Below w.heap.size w w' := by
  have np := Num.of hp
  have nq := Num.of hq
  by_cases h1 : q = 1
  · subst h1
    clear hg nq h0 hq
    go_enter Tryz.func130, Tryz.ntmps130
    go_wp2_with fail
    refine (cut_one p _ hp hG).mono ?_
    rintro e w2 ⟨rfl, hb2⟩
    go_wp2_with fail
    refine (wCheck_c (nT p) p _ np).mono ?_
    rintro e w3 ⟨rfl, hbb⟩
    have hb3 := bt hb2 hbb
    clear hbb
    go_wp2_with fail
    refine (wCheck_c ⟨#[49]⟩ 1 _ n1).mono ?_
    rintro e w4 ⟨rfl, hbb⟩
    have hb4 := bt hb3 hbb
    go_wp2
    go_ret
    exact ⟨rfl, hb4⟩
  · have HG := Lib.hid hg
    clear hg
    go_enter Tryz.func130, Tryz.ntmps130
    go_wp2_with fail
    refine (cut_two p q _ hp hq h1 hG).mono ?_
    rintro e w2 ⟨rfl, hb2⟩
    go_wp2_with fail
    refine (wCheck_c (nT p) p _ np).mono ?_
    rintro e w3 ⟨rfl, hbb⟩
    have hb3 := bt hb2 hbb
    clear hbb
    go_wp2_with fail
    refine (wCheck_c (nT q) q _ nq).mono ?_
    rintro e w4 ⟨rfl, hbb⟩
    have hb4 := bt hb3 hbb
    clear hbb
    go_wp2_with fail
    refine (Compare_one (nT q) q _ nq (by omega)).mono ?_
    rintro e w5 ⟨rfl, hbb⟩
    have hb5 := bt hb4 hbb
    clear hbb
    go_wp2_with fail
    refine (Gcd_c (nT p) (nT q) p q _ np nq h0 (hG.next hb5)).mono ?_
    rintro e w6 ⟨rfl, hbb⟩
    rw [HG.out, nT_one]
    have hb6 := bt hb5 hbb
    clear hbb HG
    go_wp2
    go_ret
    exact ⟨rfl, hb6⟩

set_option maxHeartbeats 2000000 in
theorem Parts_c (p q : Nat) (w : World) (hp : p < 1000000000) (hq : q < 1000000000) (h0 : q ≠ 0) (hg : Nat.gcd p q = 1) (hG : Gw w) :
    Calls Tryz.prog 89 #[.string (rT p q)] w fun e w' => e = .returned (.tuple #[.string (nT p), .string (nT q), .int .i64 0]) ∧ Below w.heap.size w w' := by
  have HH := Lib.hid hg
  clear hg
  go_enter Tryz.func89, Tryz.ntmps89
  go_wp2_with fail
  refine (rcCheck_c p q _ hp hq h0 HH.out hG).mono ?_
  rintro e w2 ⟨rfl, hb2⟩
  go_wp2_with fail
  by_cases h1 : q = 1
  · subst h1
    refine (cut_one p _ hp (hG.next hb2)).mono ?_
    rintro e w3 ⟨rfl, hbb⟩
    go_wp2
    exact bodyPost_ret (v := .tuple #[.string (nT p), .string ⟨#[49]⟩, .int .i64 0]) (by simp [results, Tryz.results89, go_sem]) rfl ⟨by rw [nT_one], bt hb2 hbb⟩
  · refine (cut_two p q _ hp hq h1 (hG.next hb2)).mono ?_
    rintro e w3 ⟨rfl, hbb⟩
    go_wp2
    exact bodyPost_ret (v := .tuple #[.string (nT p), .string (nT q), .int .i64 0]) (by simp [results, Tryz.results89, go_sem]) rfl ⟨rfl, bt hb2 hbb⟩
end Go.Proofs.YtldghloflegpmaaGreatDoor

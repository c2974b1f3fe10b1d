/- Contract of package fit: Text. -/
import Derived.Test.YtldghloflegpmaaGreatDoorLxB
import Derived.Test.YtldghloflegpmaaGreatDoorFtD
namespace Go.Proofs.YtldghloflegpmaaGreatDoor
open Go.RowKit Go.Shelf Pu Go.Lib

/-- The thousandths, as a decimal number. -/
def thL (n : Nat) : List UInt8 := decL (n / Nat.gcd n 1000) (1000 / Nat.gcd n 1000)
/-- The text of a right fit. -/
def txtL (n hl hg sl sg : Int) : List UInt8 := thL n.toNat ++ 32 :: (fmtL true hl hg ++ 47 :: fmtL false sl sg)
def txtV (n : Int) (hh : Bool) (hl hg : Int) (sh : Bool) (sl sg : Int) : Value :=
  if fE n hh hl hg sh sl sg = 0 then .tuple #[.string ⟨(txtL n hl hg sl sg).toArray⟩, .int .i64 0] else .tuple #[.string ⟨#[]⟩, .int .i64 (fE n hh hl hg sh sl sg)]
theorem fr_len (q : Nat) (hq : q ≤ 1000) (h0 : 0 < q) : ∀ (f r : Nat), r < q → (frL q f r).length ≤ 7 * f
  | 0, _, _ => by simp [frL]
  | f + 1, r, hr => by
    unfold frL
    split
    · simp
    · have h1 := dD_len 6 (r * 10 / q) (Nat.lt_of_le_of_lt (Nat.div_le_self _ _) (by omega))
      have h2 := fr_len q hq h0 f (r * 10 % q) (Nat.mod_lt _ h0)
      rw [List.length_append]; omega
theorem thL_len (n : Nat) (hn : n ≤ 100000) : (thL n).length ≤ 100 := by
  unfold thL
  have hg : 0 < Nat.gcd n 1000 := Nat.gcd_pos_of_pos_right n (by omega)
  have hq : 1000 / Nat.gcd n 1000 ≤ 1000 := Nat.div_le_self _ _
  have hq0 : 0 < 1000 / Nat.gcd n 1000 := Nat.div_pos (Nat.le_of_dvd (by omega) (Nat.gcd_dvd_right n 1000)) hg
  have hp : n / Nat.gcd n 1000 ≤ n := Nat.div_le_self _ _
  generalize 1000 / Nat.gcd n 1000 = q at *
  generalize n / Nat.gcd n 1000 = p at *
  unfold decL
  have h1 := dD_len 6 (p / q) (Nat.lt_of_le_of_lt (Nat.div_le_self _ _) (by omega))
  have h2 := fr_len q hq hq0 3 (p % q) (Nat.mod_lt _ hq0)
  rw [List.length_append]
  split
  · simp; omega
  · simp; omega
theorem fmt_len (h : Bool) (l g : Int) (h5 : 5 ≤ g) (h12 : g ≤ 12) : (fmtL h l g).length ≤ 3 := by
  unfold fmtL
  have := dec_len (k := g.toNat) (by omega)
  simp; omega
theorem chk_cells {w : World} {b : Nat} {n : Int} {hh : Bool} {hl hg : Int} {sh : Bool} {sl sg A B C D : Int} (h : Row w b (chkC n hh hl hg sh sl sg A B C D) 96) : ∀ j, w.cell? ⟨b, j, none⟩ = (chkC n hh hl hg sh sl sg A B C D)[j]? := h.cell

set_option maxRecDepth 100000 in
set_option maxHeartbeats 4000000 in
theorem Text_ok (n : Int) (hl hg sl sg : Int) (w : World) (hf : fE n true hl hg false sl sg = 0) (hG : Gw w) : Calls Tryz.prog 33 #[.agg (fitC n true hl hg false sl sg)] w
    fun e w' => e = .returned (.tuple #[.string ⟨(txtL n hl hg sl sg).toArray⟩, .int .i64 0]) ∧ Below w.heap.size w w' := by
  obtain ⟨z1, z2, z3, _, _, _, _⟩ := fE_ok hf
  obtain ⟨⟨c1, c2⟩, c3, c4⟩ := cE_ok.1 z2
  obtain ⟨⟨c5, c6⟩, c7, c8⟩ := cE_ok.1 z3
  obtain ⟨n1, n2⟩ := zE_ok.1 z1
  obtain ⟨A, B, C, D, hv⟩ : ∃ A B C D, chkV n true hl hg false sl sg = .tuple #[.agg (chkC n true hl hg false sl sg A B C D), .int .i64 0] := ⟨_, _, _, _, by unfold chkV; rw [if_pos hf]⟩
  obtain ⟨u, rfl⟩ : ∃ u : Nat, n = (u : Int) := ⟨n.toNat, by omega⟩
  have hu : u ≤ 100000 := by omega
  have hgp : 0 < Nat.gcd u 1000 := Nat.gcd_pos_of_pos_right u (by omega)
  have hq : 1000 / Nat.gcd u 1000 ∣ 1000 := Nat.div_dvd_of_dvd (Nat.gcd_dvd_right u 1000)
  have hp : u / Nat.gcd u 1000 < 1000000 := Nat.lt_of_le_of_lt (Nat.div_le_self _ _) (by omega)
  have hgg : Nat.gcd (u / Nat.gcd u 1000) (1000 / Nat.gcd u 1000) = 1 := by rw [Nat.gcd_div (Nat.gcd_dvd_left u 1000) (Nat.gcd_dvd_right u 1000), Nat.div_self hgp]
  have hO := fun w hG => rOf_c u 1000 w (by omega) (by omega) (by omega) hG
  have hD := fun w hG => Decimal_c (u / Nat.gcd u 1000) (1000 / Nat.gcd u 1000) w hp hq hgg hG
  have hT : decL (u / Nat.gcd u 1000) (1000 / Nat.gcd u 1000) = thL u := rfl
  rw [hT] at hD
  have hx : txtL (u : Int) hl hg sl sg = thL u ++ 32 :: (fmtL true hl hg ++ 47 :: fmtL false sl sg) := by unfold txtL; rw [Int.toNat_natCast]
  have la := thL_len u hu
  have lb := fmt_len true hl hg c3 c4
  have lc := fmt_len false sl sg c7 c8
  have hF1 := fun w => Format_ok true hl hg w c1 c2 c3 c4
  have hF2 := fun w => Format_ok false sl sg w c5 c6 c7 c8
  obtain ⟨TA, hTA⟩ : ∃ T : ByteArray, ⟨(thL u).toArray⟩ = T := ⟨_, rfl⟩
  obtain ⟨TB, hTB⟩ : ∃ T : ByteArray, ⟨(fmtL true hl hg).toArray⟩ = T := ⟨_, rfl⟩
  obtain ⟨TC, hTC⟩ : ∃ T : ByteArray, ⟨(fmtL false sl sg).toArray⟩ = T := ⟨_, rfl⟩
  have sA : TA.size ≤ 100 := by rw [← hTA]; simpa [ByteArray.size] using la
  have sB : TB.size ≤ 3 := by rw [← hTB]; simpa [ByteArray.size] using lb
  have sC : TC.size ≤ 3 := by rw [← hTC]; simpa [ByteArray.size] using lc
  have hX : (⟨(txtL (u : Int) hl hg sl sg).toArray⟩ : ByteArray) = TA ++ ⟨#[32]⟩ ++ TB ++ ⟨#[47]⟩ ++ TC := by
    rw [hx, ← hTA, ← hTB, ← hTC]
    apply ByteArray.ext
    simp [ByteArray.data_append]
  rw [hTA] at hD
  rw [hTB] at hF1
  rw [hTC] at hF2
  generalize rT (u / Nat.gcd u 1000) (1000 / Nat.gcd u 1000) = R at *
  have HV := Lib.hid hv
  have HO := Lib.hid hO
  have HD := Lib.hid hD
  have HF1 := Lib.hid hF1
  have HF2 := Lib.hid hF2
  have HX := Lib.hid hX
  have k1 : ¬ 9223372036854775807 < TA.size + 1 := by omega
  have k2 : ¬ 9223372036854775807 < TA.size + 1 + TB.size := by omega
  have k3 : ¬ 9223372036854775807 < TA.size + 1 + TB.size + 1 := by omega
  have k4 : ¬ 9223372036854775807 < TA.size + 1 + TB.size + 1 + TC.size := by omega
  clear hf z1 z2 z3 hv hgp hq hp hgg hO hD hT hx la lb lc hF1 hF2 hTA hTB hTC hX
  go_enter Tryz.func33, Tryz.ntmps33
  go_wp2_with fail
  refine (fcheck_c (u : Int) true hl hg false sl sg _).mono ?_
  rintro e w2 ⟨rfl, hbb⟩
  rw [HV.out]
  have hb := ((Below.refl _ w).alloc (Nat.le_refl _) (.cells (fitC (u : Int) true hl hg false sl sg) 42)).trans (hbb.mono (by simp))
  clear hbb
  have hr := Row.new w2 (chkC (u : Int) true hl hg false sl sg A B C D) 96
  have hb := hb.alloc hb.size (.cells (chkC (u : Int) true hl hg false sl sg A B C D) 96)
  have hc := hr.cell
  go_wp2_with fail
  refine (HO.out _ (hG.next hb)).mono ?_
  rintro e w3 ⟨rfl, hbb⟩
  have hr := hr.next hbb
  have hb := hb.trans (hbb.mono hb.size)
  clear hbb hc
  have hc := hr.cell
  go_wp2_with fail
  refine (HD.out _ (hG.next hb)).mono ?_
  rintro e w4 ⟨rfl, hbb⟩
  have hr := hr.next hbb
  have hb := hb.trans (hbb.mono hb.size)
  clear hbb hc
  have hc := hr.cell
  go_wp2_with fail
  refine (HF1.out _).mono ?_
  rintro e w5 ⟨rfl, hbb⟩
  have hr := hr.next hbb
  have hb := hb.trans (hbb.mono hb.size)
  clear hbb hc
  have hc := hr.cell
  go_wp2_with fail
  refine (HF2.out _).mono ?_
  rintro e w6 ⟨rfl, hbb⟩
  have hb := hb.trans (hbb.mono hb.size)
  clear hbb hc
  go_wp2
  go_ret2
  exact ⟨by rw [HX.out]; rfl, hb⟩
set_option maxHeartbeats 2000000 in
theorem Text_err (n : Int) (hh : Bool) (hl hg : Int) (sh : Bool) (sl sg x : Int) (w : World) (hf : fE n hh hl hg sh sl sg = x) (hx : (x == 0) = false) : Calls Tryz.prog 33 #[.agg (fitC n hh hl hg sh sl sg)] w
    fun e w' => e = .returned (.tuple #[.string ⟨#[]⟩, .int .i64 x]) ∧ Below w.heap.size w w' := by
  have hv : chkV n hh hl hg sh sl sg = .tuple #[.agg (chkC 0 false 0 0 false 0 0 0 0 0 0), .int .i64 x] := by unfold chkV; rw [if_neg (by rw [hf]; simpa using hx), hf]
  have Hv := Lib.hid hv
  clear hv hf
  go_enter Tryz.func33, Tryz.ntmps33
  go_wp2_with fail
  refine (fcheck_c n hh hl hg sh sl sg _).mono ?_
  rintro e w2 ⟨rfl, hbb⟩
  rw [Hv.out]
  have hb2 := ((Below.refl _ w).alloc (Nat.le_refl _) (.cells (fitC n hh hl hg sh sl sg) 42)).trans (hbb.mono (by simp))
  have hb3 := hb2.alloc hb2.size (.cells (chkC 0 false 0 0 false 0 0 0 0 0 0) 96)
  go_wp2
  go_ret2
  exact ⟨rfl, hb3⟩
theorem fE_hs {n : Int} {hh : Bool} {hl hg : Int} {sh : Bool} {sl sg : Int} (h : fE n hh hl hg sh sl sg = 0) : hh = true ∧ sh = false := by obtain ⟨_, _, _, a, b, _⟩ := fE_ok h; exact ⟨a, b⟩
theorem Text_c (n : Int) (hh : Bool) (hl hg : Int) (sh : Bool) (sl sg : Int) (w : World) (hG : Gw w) : Calls Tryz.prog 33 #[.agg (fitC n hh hl hg sh sl sg)] w
    fun e w' => e = .returned (txtV n hh hl hg sh sl sg) ∧ Below w.heap.size w w' := by
  unfold txtV
  by_cases hf : fE n hh hl hg sh sl sg = 0
  · rw [if_pos hf]
    obtain ⟨rfl, rfl⟩ := fE_hs hf
    exact Text_ok n hl hg sl sg w hf hG
  · rw [if_neg hf]
    exact Text_err n hh hl hg sh sl sg _ w rfl (by simpa using hf)
end Go.Proofs.YtldghloflegpmaaGreatDoor

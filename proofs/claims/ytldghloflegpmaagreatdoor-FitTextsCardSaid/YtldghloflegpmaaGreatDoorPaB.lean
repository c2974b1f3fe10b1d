/- Contracts of package grades: texts are read and written. -/
import Derived.Test.YtldghloflegpmaaGreatDoorPaA
namespace Go.Proofs.YtldghloflegpmaaGreatDoor
open Go.RowKit Pu Go.Lib

theorem Parse_c (s : ByteArray) (w : World) (hm : s.size ≤ 9223372036854775807) : Calls Tryz.prog 47 #[.string s] w fun e w' => e = .returned (prsV s.data.toList) ∧ Below w.heap.size w w' := by
  have hlen : s.data.toList.length = s.size := by simp
  by_cases h2 : s.size < 2
  · have e : prsE s.data.toList = 4 := by unfold prsE; rw [if_pos (Or.inl (by omega))]
    have e' : prsV s.data.toList = clsV false 0 0 4 := by unfold prsV; rw [e, if_neg (by decide)]
    rw [e']
    exact Parse_short s w h2
  · by_cases h4 : 4 < s.size
    · have e : prsE s.data.toList = 4 := by unfold prsE; rw [if_pos (Or.inr (by omega))]
      have e' : prsV s.data.toList = clsV false 0 0 4 := by unfold prsV; rw [e, if_neg (by decide)]
      rw [e']
      exact Parse_long s w h4 hm
    · exact Parse_mid s w (by omega) (by omega)

/-- The letters, one by one. -/
def smL (i : Nat) : UInt8 := [100, 101, 102, 103, 104, 106, 107, 109, 110, 112].getD i 0
def cpL (i : Nat) : UInt8 := [68, 69, 70, 71, 72, 74, 75, 77, 78, 80].getD i 0
theorem small_at (i : Nat) (h : i < 10) : (ByteArray.mk #[100, 101, 102, 103, 104, 106, 107, 109, 110, 112]).extract i (i + 1) = ⟨#[smL i]⟩ :=
  match i, h with
  | 0, _ => by decide
  | 1, _ => by decide
  | 2, _ => by decide
  | 3, _ => by decide
  | 4, _ => by decide
  | 5, _ => by decide
  | 6, _ => by decide
  | 7, _ => by decide
  | 8, _ => by decide
  | 9, _ => by decide
theorem up_at (i : Nat) (h : i < 10) : Lib.toUpperA [smL i] = [cpL i] ∧ (smL i).toNat < 128 :=
  match i, h with
  | 0, _ => by decide
  | 1, _ => by decide
  | 2, _ => by decide
  | 3, _ => by decide
  | 4, _ => by decide
  | 5, _ => by decide
  | 6, _ => by decide
  | 7, _ => by decide
  | 8, _ => by decide
  | 9, _ => by decide
theorem upper_one (i : Nat) (h : i < 10) (w : World) : Calls Tryz.prog 80 #[.string ⟨#[smL i]⟩] w fun e w' => e = .returned (.string ⟨#[cpL i]⟩) ∧ Below w.heap.size w w' :=
  (Tryz.strings_ToUpper_ascii ⟨#[smL i]⟩ w (by simp [ByteArray.size]) (fun j b hb => by
    have : b = smL i := by
      cases j with
      | zero => simpa using hb.symm
      | succ j => simp at hb
    rw [this]; exact (up_at i h).2)).mono fun e w' ⟨a, b⟩ => ⟨by rw [a, (up_at i h).1], b⟩
theorem ret_str {a b : ByteArray} {x : Value} (h : a = b) : Ending.returned (.tuple #[.string a, x]) = .returned (.tuple #[.string b, x]) := by rw [h]
theorem dec_len {k : Nat} (h : k < 100) : (Lib.decDigits k).length ≤ 2 := by
  rw [Lib.decDigits]
  split
  · simp
  · rw [Lib.decDigits, dif_pos (by omega)]; simp
theorem cons_bytes (b : UInt8) (l : List UInt8) : (⟨#[b]⟩ : ByteArray) ++ ⟨l.toArray⟩ = ⟨(b :: l).toArray⟩ := by
  apply ByteArray.ext
  simp [ByteArray.data_append]
/-- The text of a class. -/
def fmtL (h : Bool) (l g : Int) : List UInt8 := (if h then cpL l.toNat else smL l.toNat) :: Lib.decDigits g.toNat

set_option maxRecDepth 100000 in
set_option maxHeartbeats 2000000 in
theorem Format_ok (h : Bool) (l g : Int) (w : World) (hl0 : 0 ≤ l) (hl9 : l ≤ 9) (h5 : 5 ≤ g) (h12 : g ≤ 12) : Calls Tryz.prog 50 #[.agg #[.bool h, .int .i64 l, .int .i64 g]] w
    fun e w' => e = .returned (.tuple #[.string ⟨(fmtL h l g).toArray⟩, .int .i64 0]) ∧ Below w.heap.size w w' := by
  obtain ⟨i, rfl⟩ : ∃ i : Nat, l = (i : Int) := ⟨l.toNat, by omega⟩
  obtain ⟨k, rfl⟩ : ∃ k : Nat, g = (k : Int) := ⟨g.toNat, by omega⟩
  have hi : i < 10 := by omega
  have hk : k < 100 := by omega
  have hsm := small_at i hi
  have hI := Tryz.strconv_Itoa_small k hk
  have HI := Lib.hid hI
  have hd2 := dec_len hk
  have hd9 : ¬ 9223372036854775807 < 1 + (Lib.decDigits k).length := by omega
  clear hd2
  have hz : cE (i : Int) (k : Int) = 0 := cE_ok.2 ⟨⟨hl0, hl9⟩, h5, h12⟩
  have Hz := Lib.hid hz
  have hi1 : (i : Int) ≤ (i : Int) + 1 := by omega
  have hi2 : (i : Int) + 1 ≤ 10 := by omega
  clear hI hz
  cases h
  · skip
    go_enter Tryz.func50, Tryz.ntmps50
    go_wp2_with fail
    refine (check_c _ _ _ _).mono ?_
    rintro e w2 ⟨rfl, hbb⟩
    rw [Hz.out]
    have hr0 := (Row.new w #[.bool false, .int .i64 i, .int .i64 k] 40).next hbb
    have hb2 := ((Below.refl _ w).alloc (Nat.le_refl _) (.cells #[.bool false, .int .i64 i, .int .i64 k] 40)).trans (hbb.mono (by simp))
    clear hbb
    have hc0 := hr0.cell
    go_wp2_with fail
    refine (HI.out _).mono ?_
    rintro e w3 ⟨rfl, rfl⟩
    go_wp2
    go_ret2
    exact ⟨ret_str (by rw [cons_bytes]; simp [fmtL]), hb2⟩
  · skip
    go_enter Tryz.func50, Tryz.ntmps50
    go_wp2_with fail
    refine (check_c _ _ _ _).mono ?_
    rintro e w2 ⟨rfl, hbb⟩
    rw [Hz.out]
    have hr0 := (Row.new w #[.bool true, .int .i64 i, .int .i64 k] 40).next hbb
    have hb2 := ((Below.refl _ w).alloc (Nat.le_refl _) (.cells #[.bool true, .int .i64 i, .int .i64 k] 40)).trans (hbb.mono (by simp))
    clear hbb
    have hc0 := hr0.cell
    go_wp2_with fail
    refine (upper_one i hi _).mono ?_
    rintro e w3 ⟨rfl, hbb⟩
    have hr0 := hr0.next hbb
    have hb3 := hb2.trans (hbb.mono hb2.size)
    clear hbb hc0
    have hc0 := hr0.cell
    go_wp2_with fail
    refine (HI.out _).mono ?_
    rintro e w4 ⟨rfl, rfl⟩
    go_wp2
    go_ret2
    exact ⟨ret_str (by rw [cons_bytes]; simp [fmtL]), hb3⟩
set_option maxHeartbeats 1000000 in
theorem Format_err (h : Bool) (l g x : Int) (w : World) (hc : cE l g = x) (hx : (x == 0) = false) : Calls Tryz.prog 50 #[.agg #[.bool h, .int .i64 l, .int .i64 g]] w
    fun e w' => e = .returned (.tuple #[.string ⟨#[]⟩, .int .i64 x]) ∧ Below w.heap.size w w' := by
  have Hc := Lib.hid hc
  clear hc
  go_enter Tryz.func50, Tryz.ntmps50
  go_wp2_with fail
  refine (check_c _ _ _ _).mono ?_
  rintro e w2 ⟨rfl, hbb⟩
  rw [Hc.out]
  have hb2 := ((Below.refl _ w).alloc (Nat.le_refl _) (.cells #[.bool h, .int .i64 l, .int .i64 g] 40)).trans (hbb.mono (by simp))
  go_wp2
  go_ret2
  exact ⟨rfl, hb2⟩
/-- What Format returns. -/
def fmtV (h : Bool) (l g : Int) : Value := if cE l g = 0 then .tuple #[.string ⟨(fmtL h l g).toArray⟩, .int .i64 0] else .tuple #[.string ⟨#[]⟩, .int .i64 (cE l g)]
theorem Format_c (h : Bool) (l g : Int) (w : World) : Calls Tryz.prog 50 #[.agg #[.bool h, .int .i64 l, .int .i64 g]] w fun e w' => e = .returned (fmtV h l g) ∧ Below w.heap.size w w' := by
  unfold fmtV
  by_cases hc : cE l g = 0
  · rw [if_pos hc]
    obtain ⟨⟨a, b⟩, c, d⟩ := cE_ok.1 hc
    exact Format_ok h l g w a b c d
  · rw [if_neg hc]
    exact Format_err h l g _ w rfl (cE_ne hc)
end Go.Proofs.YtldghloflegpmaaGreatDoor

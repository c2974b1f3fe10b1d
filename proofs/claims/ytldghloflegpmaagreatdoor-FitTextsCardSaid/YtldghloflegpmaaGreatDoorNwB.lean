/- Plain: rows of decimal digits and the numbers that they spell. No program in sight. Contracts of the reference's layer 1: size, Below, bare, signed, less, column. Contracts of the reference's layer 1: number, brief, Of, Turned. Contracts of the reference's layer 1: brief, Turned, column, wide. Contracts of the reference's layer 1: wide. Contracts of the reference's layer 1: paper. Contracts of the reference's layer 1: paper. Contracts of the reference's layer 1: product. Contracts of the reference's layer 1: product. Contracts of the reference's layer 1: less, divided. Contracts of the reference's layer 1: Plus, Minus, Times at numbers that are not negative. Contracts of the reference's layer 1: Parted, Shared, Order, Check at numbers that are not negative. Contracts of the reference's layer 1: Parted, Order at numbers that are not negative. Contracts of the reference's layer 1: Shared, Check. Contracts of the reference's layer 2: slash, Split, Lowest, Over, Check, Signum, Times. Contracts of the reference's layer 2: Lowest, Over, Check, Signum, Times. Contracts of the reference's layer 14: digit, digits, numeral, Number. Contracts of the reference's layer 14: numeral, Number. -/
import Derived.Test.YtldghloflegpmaaGreatDoorPuN
import Derived.Test.YtldghloflegpmaaGreatDoorFwA
import Derived.Laws.BytesArg
import Derived.Lib.BufferWrite
import Derived.Laws.MakeOwn
import Derived.Laws.OwnMore
import Derived.Deep.RegionWith
import Derived.Test.YtldghloflegpmaaGreatDoorNwA
import Derived.Test.YtldghloflegpmaaGreatDoorPuR
namespace Go.Proofs.YtldghloflegpmaaGreatDoor
open Pu Go.Lib

/-- The number that digits spell. -/
def val (l : List UInt8) : Nat := l.foldl (fun a b => a * 10 + (b.toNat - 48)) 0
def isD (l : List UInt8) : Prop := ∀ b ∈ l, 48 ≤ b.toNat ∧ b.toNat ≤ 57
theorem foldl_val : ∀ (l : List UInt8) (a : Nat), l.foldl (fun a b => a * 10 + (b.toNat - 48)) a = a * 10 ^ l.length + val l
  | [], a => by simp [val]
  | x :: l, a => by
    unfold val
    rw [List.foldl_cons, List.foldl_cons, foldl_val l, foldl_val l, List.length_cons, Nat.pow_succ]
    generalize 10 ^ l.length = P
    simp only [Nat.add_mul, Nat.mul_assoc, Nat.zero_mul, Nat.zero_add, Nat.mul_comm 10 P]
    omega
theorem val_app (l k : List UInt8) : val (l ++ k) = val l * 10 ^ k.length + val k := by
  show List.foldl _ 0 (l ++ k) = _
  rw [List.foldl_append, foldl_val]
  rfl
theorem val_nil : val [] = 0 := rfl
theorem val_one (b : UInt8) : val [b] = b.toNat - 48 := by simp [val]
theorem val_cons (b : UInt8) (l : List UInt8) : val (b :: l) = (b.toNat - 48) * 10 ^ l.length + val l := by
  have := val_app [b] l
  rwa [List.singleton_append, val_one] at this
theorem val_snoc (l : List UInt8) (b : UInt8) : val (l ++ [b]) = val l * 10 + (b.toNat - 48) := by
  rw [val_app, val_one]; simp
theorem isD.app {l k : List UInt8} (h : isD l) (hk : isD k) : isD (l ++ k) := fun b hb => by
  rcases List.mem_append.1 hb with hb | hb
  · exact h b hb
  · exact hk b hb
theorem isD.left {l k : List UInt8} (h : isD (l ++ k)) : isD l := fun b hb => h b (List.mem_append_left _ hb)
theorem isD.right {l k : List UInt8} (h : isD (l ++ k)) : isD k := fun b hb => h b (List.mem_append_right _ hb)
theorem isD.tail {b : UInt8} {l : List UInt8} (h : isD (b :: l)) : isD l := fun x hx => h x (List.mem_cons_of_mem _ hx)
theorem isD_one {b : UInt8} (h : 48 ≤ b.toNat ∧ b.toNat ≤ 57) : isD [b] := fun x hx => by rw [List.mem_singleton.1 hx]; exact h
theorem val_lt : ∀ (l : List UInt8), isD l → val l < 10 ^ l.length
  | [], _ => by simp [val]
  | b :: l, h => by
    have h1 := val_lt l h.tail
    have h2 := h b (by simp)
    rw [val_cons, List.length_cons, Nat.pow_succ]
    generalize 10 ^ l.length = P at *
    have : (b.toNat - 48) * P ≤ 9 * P := Nat.mul_le_mul_right _ (by omega)
    omega
theorem isD_dD (u : Nat) : isD (Lib.decDigits u) := dD_dig u
theorem val_dD (u : Nat) : val (Lib.decDigits u) = u := by
  induction u using Nat.strongRecOn with
  | _ u ih =>
    by_cases h : u < 10
    · rw [Lib.decDigits_one h, val_one, dig_of h]; omega
    · rw [dD_step h, val_snoc, ih (u / 10) (by omega), dig_of (by omega)]; omega
theorem val_nT (u : Nat) : val (nT u).data.toList = u := val_dD u
theorem ofNat_dig {b : UInt8} (h : 48 ≤ b.toNat ∧ b.toNat ≤ 57) {d : Nat} (hd : d = b.toNat - 48) : UInt8.ofNat (48 + d) = b := by
  have : 48 + d = b.toNat := by omega
  rw [this, UInt8.ofNat_toNat]
/-- Digits without zeros in front are those of their number. -/
theorem dD_val : ∀ (n : Nat) (l : List UInt8), l.length = n → isD l → l ≠ [] → (l.length = 1 ∨ (l.headD 0).toNat ≠ 48) → Lib.decDigits (val l) = l
  | 0, l, hn, _, hne, _ => absurd (List.length_eq_zero_iff.1 hn) hne
  | n + 1, l, hn, hd, hne, hh => by
    obtain ⟨k, b, rfl⟩ : ∃ k b, l = k ++ [b] := ⟨l.dropLast, l.getLast hne, (List.dropLast_concat_getLast hne).symm⟩
    have hb := hd b (by simp)
    cases k with
    | nil =>
      rw [List.nil_append, val_one, Lib.decDigits_one (by omega), ofNat_dig hb rfl]
    | cons c k =>
      have hc := hd c (by simp)
      have hl : (c :: k).length = n := by simp at hn ⊢; omega
      have hh2 : c.toNat ≠ 48 := by
        rcases hh with h | h
        · simp at h
        · simpa using h
      have ih := dD_val n (c :: k) hl hd.left (by simp) (Or.inr (by simpa using hh2))
      have hpos : 0 < val (c :: k) := by
        rw [val_cons]
        have : 0 < (c.toNat - 48) * 10 ^ k.length := Nat.mul_pos (by omega) (Nat.pow_pos (by omega))
        omega
      rw [val_snoc, dD_step (by omega)]
      have e1 : (val (c :: k) * 10 + (b.toNat - 48)) / 10 = val (c :: k) := by omega
      have e2 : (val (c :: k) * 10 + (b.toNat - 48)) % 10 = b.toNat - 48 := by omega
      rw [e1, e2, ih, ofNat_dig hb rfl]
theorem nT_of {s : ByteArray} (hd : isD s.data.toList) (hs : 0 < s.size) (hh : s.size = 1 ∨ (s[0]'hs).toNat ≠ 48) : nT (val s.data.toList) = s := by
  have hl : s.data.toList.length = s.size := by simp
  have hne : s.data.toList ≠ [] := by intro e; rw [e] at hl; simp at hl; omega
  have h0 : s.data.toList.headD 0 = s[0]'hs := by
    cases hq : s.data.toList with
    | nil => exact absurd hq hne
    | cons x r =>
      have : s.data.toList[0]? = some (s[0]'hs) := by rw [Array.getElem?_toList, Array.getElem?_eq_getElem (by simpa using hs)]; rfl
      rw [hq] at this
      simpa using this
  have := dD_val _ s.data.toList rfl hd hne (by rw [hl, h0]; exact hh)
  apply ByteArray.ext
  unfold nT
  rw [this]
end Go.Proofs.YtldghloflegpmaaGreatDoor

namespace Go.Proofs.YtldghloflegpmaaGreatDoor
open Go.RowKit Go.Shelf Pu Go.Lib

/-- The text of a negative number. -/
def mT (u : Nat) : ByteArray := ⟨(45 :: Lib.decDigits u).toArray⟩
theorem at_list (s : ByteArray) (k : Nat) (h : k < s.size) : s.data.toList[k]? = some (s[k]'h) := by
  rw [Array.getElem?_toList, Array.getElem?_eq_getElem (by simpa using h)]; rfl
theorem at_mem (s : ByteArray) (k : Nat) (h : k < s.size) : (s[k]'h) ∈ s.data.toList := List.mem_of_getElem? (at_list s k h)
theorem drop_one (s : ByteArray) : (s.extract 1 s.size).data.toList = s.data.toList.drop 1 := extract_drop s
theorem mT_drop (u : Nat) : (mT u).extract 1 (mT u).size = nT u := by
  apply ByteArray.ext
  apply Array.ext'
  have := drop_one (mT u)
  rw [this]
  rfl
theorem mT_size (u : Nat) : (mT u).size = (nT u).size + 1 := by simp [mT, nT, ByteArray.size]
theorem mT_zero (u : Nat) (h : 0 < (mT u).size) : (mT u)[0]'h = 45 := by
  have := at_list (mT u) 0 h
  simpa [mT] using this.symm
theorem list_ne {s : ByteArray} (h : 0 < s.size) : s.toList.isEmpty = false := by
  rw [ByteArray.toList_eq]
  cases hq : s.data.toList with
  | nil => have : s.data.toList.length = s.size := by simp
           rw [hq] at this; simp at this; omega
  | cons x r => rfl
theorem list_ne' {s : ByteArray} (h : 0 < s.size) : ¬ s.toList = [] := by
  have := list_ne h
  intro e; rw [e] at this; cases this
/-- A row of digits. -/
structure Dig (s : ByteArray) : Prop where
  d : isD s.data.toList
  pos : 0 < s.size
theorem Dig.nT (u : Nat) : Dig (nT u) := ⟨isD_dD u, nT_pos u⟩
theorem Dig.b {s : ByteArray} (h : Dig s) (k : Nat) (hk : k < s.size) : 48 ≤ (s[k]'hk).toNat ∧ (s[k]'hk).toNat ≤ 57 := h.d _ (at_mem s k hk)

set_option maxHeartbeats 2000000 in
theorem rsize_dig (s : ByteArray) (w : World) (hs : Dig s) : Calls Tryz.prog 195 #[.string s] w fun e w' => e = .returned (.string s) ∧ w' = w := by
  have hp := hs.pos
  have h0 := hs.b 0 hp
  have hb' : ¬ ((s[0]'hp).toNat : Int) = 45 := by omega
  have hne := list_ne' hp
  have hie := list_ne hp
  go_enter Tryz.func195, Tryz.ntmps195
  go_wp2
  go_ret
  exact ⟨rfl, rfl⟩
set_option maxHeartbeats 2000000 in
theorem rsize_neg (u : Nat) (w : World) (hu : u < 1000000000000000000000000000000000000000000000000000000000000) : Calls Tryz.prog 195 #[.string (mT u)] w fun e w' => e = .returned (.string (nT u)) ∧ w' = w := by
  have hp : 0 < (mT u).size := by rw [mT_size]; omega
  have hb' : (((mT u)[0]'hp).toNat : Int) = 45 := by rw [mT_zero]; rfl
  have hne := list_ne' hp
  have hie := list_ne hp
  have hx := mT_drop u
  have hz : (mT u).size ≤ 100 := by have := nT_size_le (k := 59) hu; rw [mT_size]; omega
  generalize mT u = s at *
  have HX := Lib.hid hx
  clear hx
  go_enter Tryz.func195, Tryz.ntmps195
  go_wp2
  go_ret
  exact ⟨by rw [← HX.out]; rfl, rfl⟩
set_option maxHeartbeats 2000000 in
theorem rBelow_dig (s : ByteArray) (w : World) (hs : Dig s) : Calls Tryz.prog 197 #[.string s] w fun e w' => e = .returned (.bool false) ∧ w' = w := by
  have hp := hs.pos
  have h0 := hs.b 0 hp
  have hb' : (((s[0]'hp).toNat : Int) == 45) = false := by rw [beq_eq_false_iff_ne]; omega
  go_enter Tryz.func197, Tryz.ntmps197
  go_wp2
  go_ret
  exact ⟨rfl, rfl⟩
set_option maxHeartbeats 2000000 in
theorem rBelow_neg (u : Nat) (w : World) : Calls Tryz.prog 197 #[.string (mT u)] w fun e w' => e = .returned (.bool true) ∧ w' = w := by
  have hp : 0 < (mT u).size := by rw [mT_size]; omega
  have hb' : (((mT u)[0]'hp).toNat : Int) = 45 := by rw [mT_zero]; rfl
  generalize mT u = s at *
  go_enter Tryz.func197, Tryz.ntmps197
  go_wp2
  go_ret
  exact ⟨rfl, rfl⟩

theorem dig_drop {s : ByteArray} (hs : Dig s) (h1 : 1 < s.size) (h0 : (s[0]'hs.pos).toNat = 48) : Dig (s.extract 1 s.size) ∧ val (s.extract 1 s.size).data.toList = val s.data.toList ∧ (s.extract 1 s.size).size < s.size := by
  have hd := drop_one s
  have hl : s.data.toList.length = s.size := by simp
  have ha := at_list s 0 hs.pos
  cases hq : s.data.toList with
  | nil => rw [hq] at hl; simp at hl; omega
  | cons x r =>
    rw [hq] at hd ha hl
    simp only [List.drop_succ_cons, List.drop_zero] at hd
    have hx : x.toNat = 48 := by simp at ha; rw [ha]; exact h0
    have hz : (s.extract 1 s.size).size = r.length := by
      have : (s.extract 1 s.size).data.toList.length = (s.extract 1 s.size).size := by simp
      rw [← this, hd]
    have hD := hs.d
    rw [hq] at hD
    refine ⟨⟨by rw [hd]; exact hD.tail, by rw [hz]; simp at hl; omega⟩, ?_, by rw [hz]; simp at hl; omega⟩
    rw [hd, val_cons, hx]; simp

set_option maxHeartbeats 4000000 in
theorem rbare_c (s : ByteArray) (w : World) (hs : Dig s) (hz : s.size ≤ 200) : Calls Tryz.prog 228 #[.string s] w fun e w' => e = .returned (.string (nT (val s.data.toList))) ∧ w' = w := by
  obtain ⟨v, hv⟩ : ∃ v, val s.data.toList = v := ⟨_, rfl⟩
  rw [hv]
  go_enter Tryz.func228, Tryz.ntmps228
  go_wp2_with fail
  go_loopw [0] (fun p wr => ∃ t : ByteArray, p = .string t ∧ Dig t ∧ val t.data.toList = v ∧ t.size ≤ 200 ∧ wr = w) (fun p _ => match p with | .string t => t.size | _ => 0)
  case atStart => exact ⟨s, rfl, hs, hv, hz, rfl⟩
  case round =>
    obtain ⟨t, rfl, ht, hvt, hzt, rfl⟩ := hrel
    have hp := ht.pos
    by_cases h1 : 1 < t.size
    · by_cases h0 : (t[0]'hp).toNat = 48
      · obtain ⟨a, b, c⟩ := dig_drop ht h1 h0
        have h0' : ((t[0]'hp).toNat : Int) = 48 := by omega
        rw [hvt] at b
        have HB := Lib.hid b
        clear b hvt h0
        go_wp2
        go_roundw
        case rel => exact ⟨_, rfl, a, HB.out, by omega, trivial⟩
        case measure => exact c
      · have h0' : ¬ ((t[0]'hp).toNat : Int) = 48 := by omega
        have e := nT_of ht.d hp (Or.inr h0)
        rw [hvt] at e
        have HE := Lib.hid e
        clear e hvt h0
        go_wp2
        go_ret
        exact ⟨by rw [HE.out]; rfl, rfl⟩
    · have e := nT_of ht.d hp (Or.inl (by omega))
      rw [hvt] at e
      have HE := Lib.hid e
      clear e hvt
      go_wp2
      go_ret
      exact ⟨by rw [HE.out]; rfl, rfl⟩
set_option maxHeartbeats 2000000 in
theorem rsigned_no (s : ByteArray) (w : World) : Calls Tryz.prog 196 #[.string s, .bool false] w fun e w' => e = .returned (.string s) ∧ w' = w := by
  go_enter Tryz.func196, Tryz.ntmps196
  go_wp2
  go_ret
  exact ⟨rfl, rfl⟩
set_option maxHeartbeats 2000000 in
theorem rsigned_yes (u : Nat) (w : World) (hu : u < 1000000000000000000000000000000000000000000000000000000000000) (h0 : u ≠ 0) : Calls Tryz.prog 196 #[.string (nT u), .bool true] w fun e w' => e = .returned (.string (mT u)) ∧ w' = w := by
  have hne : ¬ (nT u).toList = [48] := by
    rw [ByteArray.toList_eq, nT_list]
    intro e
    exact h0 (dD_inj (e.trans dD_zero.symm))
  have hbe : ((nT u).toList == [48]) = false := by simpa using hne
  have hz := nT_size_le (k := 59) hu
  have hk : ¬ 9223372036854775807 < 1 + (nT u).size := by omega
  have hm : (⟨#[45]⟩ : ByteArray) ++ nT u = mT u := by
    apply ByteArray.ext
    simp [mT, nT, ByteArray.data_append]
  generalize mT u = m at *
  generalize nT u = s at *
  have HM := Lib.hid hm
  clear hm
  go_enter Tryz.func196, Tryz.ntmps196
  go_wp2
  go_ret
  exact ⟨by rw [← HM.out]; rfl, rfl⟩
end Go.Proofs.YtldghloflegpmaaGreatDoor

namespace Go.Proofs.YtldghloflegpmaaGreatDoor
open Go.RowKit Go.Shelf Pu Go.Lib

theorem take_val (s : ByteArray) (k : Nat) (hk : k < s.size) : val (s.data.toList.take (k + 1)) = val (s.data.toList.take k) * 10 + ((s[k]'hk).toNat - 48) := by
  have hl : s.data.toList.length = s.size := by simp
  rw [List.take_succ_eq_append_getElem (by omega), val_snoc]
  have := at_list s k hk
  rw [List.getElem?_eq_getElem (by omega)] at this
  rw [Option.some.inj this]
theorem take_lt {s : ByteArray} (hs : Dig s) (k : Nat) : val (s.data.toList.take k) < 10 ^ k := by
  have h := val_lt (s.data.toList.take k) (fun b hb => hs.d b (List.mem_of_mem_take hb))
  exact Nat.lt_of_lt_of_le h (Nat.pow_le_pow_right (by omega) (List.length_take_le _ _))
theorem pow_17 {k : Nat} (h : k ≤ 17) : 10 ^ k ≤ 100000000000000000 := Nat.pow_le_pow_right (n := 10) (by omega) h
theorem pow_18 {k : Nat} (h : k ≤ 18) : 10 ^ k ≤ 1000000000000000000 := Nat.pow_le_pow_right (n := 10) (by omega) h

set_option maxHeartbeats 4000000 in
theorem rnumber_dig (s : ByteArray) (w : World) (hs : Dig s) (h18 : s.size ≤ 18) : Calls Tryz.prog 227 #[.string s] w fun e w' => e = .returned (.int .i64 (val s.data.toList : Int)) ∧ w' = w := by
  have hS := fun w => rsize_dig s w hs
  have hB := fun w => rBelow_dig s w hs
  have HS := Lib.hid hS
  have HB := Lib.hid hB
  clear hS hB
  go_enter Tryz.func227, Tryz.ntmps227
  go_wp2_with fail
  refine (HS.out _).mono ?_
  rintro e w2 ⟨rfl, rfl⟩
  go_wp2_with fail
  go_loopw [3, 5] (fun p q wr => ∃ k : Nat, k ≤ s.size ∧ q = .int .i64 (k : Int) ∧ p = .int .i64 ((val (s.data.toList.take k) : Nat) : Int) ∧ wr = w2) (fun _ q _ => s.size - (intOf q).toNat)
  case atStart => exact ⟨0, by omega, rfl, rfl, rfl⟩
  case round =>
    obtain ⟨k, hk, rfl, rfl, rfl⟩ := hrel
    by_cases hlt : k < s.size
    · have hb := hs.b k hlt
      have ht := take_val s k hlt
      have hm := take_lt hs k
      have hp := pow_18 (show k ≤ 18 by omega)
      generalize val (s.data.toList.take k) = m at *
      have HT := Lib.hid ht
      clear ht
      have hm2 : m < 1000000000000000000 := by omega
      have hm3 : 10 * m + 9 < 10000000000000000000 := by omega
      have hk2 : m < 100000000000000000 := by
        have := take_lt hs k
        have h17 : 10 ^ k ≤ 100000000000000000 := pow_17 (by omega)
        omega
      clear hm hp
      go_wp2
      go_roundw
      case rel => exact ⟨k + 1, by omega, by go_num, by rw [HT.out]; go_num, trivial⟩
      case measure => simp [intOf]; omega
    · obtain rfl : k = s.size := by omega
      have e : s.data.toList.take s.size = s.data.toList := List.take_of_length_le (by simp)
      rw [e]
      go_wp2_with fail
      refine (HB.out _).mono ?_
      rintro e w3 ⟨rfl, rfl⟩
      go_wp2
      go_ret
      exact ⟨rfl, rfl⟩
set_option maxHeartbeats 4000000 in
theorem rnumber_neg (u : Nat) (w : World) (hu : u < 1000000000000000000) : Calls Tryz.prog 227 #[.string (mT u)] w fun e w' => e = .returned (.int .i64 (-(u : Int))) ∧ w' = w := by
  have hS := fun w => rsize_neg u w (by omega)
  have hB := fun w => rBelow_neg u w
  have hs := Dig.nT u
  have h18 := nT_size_le (k := 17) hu
  have hv := val_nT u
  generalize mT u = a at *
  generalize nT u = s at *
  have HS := Lib.hid hS
  have HB := Lib.hid hB
  have HV := Lib.hid hv
  clear hS hB hv
  go_enter Tryz.func227, Tryz.ntmps227
  go_wp2_with fail
  refine (HS.out _).mono ?_
  rintro e w2 ⟨rfl, rfl⟩
  go_wp2_with fail
  go_loopw [3, 5] (fun p q wr => ∃ k : Nat, k ≤ s.size ∧ q = .int .i64 (k : Int) ∧ p = .int .i64 ((val (s.data.toList.take k) : Nat) : Int) ∧ wr = w2) (fun _ q _ => s.size - (intOf q).toNat)
  case atStart => exact ⟨0, by omega, rfl, rfl, rfl⟩
  case round =>
    obtain ⟨k, hk, rfl, rfl, rfl⟩ := hrel
    by_cases hlt : k < s.size
    · have hb := hs.b k hlt
      have ht := take_val s k hlt
      have hk2 : val (s.data.toList.take k) < 100000000000000000 := by
        have := take_lt hs k
        have h17 : 10 ^ k ≤ 100000000000000000 := pow_17 (by omega)
        omega
      generalize val (s.data.toList.take k) = m at *
      have HT := Lib.hid ht
      clear ht
      go_wp2
      go_roundw
      case rel => exact ⟨k + 1, by omega, by go_num, by rw [HT.out]; go_num, trivial⟩
      case measure => simp [intOf]; omega
    · obtain rfl : k = s.size := by omega
      have e : s.data.toList.take s.size = s.data.toList := List.take_of_length_le (by simp)
      rw [e, HV.out]
      go_wp2_with fail
      refine (HB.out _).mono ?_
      rintro e w3 ⟨rfl, rfl⟩
      go_wp2
      go_ret
      exact ⟨rfl, rfl⟩

/-- A canonical integer: digits, or the text of a negative number. -/
def zT (n : Int) : ByteArray := if n < 0 then mT n.natAbs else nT n.toNat
theorem zT_nat (u : Nat) : zT (u : Int) = nT u := by unfold zT; rw [if_neg (by omega), Int.toNat_natCast]
theorem zT_neg {u : Nat} (h : u ≠ 0) : zT (-(u : Int)) = mT u := by unfold zT; rw [if_pos (by omega)]; congr 1; omega

theorem conv_one (w : World) (c : Int) : (convert 160 9 (.slice (some ⟨w.heap.size, 0, none⟩) 1 1)).run Tryz.prog (w.alloc (.cells #[.int .u8 c] 5)) = .ok (.string (strOfNums [c])) (w.alloc (.cells #[.int .u8 c] 5)) :=
  run_convert_bytes_arg (P := Tryz.prog) _ 160 5 Tryz.underlying160 Tryz.underlying5 w.heap.size 0 1 1 [c] rfl (fun i hi => by
    have e : i = 0 := by omega
    subst e
    exact (Row.new w #[.int .u8 c] 5).cell 0) 9 Tryz.underlying9
theorem one_str (d : Nat) (_h : d < 10) : (strOfNums [48 + (d : Int)]).data.toList = [UInt8.ofNat (48 + d)] ∧ (strOfNums [48 + (d : Int)]).size = 1 := by
  have e : (48 + (d : Int)).toNat = 48 + d := by omega
  constructor
  · rw [strOfNums_data, List.map_cons, List.map_nil, e]
  · rw [strOfNums_size]; rfl
set_option maxRecDepth 100000 in
set_option maxHeartbeats 4000000 in
theorem rOf01_pos (u : Nat) (w : World) (hu : u < 9000000000000000000) (h0 : u ≠ 0) : Calls Tryz.prog 148 #[.int .i64 (u : Int)] w fun e w' => e = .returned (.string (nT u)) ∧ Below w.heap.size w w' := by
  have n1 : IntKind.i64.wrap (-(u : Int)) = -(u : Int) := by rw [IntWalk.i64_in _ (by omega)]
  have n2 : ((u : Int) == -(u : Int)) = false := by rw [beq_eq_false_iff_ne]; omega
  have n3 : ¬ (u : Int) < 0 := by omega
  have hz := nT_size_le (k := 18) (u := u) (by omega)
  go_enter Tryz.func148, Tryz.ntmps148
  go_wp2_with fail
  go_loopw [0, 3] (fun p q wr => ∃ (n : Nat) (T : ByteArray), p = .int .i64 (n : Int) ∧ q = .string T ∧ n ≤ u ∧ T.size ≤ 100 - n.log2 ∧ Hid (Lib.decDigits u = Lib.decDigits n ++ T.data.toList) ∧ Below w.heap.size w wr) (fun p _ _ => (intOf p).toNat)
  case atStart => exact ⟨u, ⟨#[]⟩, rfl, rfl, by omega, by show 0 ≤ _; omega, Lib.hid (by show _ = _ ++ []; rw [List.append_nil]), Below.refl _ _⟩
  case round =>
    obtain ⟨n, T, rfl, rfl, hn, hsz, HL, hb⟩ := hrel
    by_cases h9 : 9 < n
    · have hcv := conv_one wr (48 + (n : Int) % 10)
      obtain ⟨s1, s2⟩ := one_str (n % 10) (Nat.mod_lt _ (by omega))
      rw [show ((n % 10 : Nat) : Int) = (n : Int) % 10 by omega] at s1 s2
      have hlg : (n / 10).log2 + 1 ≤ n.log2 := by
        have h2 : (n / 2).log2 + 1 = n.log2 := by
          rw [Nat.log2_def n, if_pos (by omega)]
        have h3 : (n / 10).log2 ≤ (n / 2).log2 := by
          have h4 : n / 10 ≤ n / 2 := by omega
          rcases Nat.eq_zero_or_pos (n / 10) with h | h
          · rw [h]; simp
          · exact (Nat.le_log2 (by omega)).2 (Nat.le_trans (Nat.log2_self_le (by omega)) h4)
        omega
      have hlb : n.log2 ≤ 64 := by
        rcases Nat.lt_or_ge 64 n.log2 with h | h
        · exfalso
          have := (Nat.le_log2 (n := n) (k := 65) (by omega)).1 h
          have : 2 ^ 65 ≤ n := this
          omega
        · exact h
      have hst := dD_step (u := n) (by omega)
      rw [← s1] at hst
      generalize strOfNums [48 + (n : Int) % 10] = S at *
      have hnew : Lib.decDigits u = Lib.decDigits (n / 10) ++ (S ++ T).data.toList := by
        rw [HL.out, hst]; simp [ByteArray.data_append]
      have HN := Lib.hid hnew
      have hsT : (S ++ T).size = 1 + T.size := by rw [ByteArray.size_append, s2]
      have hk : ¬ 9223372036854775807 < S.size + T.size := by omega
      clear s1 hst hnew HL
      have hsw := hb.size
      go_wp2
      go_roundw
      case rel => exact ⟨n / 10, S ++ T, by go_num, rfl, by omega, by omega, HN, hb.alloc hsw _⟩
      case measure => simp [intOf]; omega
    · have hcv := conv_one wr (48 + (n : Int))
      obtain ⟨s1, s2⟩ := one_str n (by omega)
      generalize strOfNums [48 + (n : Int)] = S at *
      have hnew : nT u = S ++ T := by
        apply ByteArray.ext
        apply Array.ext'
        have := HL.out
        rw [Lib.decDigits_one (show n < 10 by omega), ← s1] at this
        simp only [nT]
        rw [this]
        simp [ByteArray.data_append]
      have HN := Lib.hid hnew
      have hk : ¬ 9223372036854775807 < S.size + T.size := by omega
      clear s1 hnew HL
      have hsw := hb.size
      go_wp2
      go_ret
      exact ⟨by rw [HN.out]; rfl, hb.alloc hsw _⟩
set_option maxRecDepth 100000 in
set_option maxHeartbeats 4000000 in
theorem rOf01_zero (w : World) : Calls Tryz.prog 148 #[.int .i64 0] w fun e w' => e = .returned (.string (nT 0)) ∧ Below w.heap.size w w' := by
  have hcv := conv_one w 48
  have s2 : strOfNums [48] ++ ⟨#[]⟩ = nT 0 := by rw [nT_zero]; rfl
  have s3 : (strOfNums [48]).size = 1 := rfl
  generalize strOfNums [48] = S at *
  have HS := Lib.hid s2
  clear s2
  go_enter Tryz.func148, Tryz.ntmps148
  go_wp2_with fail
  refine wp_loop_rounds 1 ?_
  rw [rounds_succ]
  go_wp2
  go_ret
  exact ⟨by rw [← HS.out]; rfl, (Below.refl _ w).alloc (Nat.le_refl _) _⟩
theorem rOf01_c (u : Nat) (w : World) (hu : u < 9000000000000000000) : Calls Tryz.prog 148 #[.int .i64 (u : Int)] w fun e w' => e = .returned (.string (nT u)) ∧ Below w.heap.size w w' := by
  by_cases h : u = 0
  · subst h; exact rOf01_zero w
  · exact rOf01_pos u w hu h
end Go.Proofs.YtldghloflegpmaaGreatDoor

namespace Go.Proofs.YtldghloflegpmaaGreatDoor
open Go.RowKit Go.Shelf Pu Go.Lib

set_option maxHeartbeats 4000000 in
theorem rbrief_yes (a b s t : ByteArray) (x y : Int) (w : World) (h1 : ∀ w, Calls Tryz.prog 195 #[.string a] w fun e w' => e = .returned (.string s) ∧ w' = w) (h2 : ∀ w, Calls Tryz.prog 195 #[.string b] w fun e w' => e = .returned (.string t) ∧ w' = w)
    (h3 : ∀ w, Calls Tryz.prog 227 #[.string a] w fun e w' => e = .returned (.int .i64 x) ∧ w' = w) (h4 : ∀ w, Calls Tryz.prog 227 #[.string b] w fun e w' => e = .returned (.int .i64 y) ∧ w' = w)
    (l1 : s.size ≤ 18) (l2 : t.size ≤ 18) : Calls Tryz.prog 193 #[.string a, .string b] w fun e w' => e = .returned (.tuple #[.int .i64 x, .int .i64 y, .bool true]) ∧ w' = w := by
  have H1 := Lib.hid h1
  have H2 := Lib.hid h2
  have H3 := Lib.hid h3
  have H4 := Lib.hid h4
  have k1 : ¬ 18 < s.size := by omega
  have k2 : ¬ 18 < t.size := by omega
  clear h1 h2 h3 h4
  go_enter Tryz.func193, Tryz.ntmps193
  go_wp2_with fail
  refine (H1.out _).mono ?_
  rintro e w' ⟨rfl, rfl⟩
  go_wp2_with fail
  refine (H2.out _).mono ?_
  rintro e w' ⟨rfl, rfl⟩
  go_wp2_with fail
  refine (H3.out _).mono ?_
  rintro e w' ⟨rfl, rfl⟩
  go_wp2_with fail
  refine (H4.out _).mono ?_
  rintro e w' ⟨rfl, rfl⟩
  go_wp2
  exact bodyPost_ret (v := .tuple #[.int .i64 x, .int .i64 y, .bool true]) (by simp [results, Tryz.results193, go_sem]) rfl ⟨rfl, rfl⟩
set_option maxHeartbeats 4000000 in
theorem rbrief_no (a b s t : ByteArray) (w : World) (h1 : ∀ w, Calls Tryz.prog 195 #[.string a] w fun e w' => e = .returned (.string s) ∧ w' = w) (h2 : ∀ w, Calls Tryz.prog 195 #[.string b] w fun e w' => e = .returned (.string t) ∧ w' = w)
    (l : 18 < s.size ∨ 18 < t.size) : Calls Tryz.prog 193 #[.string a, .string b] w fun e w' => e = .returned (.tuple #[.int .i64 0, .int .i64 0, .bool false]) ∧ w' = w := by
  have H1 := Lib.hid h1
  have H2 := Lib.hid h2
  clear h1 h2
  by_cases l1 : 18 < s.size
  · go_enter Tryz.func193, Tryz.ntmps193
    go_wp2_with fail
    refine (H1.out _).mono ?_
    rintro e w' ⟨rfl, rfl⟩
    go_wp2
    exact bodyPost_ret (v := .tuple #[.int .i64 0, .int .i64 0, .bool false]) (by simp [results, Tryz.results193, go_sem]) rfl ⟨rfl, rfl⟩
  · have l2 : 18 < t.size := l.resolve_left l1
    clear l
    go_enter Tryz.func193, Tryz.ntmps193
    go_wp2_with fail
    refine (H1.out _).mono ?_
    rintro e w' ⟨rfl, rfl⟩
    go_wp2_with fail
    refine (H2.out _).mono ?_
    rintro e w' ⟨rfl, rfl⟩
    go_wp2
    exact bodyPost_ret (v := .tuple #[.int .i64 0, .int .i64 0, .bool false]) (by simp [results, Tryz.results193, go_sem]) rfl ⟨rfl, rfl⟩
/-- brief at two numbers that are not negative. -/
theorem rbrief_dig (s t : ByteArray) (w : World) (hs : Dig s) (ht : Dig t) (l1 : s.size ≤ 18) (l2 : t.size ≤ 18) : Calls Tryz.prog 193 #[.string s, .string t] w
    fun e w' => e = .returned (.tuple #[.int .i64 (val s.data.toList : Int), .int .i64 (val t.data.toList : Int), .bool true]) ∧ w' = w :=
  rbrief_yes s t s t _ _ w (fun w => rsize_dig s w hs) (fun w => rsize_dig t w ht) (fun w => rnumber_dig s w hs l1) (fun w => rnumber_dig t w ht l2) l1 l2
theorem rbrief_big (s t : ByteArray) (w : World) (hs : Dig s) (ht : Dig t) (l : 18 < s.size ∨ 18 < t.size) : Calls Tryz.prog 193 #[.string s, .string t] w
    fun e w' => e = .returned (.tuple #[.int .i64 0, .int .i64 0, .bool false]) ∧ w' = w :=
  rbrief_no s t s t w (fun w => rsize_dig s w hs) (fun w => rsize_dig t w ht) l

set_option maxHeartbeats 4000000 in
theorem rTurned_c (u : Nat) (w : World) (hu : u < 1000000000000000000000000000000000000000000000000000000000000) : Calls Tryz.prog 200 #[.string (nT u)] w fun e w' => e = .returned (.string (zT (-(u : Int)))) ∧ w' = w := by
  have h1 := fun w => rsize_dig (nT u) w (Dig.nT u)
  have h2 := fun w => rBelow_dig (nT u) w (Dig.nT u)
  have h3 : ∀ w, Calls Tryz.prog 196 #[.string (nT u), .bool true] w fun e w' => e = .returned (.string (zT (-(u : Int)))) ∧ w' = w := fun w => by
    by_cases h0 : u = 0
    · subst h0
      rw [show zT (-((0 : Nat) : Int)) = nT 0 from rfl, nT_zero]
      go_enter Tryz.func196, Tryz.ntmps196
      go_wp2
      go_ret
      exact ⟨rfl, rfl⟩
    · rw [zT_neg h0]; exact rsigned_yes u w hu h0
  generalize zT (-(u : Int)) = z at *
  generalize nT u = s at *
  have H1 := Lib.hid h1
  have H2 := Lib.hid h2
  have H3 := Lib.hid h3
  clear h1 h2 h3
  go_enter Tryz.func200, Tryz.ntmps200
  go_wp2_with fail
  refine (H1.out _).mono ?_
  rintro e w' ⟨rfl, rfl⟩
  go_wp2_with fail
  refine (H2.out _).mono ?_
  rintro e w' ⟨rfl, rfl⟩
  go_wp2_with fail
  refine (H3.out _).mono ?_
  rintro e w' ⟨rfl, rfl⟩
  go_wp2
  go_ret
  exact ⟨rfl, rfl⟩

/-- One column of a sum, of a difference: the digit, the carry. -/
def colD (add : Bool) (x y c : Nat) : Nat := if add then (x + y + c) % 10 else (x + 10 - y - c) % 10
def colC (add : Bool) (x y c : Nat) : Nat := if add then (x + y + c) / 10 else if x < y + c then 1 else 0
set_option maxHeartbeats 4000000 in
theorem rcolumn_c (x y c : Nat) (add : Bool) (w : World) (hx : x ≤ 9) (hy : y ≤ 9) (hc : c ≤ 1) : Calls Tryz.prog 248 #[.int .u8 (48 + (x : Int)), .int .u8 (48 + (y : Int)), .int .i64 (c : Int), .bool add] w
    fun e w' => e = .returned (.tuple #[.int .u8 (48 + (colD add x y c : Int)), .int .i64 (colC add x y c : Int)]) ∧ w' = w := by
  cases add with
  | true =>
    by_cases h : 9 < x + y + c
    · have e1 : (colD true x y c : Int) = (x : Int) + y + c - 10 := by unfold colD; simp only [if_true]; omega
      have e2 : (colC true x y c : Int) = 1 := by unfold colC; simp only [if_true]; omega
      rw [e1, e2]
      clear e1 e2
      go_enter Tryz.func248, Tryz.ntmps248
      go_wp2
      exact bodyPost_ret (v := .tuple #[.int .u8 (48 + ((x : Int) + y + c - 10)), .int .i64 1]) (by simp [results, Tryz.results248, go_sem]; try omega) rfl ⟨rfl, rfl⟩
    · have e1 : (colD true x y c : Int) = (x : Int) + y + c := by unfold colD; simp only [if_true]; omega
      have e2 : (colC true x y c : Int) = 0 := by unfold colC; simp only [if_true]; omega
      rw [e1, e2]
      clear e1 e2
      go_enter Tryz.func248, Tryz.ntmps248
      go_wp2
      exact bodyPost_ret (v := .tuple #[.int .u8 (48 + ((x : Int) + y + c)), .int .i64 0]) (by simp [results, Tryz.results248, go_sem]; try omega) rfl ⟨rfl, rfl⟩
  | false =>
    by_cases h : x < y + c
    · have e1 : (colD false x y c : Int) = (x : Int) - y - c + 10 := by unfold colD; simp only [Bool.false_eq_true, if_false]; omega
      have e2 : (colC false x y c : Int) = 1 := by unfold colC; simp only [Bool.false_eq_true, if_false]; rw [if_pos h]; rfl
      rw [e1, e2]
      clear e1 e2
      go_enter Tryz.func248, Tryz.ntmps248
      go_wp2
      exact bodyPost_ret (v := .tuple #[.int .u8 (48 + ((x : Int) - y - c + 10)), .int .i64 1]) (by simp [results, Tryz.results248, go_sem]; try omega) rfl ⟨rfl, rfl⟩
    · have e1 : (colD false x y c : Int) = (x : Int) - y - c := by unfold colD; simp only [Bool.false_eq_true, if_false]; omega
      have e2 : (colC false x y c : Int) = 0 := by unfold colC; simp only [Bool.false_eq_true, if_false]; rw [if_neg h]; rfl
      rw [e1, e2]
      clear e1 e2
      go_enter Tryz.func248, Tryz.ntmps248
      go_wp2
      exact bodyPost_ret (v := .tuple #[.int .u8 (48 + ((x : Int) - y - c)), .int .i64 0]) (by simp [results, Tryz.results248, go_sem]; try omega) rfl ⟨rfl, rfl⟩
end Go.Proofs.YtldghloflegpmaaGreatDoor

namespace Go.Proofs.YtldghloflegpmaaGreatDoor
open Go.RowKit Go.Shelf Pu Go.Lib

/-- Bytes as cells. -/
def bC (l : List UInt8) : Array Value := (byteCells l).toArray
theorem bC_size (l : List UInt8) : (bC l).size = l.length := by simp [bC, byteCells]
theorem bC_get (l : List UInt8) (i : Nat) (h : i < l.length) : (bC l)[i]? = some (.int .u8 ((l[i]'h).toNat : Int)) := by
  simp [bC, byteCells, h]
theorem bC_set (l : List UInt8) (i : Nat) (b : UInt8) : (bC l).setIfInBounds i (.int .u8 (b.toNat : Int)) = bC (l.set i b) := by
  apply Array.ext'
  simp [bC, byteCells, List.map_set]
theorem info5 : (Tryz.prog.info? 5).map (fun i => (i.zero, i.size, i.bytes)) = some (some (.int .u8 0), 1, 1) := by kernel_rfl
theorem size5 : (Tryz.prog.info? 5).map (·.size) = some 1 := by kernel_rfl
set_option maxRecDepth 100000 in
theorem make_bytes (n : Nat) (w : World) (hn : n ≤ 1000) : (Instr.makeSlice 160 (.int .i64 (n : Int)) (.int .i64 (n : Int))).run Tryz.prog w = .ok (.slice (some ⟨w.heap.size, 0, none⟩) n n) (w.alloc (.cells (bC (List.replicate n 0)) 5)) := by
  obtain ⟨i, hi, hz, hsz, hb⟩ := info_parts info5
  have h := run_make (P := Tryz.prog) w 160 5 i (.int .u8 0) Tryz.underlying160 hi hz .i64 .i64 (n : Int) (n : Int) (by omega) (Int.le_refl _) (by rw [hb]; omega) (by omega)
  rw [h, hsz]
  simp only [Int.toNat_natCast, Nat.mul_one]
  congr 3
  apply Array.ext'
  show (madeCells #[Value.int .u8 0] n).toList = _
  rw [toList_madeCells_one]
  simp [bC, byteCells]
set_option maxRecDepth 100000 in
theorem conv_bC {w : World} {g : Nat} {l : List UInt8} {T : TypeId} (cap : Nat) (h : Row w g (bC l) T) : (convert 160 9 (.slice (some ⟨g, 0, none⟩) l.length cap)).run Tryz.prog w = .ok (.string ⟨l.toArray⟩) w := by
  have := run_convert_bytes_arg (P := Tryz.prog) w 160 5 Tryz.underlying160 Tryz.underlying5 g 0 l.length cap (l.map fun b => (b.toNat : Int)) (by simp) (fun i hi => by
    rw [h.cell, Nat.zero_add, bC_get l i hi]
    simp [List.getD, hi]) 9 Tryz.underlying9
  rw [this]
  congr 2
  apply ByteArray.ext
  apply Array.ext'
  show (strOfNums _).data.toList = l
  rw [strOfNums_data, List.map_map]
  apply List.ext_getElem?
  intro i
  rw [List.getElem?_map]
  cases l[i]? <;> simp
set_option maxRecDepth 100000 in
theorem copy_bC {w : World} {g : Nat} {l : List UInt8} (o dLen dCap : Nat) (s : ByteArray) (h : Row w g (bC l) 5) (hle : s.size ≤ dLen) (hfit : o + s.size ≤ l.length) :
    (Builtin.copy_ #[160, 9] 3 #[.slice (some ⟨g, o, none⟩) dLen dCap, .string s]).run Tryz.prog w = .ok (goInt s.size) (w.setRow g (bC (l.take o ++ s.data.toList ++ l.drop (o + s.size)))) := by
  have := run_copy_row_string (P := Tryz.prog) w 160 9 3 5 g o dLen dCap s (bC l) 5 Tryz.underlying160 size5 h hle (by rw [bC_size]; exact hfit)
  rw [this]
  congr 2
  simp [bC, byteCells, List.map_take, List.map_drop]

set_option maxRecDepth 100000 in
set_option maxHeartbeats 4000000 in
theorem rwide_c (s : ByteArray) (n : Nat) (w : World) (hp : 0 < s.size) (hn : s.size ≤ n) (hz : n ≤ 300) : Calls Tryz.prog 247 #[.string s, .int .i64 (n : Int)] w
    fun e w' => e = .returned (.string ⟨(List.replicate (n - s.size) 48 ++ s.data.toList).toArray⟩) ∧ Below w.heap.size w w' := by
  have hmk := make_bytes n w (by omega)
  go_enter Tryz.func247, Tryz.ntmps247
  go_wp2_with fail
  go_loopw [6] (fun p wr => ∃ i : Nat, i ≤ n ∧ p = .int .i64 (i : Int) ∧ Row wr w.heap.size (bC (List.replicate i 48 ++ List.replicate (n - i) 0)) 5 ∧ Below w.heap.size w wr) (fun p _ => n - (intOf p).toNat)
  case atStart => exact ⟨0, by omega, rfl, by simpa using Row.new w (bC (List.replicate n 0)) 5, (Below.refl _ w).alloc (Nat.le_refl _) _⟩
  case round =>
    obtain ⟨i, hi, rfl, hr, hb⟩ := hrel
    by_cases hlt : i < n
    · have hc : wr.cell? ⟨w.heap.size, i, none⟩ = some (.int .u8 0) := by
        rw [hr.cell, bC_get _ i (by simp; omega)]
        congr 2
        rw [List.getElem_append_right (by simp)]
        simp
      have hf := hr.frozen i
      have hp := hr.put i (.int .u8 48)
      rw [show (Value.int .u8 48) = .int .u8 (((48 : UInt8).toNat : Nat) : Int) from rfl, bC_set] at hp
      have el : (List.replicate i (48 : UInt8) ++ List.replicate (n - i) 0).set i 48 = List.replicate (i + 1) 48 ++ List.replicate (n - (i + 1)) 0 := by
        rw [List.set_append, if_neg (by simp)]
        obtain ⟨m, hm⟩ : ∃ m, n - i = m + 1 := ⟨n - i - 1, by omega⟩
        rw [hm, show n - (i + 1) = m by omega, List.length_replicate, Nat.sub_self, List.replicate_succ, List.set_cons_zero, List.replicate_succ' (n := i)]
        simp
      rw [el] at hp
      have HP := Lib.hid hp
      clear hp el
      go_wp2
      go_roundw
      case rel => exact ⟨i + 1, by omega, by go_num, HP.out, hb.setCell (Nat.le_refl _) _⟩
      case measure => simp [intOf]; omega
    · obtain rfl : i = n := by omega
      rw [Nat.sub_self, List.replicate_zero, List.append_nil] at hr
      obtain ⟨o, ho⟩ : ∃ o, i - s.size = o := ⟨_, rfl⟩
      have ho2 : (i : Int) - (s.size : Int) = (o : Int) := by omega
      have hio : ¬ i = o := by omega
      have hcp := copy_bC (l := List.replicate i 48) o (i - o) (i - o) s hr (by omega) (by simp; omega)
      have el : (List.replicate i (48 : UInt8)).take o ++ s.data.toList ++ (List.replicate i (48 : UInt8)).drop (o + s.size) = List.replicate o 48 ++ s.data.toList := by
        rw [List.take_replicate, List.drop_replicate, Nat.min_eq_left (by omega), show i - (o + s.size) = 0 by omega, List.replicate_zero, List.append_nil]
      rw [el] at hcp
      have hr2 := hr.set (bC (List.replicate o 48 ++ s.data.toList))
      have hl : (List.replicate o (48 : UInt8) ++ s.data.toList).length = i := by simp; omega
      have hcv := conv_bC i hr2
      rw [hl] at hcv
      rw [show ∀ x : Nat, goInt x = .int .i64 (x : Int) from fun _ => rfl] at hcp
      obtain ⟨L, hL⟩ : ∃ L, List.replicate (i - s.size) (48 : UInt8) ++ s.data.toList = L := ⟨_, rfl⟩
      have HL := Lib.hid hL
      rw [ho] at hL
      rw [hL] at hcp hr2 hcv
      clear hL
      have hb2 := below_row hb (Nat.le_refl w.heap.size) (bC L)
      clear hr hr2 el hl hb ho hn hp
      go_wp2
      go_ret
      exact ⟨by rw [HL.out]; rfl, hb2⟩
end Go.Proofs.YtldghloflegpmaaGreatDoor

namespace Go.Proofs.YtldghloflegpmaaGreatDoor
open Go.RowKit Go.Shelf Pu Go.Lib

theorem col_le (add : Bool) {x y c : Nat} (hx : x ≤ 9) (hy : y ≤ 9) (hc : c ≤ 1) : colD add x y c ≤ 9 ∧ colC add x y c ≤ 1 := by
  unfold colD colC
  cases add
  · simp only [Bool.false_eq_true, if_false]; split <;> omega
  · simp only [if_true]; omega
theorem col_add {x y c : Nat} : colD true x y c + 10 * colC true x y c = x + y + c := by unfold colD colC; simp only [if_true]; omega
theorem col_sub {x y c : Nat} (hx : x ≤ 9) (hy : y ≤ 9) (hc : c ≤ 1) : colD false x y c + y + c = x + 10 * colC false x y c := by
  unfold colD colC; simp only [Bool.false_eq_true, if_false]; split <;> omega
/-- The digit of a column, as a byte. -/
def cB (add : Bool) (a b : UInt8) (c : Nat) : UInt8 := UInt8.ofNat (48 + colD add (a.toNat - 48) (b.toNat - 48) c)
def cK (add : Bool) (a b : UInt8) (c : Nat) : Nat := colC add (a.toNat - 48) (b.toNat - 48) c
theorem rcolumn_b (a b : UInt8) (c : Nat) (add : Bool) (w : World) (ha : 48 ≤ a.toNat ∧ a.toNat ≤ 57) (hb : 48 ≤ b.toNat ∧ b.toNat ≤ 57) (hc : c ≤ 1) : Calls Tryz.prog 248 #[.int .u8 (a.toNat : Int), .int .u8 (b.toNat : Int), .int .i64 (c : Int), .bool add] w
    fun e w' => e = .returned (.tuple #[.int .u8 ((cB add a b c).toNat : Int), .int .i64 (cK add a b c : Int)]) ∧ w' = w := by
  have h := rcolumn_c (a.toNat - 48) (b.toNat - 48) c add w (by omega) (by omega) hc
  have hl := (col_le add (x := a.toNat - 48) (y := b.toNat - 48) (by omega) (by omega) hc).1
  rw [show (48 + ((a.toNat - 48 : Nat) : Int)) = (a.toNat : Int) by omega, show (48 + ((b.toNat - 48 : Nat) : Int)) = (b.toNat : Int) by omega] at h
  rw [show ((cB add a b c).toNat : Int) = 48 + (colD add (a.toNat - 48) (b.toNat - 48) c : Int) by unfold cB; rw [dig_of (by omega)]; omega]
  exact h
/-- What is reckoned from the place j on. -/
def PI (add : Bool) (A B L : List UInt8) (n j c : Nat) : Prop :=
  L.length = n ∧ isD (L.drop j) ∧ (if add then val (L.drop j) + c * 10 ^ (n - j) = val (A.drop j) + val (B.drop j) else val (L.drop j) + val (B.drop j) = val (A.drop j) + c * 10 ^ (n - j))
theorem PI.start (add : Bool) {A B L : List UInt8} {n : Nat} (ha : A.length = n) (hb : B.length = n) (hl : L.length = n) : PI add A B L n n 0 := by
  have e : ∀ X : List UInt8, X.length = n → X.drop n = [] := fun X h => List.drop_eq_nil_of_le (by omega)
  refine ⟨hl, ?_, ?_⟩
  · rw [e L hl]; intro b hb; cases hb
  · rw [e A ha, e B hb, e L hl]; cases add <;> simp [val]
theorem drop_val {X : List UInt8} {n i : Nat} (h : X.length = n) (hi : i < n) : val (X.drop i) = ((X[i]'(by omega)).toNat - 48) * 10 ^ (n - (i + 1)) + val (X.drop (i + 1)) := by
  subst h
  rw [List.drop_eq_getElem_cons hi, val_cons, List.length_drop]
theorem PI.step {add : Bool} {A B L : List UInt8} {n i c : Nat} (h : PI add A B L n (i + 1) c) (hA : A.length = n) (hB : B.length = n) (hi : i < n) (hc : c ≤ 1) {a b : UInt8} (ea : A[i]? = some a) (eb : B[i]? = some b)
    (ha : 48 ≤ a.toNat ∧ a.toNat ≤ 57) (hb : 48 ≤ b.toNat ∧ b.toNat ≤ 57) : PI add A B (L.set i (cB add a b c)) n i (cK add a b c) ∧ cK add a b c ≤ 1 := by
  obtain ⟨h1, h2, h3⟩ := h
  have hd := col_le add (x := a.toNat - 48) (y := b.toNat - 48) (c := c) (by omega) (by omega) hc
  have hlen : (L.set i (cB add a b c)).length = n := by rw [List.length_set]; exact h1
  have eA : A[i]'(by omega) = a := by rw [List.getElem?_eq_getElem (by omega)] at ea; exact Option.some.inj ea
  have eB : B[i]'(by omega) = b := by rw [List.getElem?_eq_getElem (by omega)] at eb; exact Option.some.inj eb
  have eL : (L.set i (cB add a b c))[i]'(by omega) = cB add a b c := List.getElem_set_self _
  have dL : (L.set i (cB add a b c)).drop (i + 1) = L.drop (i + 1) := by rw [List.drop_set_of_lt (by omega)]
  have hB9 : (cB add a b c).toNat = 48 + colD add (a.toNat - 48) (b.toNat - 48) c := by unfold cB; rw [dig_of (by omega)]
  refine ⟨⟨hlen, ?_, ?_⟩, hd.2⟩
  · rw [List.drop_eq_getElem_cons (by omega), eL, dL]
    intro x hx
    rcases List.mem_cons.1 hx with rfl | hx
    · rw [hB9]; omega
    · exact h2 x hx
  · have vA := drop_val hA hi
    have vB := drop_val hB hi
    have vL := drop_val hlen hi
    rw [eA] at vA
    rw [eB] at vB
    rw [eL, dL, hB9] at vL
    rw [vA, vB, vL]
    have hp : 10 ^ (n - i) = 10 ^ (n - (i + 1)) * 10 := by rw [← Nat.pow_succ]; congr 1; omega
    rw [hp]
    generalize 10 ^ (n - (i + 1)) = P at *
    unfold cK
    have e48 : 48 + colD add (a.toNat - 48) (b.toNat - 48) c - 48 = colD add (a.toNat - 48) (b.toNat - 48) c := by omega
    rw [e48]
    cases add with
    | true =>
      simp only [if_true] at h3 ⊢
      have hk := congrArg (· * P) (col_add (x := a.toNat - 48) (y := b.toNat - 48) (c := c))
      simp only [Nat.add_mul] at hk
      have e : 10 * colC true (a.toNat - 48) (b.toNat - 48) c * P = colC true (a.toNat - 48) (b.toNat - 48) c * (P * 10) := by
        rw [Nat.mul_comm 10, Nat.mul_assoc, Nat.mul_comm 10]
      omega
    | false =>
      simp only [Bool.false_eq_true, if_false] at h3 ⊢
      have hk := congrArg (· * P) (col_sub (x := a.toNat - 48) (y := b.toNat - 48) (c := c) (by omega) (by omega) hc)
      simp only [Nat.add_mul] at hk
      have e : 10 * colC false (a.toNat - 48) (b.toNat - 48) c * P = colC false (a.toNat - 48) (b.toNat - 48) c * (P * 10) := by
        rw [Nat.mul_comm 10, Nat.mul_assoc, Nat.mul_comm 10]
      omega
theorem PI.add_end {A B L : List UInt8} {n c : Nat} (h : PI true A B L n 0 c) (hlt : val A + val B < 10 ^ n) : isD L ∧ L.length = n ∧ val L = val A + val B := by
  obtain ⟨h1, h2, h3⟩ := h
  simp only [List.drop_zero, if_true, Nat.sub_zero] at h2 h3
  refine ⟨h2, h1, ?_⟩
  rcases Nat.eq_zero_or_pos c with h | h
  · rw [h] at h3; omega
  · have : 10 ^ n ≤ c * 10 ^ n := Nat.le_mul_of_pos_left _ h
    omega
theorem PI.sub_end {A B L : List UInt8} {n c : Nat} (h : PI false A B L n 0 c) (hle : val B ≤ val A) : isD L ∧ L.length = n ∧ val L = val A - val B := by
  obtain ⟨h1, h2, h3⟩ := h
  simp only [List.drop_zero, Bool.false_eq_true, if_false, Nat.sub_zero] at h2 h3
  refine ⟨h2, h1, ?_⟩
  have hl := val_lt L h2
  rw [h1] at hl
  rcases Nat.eq_zero_or_pos c with h | h
  · rw [h] at h3; omega
  · have : 10 ^ n ≤ c * 10 ^ n := Nat.le_mul_of_pos_left _ h
    omega
theorem val_zeros (k : Nat) (l : List UInt8) : val (List.replicate k 48 ++ l) = val l := by
  have : val (List.replicate k 48) = 0 := by
    induction k with
    | zero => rfl
    | succ k ih => rw [List.replicate_succ, val_cons, ih]; simp
  rw [val_app, this]; simp
theorem isD_zeros (k : Nat) {l : List UInt8} (h : isD l) : isD (List.replicate k 48 ++ l) := isD.app (fun b hb => by rw [List.eq_of_mem_replicate hb]; decide) h
end Go.Proofs.YtldghloflegpmaaGreatDoor

namespace Go.Proofs.YtldghloflegpmaaGreatDoor
open Go.RowKit Go.Shelf Pu Go.Lib

theorem mk_list (l : List UInt8) : (⟨l.toArray⟩ : ByteArray).data.toList = l := rfl
theorem mk_len (l : List UInt8) : (⟨l.toArray⟩ : ByteArray).size = l.length := by simp [ByteArray.size]
theorem Dig.mk' {l : List UInt8} (h : isD l) (h0 : 0 < l.length) : Dig ⟨l.toArray⟩ := ⟨h, by rw [mk_len]; exact h0⟩

set_option maxRecDepth 100000 in
set_option maxHeartbeats 4000000 in
theorem rpaper_c (s t : ByteArray) (add : Bool) (r : Nat) (w : World) (hs : Dig s) (ht : Dig t) (hz1 : s.size ≤ 100) (hz2 : t.size ≤ 100)
    (hr : if add then r = val s.data.toList + val t.data.toList else val t.data.toList ≤ val s.data.toList ∧ r = val s.data.toList - val t.data.toList) :
    Calls Tryz.prog 230 #[.string s, .string t, .bool add] w fun e w' => e = .returned (.string (nT r)) ∧ Below w.heap.size w w' := by
  obtain ⟨n, hn⟩ : ∃ n : Nat, n = max s.size t.size + 1 := ⟨_, rfl⟩
  have hn1 : s.size < n := by omega
  have hn2 : t.size < n := by omega
  have hn3 : n ≤ 101 := by omega
  have hW1 := fun w => rwide_c s n w hs.pos (by omega) (by omega)
  have hW2 := fun w => rwide_c t n w ht.pos (by omega) (by omega)
  have dA : isD (List.replicate (n - s.size) 48 ++ s.data.toList) := isD_zeros _ hs.d
  have dB : isD (List.replicate (n - t.size) 48 ++ t.data.toList) := isD_zeros _ ht.d
  have vA := val_zeros (n - s.size) s.data.toList
  have vB := val_zeros (n - t.size) t.data.toList
  have lA : (List.replicate (n - s.size) 48 ++ s.data.toList).length = n := by simp; omega
  have lB : (List.replicate (n - t.size) 48 ++ t.data.toList).length = n := by simp; omega
  have bA : val s.data.toList < 10 ^ (n - 1) := Nat.lt_of_lt_of_le (val_lt _ hs.d) (Nat.pow_le_pow_right (by omega) (by simp; omega))
  have bB : val t.data.toList < 10 ^ (n - 1) := Nat.lt_of_lt_of_le (val_lt _ ht.d) (Nat.pow_le_pow_right (by omega) (by simp; omega))
  have hsum : val s.data.toList + val t.data.toList < 10 ^ n := by
    have e : 10 ^ n = 10 ^ (n - 1) * 10 := by rw [← Nat.pow_succ]; congr 1; omega
    omega
  rw [← vA, ← vB] at hr hsum
  clear bA bB vA vB
  generalize List.replicate (n - s.size) 48 ++ s.data.toList = A at *
  generalize List.replicate (n - t.size) 48 ++ t.data.toList = B at *
  obtain ⟨SA, hSA⟩ : ∃ S : ByteArray, ⟨A.toArray⟩ = S := ⟨_, rfl⟩
  obtain ⟨SB, hSB⟩ : ∃ S : ByteArray, ⟨B.toArray⟩ = S := ⟨_, rfl⟩
  have eA : SA.data.toList = A := by rw [← hSA]
  have eB : SB.data.toList = B := by rw [← hSB]
  have zA : SA.size = n := by rw [← hSA, mk_len, lA]
  have zB : SB.size = n := by rw [← hSB, mk_len, lB]
  rw [hSA] at hW1
  rw [hSB] at hW2
  have fin : ∀ (L : List UInt8) (c : Nat), PI add A B L n 0 c → Dig ⟨L.toArray⟩ ∧ L.length = n ∧ val L = r := by
    intro L c h
    cases add with
    | true =>
      simp only [if_true] at hr
      obtain ⟨a, b, d⟩ := h.add_end hsum
      exact ⟨Dig.mk' a (by omega), b, by omega⟩
    | false =>
      simp only [Bool.false_eq_true, if_false] at hr
      obtain ⟨a, b, d⟩ := h.sub_end hr.1
      exact ⟨Dig.mk' a (by omega), b, by omega⟩
  have hmk := fun w => make_bytes n w (by omega)
  have HW1 := Lib.hid hW1
  have HW2 := Lib.hid hW2
  have HF := Lib.hid fin
  clear hW1 hW2 fin hsum hr hSA hSB
  go_enter Tryz.func230, Tryz.ntmps230
  go_wp2_with fail
  first | rw [show ((max s.size t.size : Nat) : Int) + 1 = (n : Int) by omega] | rw [show max (s.size : Int) (t.size : Int) + 1 = (n : Int) by omega]
  clear hn hn1 hn2 hs ht hz1 hz2
  refine (HW1.out _).mono ?_
  rintro e w2 ⟨rfl, hb⟩
  go_wp2_with fail
  refine (HW2.out _).mono ?_
  rintro e w3 ⟨rfl, hbb⟩
  have hb := hb.trans (hbb.mono hb.size)
  have hsw := hb.size
  clear hbb HW1 HW2
  go_wp2_with fail
  go_loopw [9, 10] (fun p q wr => ∃ (j c : Nat) (L : List UInt8), j ≤ n ∧ q = .int .i64 ((j : Int) - 1) ∧ p = .int .i64 (c : Int) ∧ c ≤ 1 ∧ Hid (PI add A B L n j c) ∧ L.length = n ∧ Row wr w3.heap.size (bC L) 5 ∧ Below w.heap.size w wr) (fun _ q _ => (intOf q + 1).toNat)
  case atStart => exact ⟨n, 0, List.replicate n 0, by omega, by go_num, rfl, by omega, Lib.hid (PI.start add lA lB (by simp)), by simp, Row.new _ _ _, hb.alloc hsw _⟩
  case round =>
    clear hb
    obtain ⟨j, c, L, hj, hq, rfl, hc, HP, hL, hr, hb⟩ := hrel
    cases j with
    | zero =>
      obtain ⟨dL, lL, vL⟩ := HF.out L c HP.out
      have hcv := conv_bC n hr
      rw [lL] at hcv
      have hB := fun w => rbare_c ⟨L.toArray⟩ w dL (by rw [mk_len, lL]; omega)
      rw [mk_list, vL] at hB
      have HB := Lib.hid hB
      rw [show ((0 : Nat) : Int) - 1 = -1 from rfl] at hq
      subst hq
      clear hB HF HP dL lL vL
      go_wp2_with fail
      refine (HB.out _).mono ?_
      rintro e w5 ⟨rfl, rfl⟩
      go_wp2
      go_ret
      exact ⟨rfl, hb⟩
    | succ i =>
      rw [show ((i + 1 : Nat) : Int) - 1 = (i : Int) by omega] at hq
      subst hq
      have hiA : i < SA.size := by omega
      have hiB : i < SB.size := by omega
      have aA := at_list SA i hiA
      have aB := at_list SB i hiB
      rw [eA] at aA
      rw [eB] at aB
      have bA := dA _ (List.mem_of_getElem? aA)
      have bB := dB _ (List.mem_of_getElem? aB)
      obtain ⟨hP2, hc2⟩ := HP.out.step lA lB (show i < n by omega) hc aA aB bA bB
      have hcol := fun w => rcolumn_b (SA[i]'hiA) (SB[i]'hiB) c add w bA bB hc
      have hcl : wr.cell? ⟨w3.heap.size, i, none⟩ = some (.int .u8 ((L[i]'(by omega)).toNat : Int)) := by rw [hr.cell, bC_get _ i (by omega)]
      have hfz := hr.frozen i
      have hput := hr.put i (.int .u8 ((cB add (SA[i]'hiA) (SB[i]'hiB) c).toNat : Int))
      rw [bC_set] at hput
      generalize cB add (SA[i]'hiA) (SB[i]'hiB) c = d at *
      generalize cK add (SA[i]'hiA) (SB[i]'hiB) c = c' at *
      have HCol := Lib.hid hcol
      have HPut := Lib.hid hput
      have HP2 := Lib.hid hP2
      have hsw3 : w.heap.size ≤ w3.heap.size := hsw
      clear hcol hput hP2 HF HP aA aB bA bB
      go_wp2_with fail
      go_region_with (first | (go_at_call 248; refine (HCol.out _).mono ?_; rintro e w' ⟨rfl, rfl⟩))
      all_goals
        go_wp2
        go_roundw
        case rel =>
          have hb' := hb.setCell (p := ⟨w3.heap.size, i, none⟩) hsw3 (.int .u8 (d.toNat : Int))
          exact ⟨i, c', L.set i d, by omega, by first | rfl | go_num, rfl, hc2, HP2, by rw [List.length_set]; exact hL, HPut.out.drw, hb'.drew⟩
        case measure => first | (simp [intOf]; done) | (simp [intOf]; omega)

/-- The sum, the difference of two numbers, on paper. -/
theorem rpaper_add (s t : ByteArray) (w : World) (hs : Dig s) (ht : Dig t) (hz1 : s.size ≤ 100) (hz2 : t.size ≤ 100) :
    Calls Tryz.prog 230 #[.string s, .string t, .bool true] w fun e w' => e = .returned (.string (nT (val s.data.toList + val t.data.toList))) ∧ Below w.heap.size w w' :=
  rpaper_c s t true _ w hs ht hz1 hz2 (by simp)
theorem rpaper_sub (s t : ByteArray) (w : World) (hs : Dig s) (ht : Dig t) (hz1 : s.size ≤ 100) (hz2 : t.size ≤ 100) (hle : val t.data.toList ≤ val s.data.toList) :
    Calls Tryz.prog 230 #[.string s, .string t, .bool false] w fun e w' => e = .returned (.string (nT (val s.data.toList - val t.data.toList))) ∧ Below w.heap.size w w' :=
  rpaper_c s t false _ w hs ht hz1 hz2 (by simp [hle])
end Go.Proofs.YtldghloflegpmaaGreatDoor

namespace Go.Proofs.YtldghloflegpmaaGreatDoor
open Go.RowKit Go.Shelf Pu Go.Lib

/-- What columns add up to. -/
def cv (C : List Nat) : Nat := C.foldl (fun a d => a * 10 + d) 0
theorem foldl_cv : ∀ (l : List Nat) (a : Nat), l.foldl (fun a d => a * 10 + d) a = a * 10 ^ l.length + cv l
  | [], a => by simp [cv]
  | x :: l, a => by
    unfold cv
    rw [List.foldl_cons, List.foldl_cons, foldl_cv l, foldl_cv l, List.length_cons, Nat.pow_succ]
    generalize 10 ^ l.length = P
    simp only [Nat.add_mul, Nat.mul_assoc, Nat.zero_mul, Nat.zero_add, Nat.mul_comm 10 P]
    omega
theorem cv_cons (x : Nat) (l : List Nat) : cv (x :: l) = x * 10 ^ l.length + cv l := by
  show List.foldl _ 0 (x :: l) = _
  rw [List.foldl_cons, foldl_cv]; simp
theorem cv_set : ∀ (C : List Nat) (m d : Nat) (h : m < C.length), cv (C.set m (C[m] + d)) = cv C + d * 10 ^ (C.length - 1 - m)
  | x :: C, 0, d, _ => by
    rw [List.set_cons_zero, cv_cons, cv_cons]
    simp [Nat.add_mul]; omega
  | x :: C, m + 1, d, h => by
    have ih := cv_set C m d (by simpa using h)
    rw [List.set_cons_succ, cv_cons, cv_cons, List.length_set]
    simp only [List.getElem_cons_succ]
    rw [ih, List.length_cons, show C.length + 1 - 1 - (m + 1) = C.length - 1 - m by omega]
    omega
theorem cv_zeros (n : Nat) : cv (List.replicate n 0) = 0 := by
  induction n with
  | zero => rfl
  | succ n ih => rw [List.replicate_succ, cv_cons, ih]; simp
/-- The digit at a place. -/
def dAt (l : List UInt8) (i : Nat) : Nat := (l.getD i 48).toNat - 48
theorem dAt_le {l : List UInt8} (h : isD l) (i : Nat) : dAt l i ≤ 9 := by
  unfold dAt
  rcases Nat.lt_or_ge i l.length with hi | hi
  · have := h l[i] (List.getElem_mem hi)
    simp only [List.getD_eq_getElem?_getD, List.getElem?_eq_getElem hi, Option.getD_some]; omega
  · simp [List.getD_eq_getElem?_getD, List.getElem?_eq_none hi]
theorem dAt_of {l : List UInt8} {i : Nat} {b : UInt8} (h : l[i]? = some b) : dAt l i = b.toNat - 48 := by
  unfold dAt; simp [List.getD_eq_getElem?_getD, h]
theorem take_dAt {l : List UInt8} {i : Nat} (h : i < l.length) : val (l.take (i + 1)) = val (l.take i) * 10 + dAt l i := by
  rw [List.take_succ_eq_append_getElem h, val_snoc, dAt_of (List.getElem?_eq_getElem h)]
/-- What the columns hold while the pairs of digits are gone through. -/
def PC (a b : List UInt8) (C : List Nat) (i k : Nat) : Prop :=
  C.length = a.length + b.length ∧ (∀ x ∈ C, x ≤ 81 * (i * b.length + k)) ∧
  cv C = val (a.take i) * 10 ^ (a.length - i) * val b + dAt a i * 10 ^ (a.length - 1 - i) * (val (b.take k) * 10 ^ (b.length - k))
theorem PC.start (a b : List UInt8) : PC a b (List.replicate (a.length + b.length) 0) 0 0 := by
  refine ⟨by simp, fun x hx => by rw [List.eq_of_mem_replicate hx]; omega, ?_⟩
  rw [cv_zeros]; simp [val]
theorem PC.row {a b : List UInt8} {C : List Nat} {i : Nat} (hi : i < a.length) (h : PC a b C i b.length) : PC a b C (i + 1) 0 := by
  obtain ⟨h1, h2, h3⟩ := h
  refine ⟨h1, fun x hx => by have := h2 x hx; rw [Nat.add_mul]; omega, ?_⟩
  rw [h3, take_dAt hi, List.take_length]
  have e1 : a.length - i = (a.length - (i + 1)) + 1 := by omega
  have e2 : a.length - 1 - i = a.length - (i + 1) := by omega
  rw [e1, e2, Nat.pow_succ]
  simp only [List.take_zero, val_nil, Nat.zero_mul, Nat.mul_zero, Nat.add_zero, Nat.sub_self, Nat.pow_zero, Nat.mul_one]
  generalize 10 ^ (a.length - (i + 1)) = P
  rw [Nat.add_mul, Nat.add_mul]
  congr 2
  rw [Nat.mul_assoc, Nat.mul_comm P 10]
theorem PC.step {a b : List UInt8} {C : List Nat} {i k : Nat} (hi : i < a.length) (hk : k < b.length) (hA : isD a) (hB : isD b) (h : PC a b C i k) (hm : i + k + 1 < C.length) :
    PC a b (C.set (i + k + 1) (C[i + k + 1] + dAt a i * dAt b k)) i (k + 1) := by
  obtain ⟨h1, h2, h3⟩ := h
  have hx9 : dAt a i * dAt b k ≤ 81 := Nat.mul_le_mul (dAt_le hA i) (dAt_le hB k)
  refine ⟨by rw [List.length_set]; exact h1, fun x hx => ?_, ?_⟩
  · rcases List.mem_or_eq_of_mem_set hx with hx | hx
    · have := h2 x hx; omega
    · have := h2 C[i + k + 1] (List.getElem_mem hm)
      rw [hx]; omega
  · rw [cv_set C _ _ hm, h3, take_dAt hk]
    have e1 : b.length - k = (b.length - (k + 1)) + 1 := by omega
    have e2 : C.length - 1 - (i + k + 1) = (a.length - 1 - i) + (b.length - (k + 1)) := by omega
    rw [e1, e2, Nat.pow_succ, Nat.pow_add]
    generalize 10 ^ (a.length - 1 - i) = P
    generalize 10 ^ (b.length - (k + 1)) = Q
    rw [Nat.add_assoc]
    congr 1
    rw [Nat.add_mul, Nat.mul_add]
    have f1 : val (b.take k) * (Q * 10) = val (b.take k) * 10 * Q := by rw [Nat.mul_comm Q 10, Nat.mul_assoc]
    have f2 : dAt a i * dAt b k * (P * Q) = dAt a i * P * (dAt b k * Q) := by
      rw [Nat.mul_assoc, Nat.mul_assoc, Nat.mul_left_comm (dAt b k)]
    rw [f1, f2]
theorem PC.fin {a b : List UInt8} {C : List Nat} (h : PC a b C a.length 0) : cv C = val a * val b := by
  rw [h.2.2, List.take_length]; simp [val]
/-- The columns are carried, from the last one on. -/
def PD (C : List Nat) (L : List UInt8) (j c : Nat) : Prop := L.length = C.length ∧ isD (L.drop j) ∧ val (L.drop j) + c * 10 ^ (C.length - j) = cv (C.drop j) ∧ c ≤ 1000000
theorem PD.start (C : List Nat) (L : List UInt8) (h : L.length = C.length) : PD C L C.length 0 := by
  have e1 : L.drop C.length = [] := List.drop_eq_nil_of_le (by omega)
  have e2 : C.drop C.length = [] := List.drop_eq_nil_of_le (by omega)
  refine ⟨h, (by rw [e1]; intro b hb; cases hb), (by rw [e1, e2]; simp [val, cv]), by omega⟩
theorem PD.step {C : List Nat} {L : List UInt8} {i c : Nat} (h : PD C L (i + 1) c) (hi : i < C.length) (hb : C[i] ≤ 1000000) :
    PD C (L.set i (UInt8.ofNat (48 + (c + C[i]) % 10))) i ((c + C[i]) / 10) := by
  obtain ⟨h1, h2, h3, h4⟩ := h
  have hlen : (L.set i (UInt8.ofNat (48 + (c + C[i]) % 10))).length = C.length := by rw [List.length_set]; exact h1
  have eL : (L.set i (UInt8.ofNat (48 + (c + C[i]) % 10)))[i]'(by omega) = UInt8.ofNat (48 + (c + C[i]) % 10) := List.getElem_set_self _
  have dL : (L.set i (UInt8.ofNat (48 + (c + C[i]) % 10))).drop (i + 1) = L.drop (i + 1) := by rw [List.drop_set_of_lt (by omega)]
  have hd : (UInt8.ofNat (48 + (c + C[i]) % 10)).toNat = 48 + (c + C[i]) % 10 := dig_of (by omega)
  refine ⟨hlen, ?_, ?_, by omega⟩
  · rw [List.drop_eq_getElem_cons (by omega), eL, dL]
    intro x hx
    rcases List.mem_cons.1 hx with rfl | hx
    · rw [hd]; omega
    · exact h2 x hx
  · have vL := drop_val hlen hi
    rw [eL, dL, hd] at vL
    have vC : cv (C.drop i) = C[i] * 10 ^ (C.length - (i + 1)) + cv (C.drop (i + 1)) := by
      rw [List.drop_eq_getElem_cons hi, cv_cons, List.length_drop]
    rw [vL, vC, ← h3]
    have hp : 10 ^ (C.length - i) = 10 ^ (C.length - (i + 1)) * 10 := by rw [← Nat.pow_succ]; congr 1; omega
    rw [hp]
    generalize 10 ^ (C.length - (i + 1)) = P
    have e : (c + C[i]) % 10 + 10 * ((c + C[i]) / 10) = c + C[i] := Nat.mod_add_div _ _
    have hk := congrArg (· * P) e
    simp only [Nat.add_mul] at hk
    have e2 : 10 * ((c + C[i]) / 10) * P = (c + C[i]) / 10 * (P * 10) := by rw [Nat.mul_comm 10, Nat.mul_assoc, Nat.mul_comm 10]
    have e48 : 48 + (c + C[i]) % 10 - 48 = (c + C[i]) % 10 := by omega
    rw [e48]
    omega
theorem PD.fin {C : List Nat} {L : List UInt8} {c : Nat} (h : PD C L 0 c) (hlt : cv C < 10 ^ C.length) : isD L ∧ val L = cv C := by
  obtain ⟨h1, h2, h3, _⟩ := h
  simp only [List.drop_zero, Nat.sub_zero] at h2 h3
  refine ⟨h2, ?_⟩
  rcases Nat.eq_zero_or_pos c with h | h
  · rw [h] at h3; omega
  · have : 10 ^ C.length ≤ c * 10 ^ C.length := Nat.le_mul_of_pos_left _ h
    omega
end Go.Proofs.YtldghloflegpmaaGreatDoor

namespace Go.Proofs.YtldghloflegpmaaGreatDoor
open Go.RowKit Go.Shelf Pu Go.Lib

/-- Numbers as cells. -/
def iC (C : List Nat) : Array Value := (C.map fun (x : Nat) => Value.int .i64 (x : Int)).toArray
theorem iC_get (C : List Nat) (i : Nat) (h : i < C.length) : (iC C)[i]? = some (.int .i64 ((C[i]'h : Nat) : Int)) := by simp [iC, h]
theorem iC_set (C : List Nat) (i x : Nat) : (iC C).setIfInBounds i (.int .i64 (x : Int)) = iC (C.set i x) := by
  apply Array.ext'
  simp [iC, List.map_set]
theorem info3 : (Tryz.prog.info? 3).map (fun i => (i.zero, i.size, i.bytes)) = some (some (.int .i64 0), 1, 8) := by kernel_rfl
set_option maxRecDepth 100000 in
theorem make_ints (n : Nat) (x : Int) (w : World) (hn : n ≤ 1000) (hx : x = (n : Int)) : (Instr.makeSlice 141 (.int .i64 x) (.int .i64 x)).run Tryz.prog w = .ok (.slice (some ⟨w.heap.size, 0, none⟩) n n) (w.alloc (.cells (iC (List.replicate n 0)) 3)) := by
  subst hx
  obtain ⟨i, hi, hz, hsz, hb⟩ := info_parts info3
  have h := run_make (P := Tryz.prog) w 141 3 i (.int .i64 0) Tryz.underlying141 hi hz .i64 .i64 (n : Int) (n : Int) (by omega) (Int.le_refl _) (by rw [hb]; omega) (by omega)
  rw [h, hsz]
  simp only [Int.toNat_natCast, Nat.mul_one]
  congr 3
  apply Array.ext'
  show (madeCells #[Value.int .i64 0] n).toList = _
  rw [toList_madeCells_one]
  simp [iC]

theorem w_in {n : Int} (h0 : -1000000000 ≤ n) (h1 : n ≤ 1000000000) : wrap64 n = n := by
  unfold wrap64
  omega
theorem w_add {e x y z : Nat} (hxy : (x : Int) * (y : Int) = (z : Int)) (he : e ≤ 1000000) (hz : z ≤ 81) :
    ((e + z : Nat) : Int) = wrap64 ((e : Int) + wrap64 ((48 + (x : Int) - 48) * (48 + (y : Int) - 48))) := by
  have e1 : (48 + (x : Int) - 48) = x := by omega
  have e2 : (48 + (y : Int) - 48) = y := by omega
  rw [e1, e2, hxy, w_in (n := (z : Int)) (by omega) (by omega), w_in (by omega) (by omega)]
  omega
set_option maxRecDepth 100000 in
set_option maxHeartbeats 8000000 in
theorem rproduct_c (s t : ByteArray) (w : World) (hs : Dig s) (ht : Dig t) (hz1 : s.size ≤ 60) (hz2 : t.size ≤ 60) :
    Calls Tryz.prog 199 #[.string s, .string t] w fun e w' => e = .returned (.string (nT (val s.data.toList * val t.data.toList))) ∧ Below w.heap.size w w' := by
  obtain ⟨N, hN⟩ : ∃ N, s.size + t.size = N := ⟨_, rfl⟩
  have hN2 : N ≤ 120 := by omega
  have l1 : s.data.toList.length = s.size := by simp
  have l2 : t.data.toList.length = t.size := by simp
  have d1 := hs.d
  have d2 := ht.d
  have hmk := fun w => make_ints N ((s.size : Int) + (t.size : Int)) w (by omega) (by omega)
  have hst := PC.start s.data.toList t.data.toList
  rw [l1, l2, hN] at hst
  have HST := Lib.hid hst
  have hp1 := hs.pos
  have hp2 := ht.pos
  have hlt : val s.data.toList * val t.data.toList < 10 ^ N := by
    rw [← hN, Nat.pow_add, ← l1, ← l2]
    exact Nat.mul_lt_mul'' (val_lt _ d1) (val_lt _ d2)
  have HLT := Lib.hid hlt
  clear hst hlt
  go_enter Tryz.func199, Tryz.ntmps199
  go_wp2_with fail
  go_loopw [6] (fun p wr => ∃ (i : Nat) (C : List Nat), i ≤ s.size ∧ p = .int .i64 (i : Int) ∧ Hid (PC s.data.toList t.data.toList C i 0) ∧ C.length = N ∧ Row wr w.heap.size (iC C) 3 ∧ Below w.heap.size w wr) (fun p _ => s.size - (intOf p).toNat)
  case atStart => exact ⟨0, List.replicate N 0, by omega, rfl, HST, by simp, Row.new _ _ _, (Below.refl _ w).alloc (Nat.le_refl _) _⟩
  case round =>
    obtain ⟨i, C, hi, rfl, HC, hl, hr, hb⟩ := hrel
    by_cases hlt : i < s.size
    · go_wp2_with fail
      go_loopw [7] (fun p wr => ∃ (k : Nat) (C : List Nat), k ≤ t.size ∧ p = .int .i64 (k : Int) ∧ Hid (PC s.data.toList t.data.toList C i k) ∧ C.length = N ∧ Row wr w.heap.size (iC C) 3 ∧ Below w.heap.size w wr) (fun p _ => t.size - (intOf p).toNat)
      case atStart => exact ⟨0, C, by omega, rfl, HC, hl, hr, hb⟩
      case round =>
        clear hr hb HC hl
        obtain ⟨k, C, hk, rfl, HC, hl, hr, hb⟩ := hrel
        by_cases hkt : k < t.size
        · have ba := hs.b i hlt
          have bb := ht.b k hkt
          obtain ⟨x, hx⟩ : ∃ x : Nat, ((s[i]'hlt).toNat : Int) = 48 + (x : Int) := ⟨(s[i]'hlt).toNat - 48, by omega⟩
          obtain ⟨y, hy⟩ : ∃ y : Nat, ((t[k]'hkt).toNat : Int) = 48 + (y : Int) := ⟨(t[k]'hkt).toNat - 48, by omega⟩
          have dx : dAt s.data.toList i = x := by rw [dAt_of (at_list s i hlt)]; omega
          have dy : dAt t.data.toList k = y := by rw [dAt_of (at_list t k hkt)]; omega
          have hm : i + k + 1 < C.length := by omega
          have hstep := HC.out.step (by omega) (by omega) d1 d2 hm
          have hbd := HC.out.2.1 C[i + k + 1] (List.getElem_mem hm)
          have hbd2 : C[i + k + 1] ≤ 1000000 := by
            have : i * t.data.toList.length ≤ 60 * 60 := Nat.mul_le_mul (by omega) (by omega)
            omega
          rw [dx, dy] at hstep
          obtain ⟨z, hz⟩ : ∃ z : Nat, x * y = z := ⟨_, rfl⟩
          have hxy : (x : Int) * (y : Int) = (z : Int) := by rw [← hz]; simp
          have hx9 : x ≤ 9 := by omega
          have hy9 : y ≤ 9 := by omega
          have hz81 : z ≤ 81 := by rw [← hz]; exact Nat.mul_le_mul hx9 hy9
          rw [hz] at hstep
          have hcl : wr.cell? ⟨w.heap.size, i + k + 1, none⟩ = some (.int .i64 ((C[i + k + 1]'hm : Nat) : Int)) := by rw [hr.cell, iC_get _ _ hm]
          have hfz := hr.frozen (i + k + 1)
          have hput := hr.put (i + k + 1) (.int .i64 ((C[i + k + 1] + z : Nat) : Int))
          rw [iC_set] at hput
          have hl2 : (C.set (i + k + 1) (C[i + k + 1] + z)).length = N := by rw [List.length_set]; exact hl
          generalize C.set (i + k + 1) (C[i + k + 1] + z) = C' at *
          generalize C[i + k + 1] = e at *
          have hval := w_add (e := e) hxy hbd2 hz81
          rw [hval] at hput
          have HStep := Lib.hid hstep
          have HPut := Lib.hid hput
          clear hstep hput dx dy hbd HC hz hval
          go_wp2_with fail
          go_region
          all_goals
            go_wp2
            go_roundw
            case rel => exact ⟨k + 1, C', by omega, by go_num, HStep, hl2, by first | exact HPut.out.drw | exact HPut.out, by first | exact (hb.setCell (Nat.le_refl _) _).drew | exact hb.setCell (Nat.le_refl _) _⟩
            case measure => first | (simp [intOf]; done) | (simp [intOf]; omega)
        · obtain rfl : k = t.size := by omega
          have hrow := HC.out
          rw [show t.size = t.data.toList.length from l2.symm] at hrow
          have HR := Lib.hid (hrow.row (by omega))
          clear hrow HC
          go_wp2
          go_roundw
          case rel => exact ⟨i + 1, C, by omega, by go_num, HR, hl, hr, hb⟩
          case measure => simp [intOf]; omega
    · obtain rfl : i = s.size := by omega
      have hfin := HC.out
      rw [show s.size = s.data.toList.length from l1.symm] at hfin
      have hcv := hfin.fin
      have hbd := hfin.2.1
      have hbd2 : ∀ m (h : m < C.length), C[m] ≤ 1000000 := fun m h => by
        have := hbd C[m] (List.getElem_mem h)
        have h2 : s.data.toList.length * t.data.toList.length ≤ 60 * 60 := Nat.mul_le_mul (by omega) (by omega)
        omega
      have hcl := HLT.out
      rw [← hcv, ← hl] at hcl
      have HBd := Lib.hid hbd2
      have HCV := Lib.hid hcv
      have HLt := Lib.hid hcl
      have hmk2 := fun w => make_bytes N w (by omega)
      clear hfin hcv hbd hbd2 hcl HC HST HLT
      have hlr := hr.lt
      go_wp2_with fail
      have hr := hr.alloc (.cells (bC (List.replicate N 0)) 5)
      have ho := Row.new wr (bC (List.replicate N 0)) 5
      have hb := hb.alloc hb.size (.cells (bC (List.replicate N 0)) 5)
      obtain ⟨G, hG⟩ : ∃ G, wr.heap.size = G := ⟨_, rfl⟩
      have hGw : w.heap.size < G := by omega
      rw [hG] at ho
      try rw [hG]
      generalize wr.alloc (.cells (bC (List.replicate N 0)) 5) = W2 at *
      go_loopw [9, 10] (fun p q wr => ∃ (j c : Nat) (L : List UInt8), j ≤ N ∧ q = .int .i64 ((j : Int) - 1) ∧ p = .int .i64 (c : Int) ∧ Hid (PD C L j c) ∧ Row wr w.heap.size (iC C) 3 ∧ Row wr G (bC L) 5 ∧ Below w.heap.size w wr) (fun _ q _ => (intOf q + 1).toNat)
      case atStart => exact ⟨N, 0, List.replicate N 0, by omega, by first | rfl | go_num, rfl, Lib.hid (by rw [← hl]; exact PD.start C _ (by simp)), hr, ho, hb⟩
      case round =>
        clear hr ho hb
        obtain ⟨j, c, L, hj, hq, rfl, HP, hr, ho, hb⟩ := hrel
        cases j with
        | zero =>
          obtain ⟨dL, vL⟩ := HP.out.fin HLt.out
          have lL := HP.out.1
          rw [hl] at lL
          have hcv := conv_bC N ho
          rw [lL] at hcv
          have hB := fun w => rbare_c ⟨L.toArray⟩ w (Dig.mk' dL (by omega)) (by rw [mk_len, lL]; omega)
          rw [mk_list, vL, HCV.out] at hB
          have HB := Lib.hid hB
          rw [show ((0 : Nat) : Int) - 1 = -1 from rfl] at hq
          subst hq
          clear hB HP dL lL vL
          go_wp2_with fail
          refine (HB.out _).mono ?_
          rintro e w5 ⟨rfl, rfl⟩
          go_wp2
          go_ret
          exact ⟨rfl, hb⟩
        | succ i =>
          rw [show ((i + 1 : Nat) : Int) - 1 = (i : Int) by omega] at hq
          subst hq
          have hiC : i < C.length := by omega
          have lL := HP.out.1
          have hc6 := HP.out.2.2.2
          have hC6 := HBd.out i hiC
          have hstep := HP.out.step hiC hC6
          have hcl : wr.cell? ⟨w.heap.size, i, none⟩ = some (.int .i64 ((C[i]'hiC : Nat) : Int)) := by rw [hr.cell, iC_get _ _ hiC]
          have hco : wr.cell? ⟨G, i, none⟩ = some (.int .u8 ((L[i]'(by omega)).toNat : Int)) := by rw [ho.cell, bC_get _ i (by omega)]
          have hfz := ho.frozen i
          obtain ⟨σ, hσ⟩ : ∃ σ, c + C[i] = σ := ⟨_, rfl⟩
          rw [hσ] at hstep
          have hσ2 : (c : Int) + ((C[i]'hiC : Nat) : Int) = (σ : Int) := by omega
          have hσ6 : σ ≤ 2000000 := by omega
          have hd : (((UInt8.ofNat (48 + σ % 10)).toNat : Nat) : Int) = 48 + (σ : Int) % 10 := by rw [dig_of (by omega)]; omega
          have hput := ho.put i (.int .u8 ((UInt8.ofNat (48 + σ % 10)).toNat : Int))
          have hpr := hr.other (p := ⟨G, i, none⟩) (show w.heap.size ≠ G by omega) (.int .u8 ((UInt8.ofNat (48 + σ % 10)).toNat : Int))
          rw [bC_set] at hput
          rw [hd] at hput hpr
          have HStep := Lib.hid hstep
          have HPut := Lib.hid hput
          have HPr := Lib.hid hpr
          generalize C[i] = ci at *
          generalize L.set i (UInt8.ofNat (48 + σ % 10)) = L' at *
          clear hstep hput hpr HP hd hσ
          have hGw' : w.heap.size ≤ G := by omega
          go_wp2
          go_roundw
          case rel => exact ⟨i, σ / 10, L', by omega, by first | rfl | go_num, by go_num, HStep, HPr.out, HPut.out, hb.setCell hGw' _⟩
          case measure => first | (simp [intOf]; done) | (simp [intOf]; omega)
end Go.Proofs.YtldghloflegpmaaGreatDoor

namespace Go.Proofs.YtldghloflegpmaaGreatDoor
open Go.RowKit Go.Shelf Pu Go.Lib

theorem less_val : ∀ (x y : List UInt8), isD x → isD y → x.length = y.length → Op.bytesLess x y = decide (val x < val y)
  | [], [], _, _, _ => by simp [Op.bytesLess, val]
  | [], _ :: _, _, _, h => by simp at h
  | _ :: _, [], _, _, h => by simp at h
  | a :: x, b :: y, hx, hy, h => by
    have hl : x.length = y.length := by simpa using h
    have ih := less_val x y hx.tail hy.tail hl
    have ha := hx a (by simp)
    have hb := hy b (by simp)
    have v1 := val_lt x hx.tail
    have v2 := val_lt y hy.tail
    unfold Op.bytesLess
    rw [ih, val_cons, val_cons, hl]
    rw [hl] at v1
    generalize 10 ^ y.length = P at *
    by_cases h1 : a.toNat < b.toNat
    · have e1 : decide (a < b) = true := by simp [UInt8.lt_iff_toNat_lt, h1]
      rw [e1, Bool.true_or, eq_comm, decide_eq_true_eq]
      have : (a.toNat - 48 + 1) * P ≤ (b.toNat - 48) * P := Nat.mul_le_mul_right _ (by omega)
      rw [Nat.add_mul] at this
      omega
    · have e1 : decide (a < b) = false := by simp [UInt8.lt_iff_toNat_lt]; omega
      rw [e1, Bool.false_or]
      by_cases h2 : a.toNat = b.toNat
      · have e2 : (a == b) = true := by simp [UInt8.toNat_inj.1 h2]
        rw [e2, Bool.true_and, h2]
        exact decide_eq_decide.2 (by omega)
      · have e2 : (a == b) = false := by
          rw [beq_eq_false_iff_ne]; intro e; exact h2 (by rw [e])
        rw [e2, Bool.false_and, eq_comm, decide_eq_false_iff_not]
        have : (b.toNat - 48 + 1) * P ≤ (a.toNat - 48) * P := Nat.mul_le_mul_right _ (by omega)
        rw [Nat.add_mul] at this
        omega
theorem dD_big {v : Nat} (h : 2 ≤ (Lib.decDigits v).length) : 10 ^ ((Lib.decDigits v).length - 1) ≤ v := by
  have h0 : v ≠ 0 := by rintro rfl; rw [dD_zero] at h; simp at h
  have hh := dD_head h0
  have hv := val_dD v
  have hd := isD_dD v
  cases hq : Lib.decDigits v with
  | nil => rw [hq] at h; simp at h
  | cons b l =>
    rw [hq] at hh hv hd
    have hb := hd b (by simp)
    have hb2 : b.toNat ≠ 48 := by simpa using hh
    rw [val_cons] at hv
    have : 1 * 10 ^ l.length ≤ (b.toNat - 48) * 10 ^ l.length := Nat.mul_le_mul_right _ (by omega)
    simp only [List.length_cons, Nat.add_sub_cancel]
    omega
theorem dD_lt {u v : Nat} (h : (Lib.decDigits u).length < (Lib.decDigits v).length) : u < v := by
  have hu := val_lt _ (isD_dD u)
  rw [val_dD] at hu
  have hp := List.length_pos_iff.2 (dD_ne u)
  have := dD_big (v := v) (by omega)
  have h2 : 10 ^ (Lib.decDigits u).length ≤ 10 ^ ((Lib.decDigits v).length - 1) := Nat.pow_le_pow_right (by omega) (by omega)
  omega
set_option maxHeartbeats 2000000 in
theorem rless_c (u v : Nat) (w : World) : Calls Tryz.prog 229 #[.string (nT u), .string (nT v)] w fun e w' => e = .returned (.bool (decide (u < v))) ∧ w' = w := by
  have k1 : (nT u).size < (nT v).size → decide (u < v) = true := fun h => by
    rw [nT_size, nT_size] at h; exact decide_eq_true (dD_lt h)
  have k2 : (nT u).size = (nT v).size → Op.bytesLess (nT u).toList (nT v).toList = decide (u < v) := fun h => by
    rw [nT_size, nT_size] at h
    rw [ByteArray.toList_eq, ByteArray.toList_eq, nT_list, nT_list, less_val _ _ (isD_dD u) (isD_dD v) h, val_dD, val_dD]
  have k3 : (nT v).size < (nT u).size → decide (u < v) = false := fun h => by
    rw [nT_size, nT_size] at h; exact decide_eq_false (by have := dD_lt h; omega)
  have K1 := Lib.hid k1
  have K2 := Lib.hid k2
  have K3 := Lib.hid k3
  clear k1 k2 k3
  generalize nT u = s at *
  generalize nT v = t at *
  by_cases h1 : s.size < t.size
  · go_enter Tryz.func229, Tryz.ntmps229
    go_wp2
    go_ret
    exact ⟨by rw [K1.out h1]; rfl, rfl⟩
  · by_cases h2 : s.size = t.size
    · go_enter Tryz.func229, Tryz.ntmps229
      go_wp2
      go_ret
      exact ⟨by rw [← K2.out h2]; rfl, rfl⟩
    · have h3 : t.size < s.size := by omega
      have h4 : ¬ (s.size : Int) < (t.size : Int) := by omega
      go_enter Tryz.func229, Tryz.ntmps229
      go_wp2
      go_ret
      exact ⟨by rw [K3.out h3]; rfl, rfl⟩

theorem div_step {p v d k R Q : Nat} (hv : 0 < v) (hp : p = v * Q + R) (hk : k * v ≤ 10 * R + d) (hr : 10 * R + d - k * v < v) :
    (p * 10 + d) / v = Q * 10 + k ∧ (p * 10 + d) % v = 10 * R + d - k * v := by
  have e : p * 10 + d = v * (Q * 10 + k) + (10 * R + d - k * v) := by
    rw [hp, Nat.add_mul, Nat.mul_add, Nat.mul_assoc, Nat.mul_comm v k]; omega
  rw [e, Nat.mul_add_div hv, Nat.mul_add_mod, Nat.div_eq_of_lt hr, Nat.mod_eq_of_lt hr, Nat.add_zero]
  exact ⟨rfl, rfl⟩
/-- What the text of a number spells. -/
def sV : Value → Nat
  | .string t => val t.data.toList
  | _ => 0
theorem sV_nT (u : Nat) : sV (.string (nT u)) = u := val_nT u

set_option maxRecDepth 100000 in
set_option maxHeartbeats 8000000 in
theorem rdivided_c (u v : Nat) (w : World) (hu : (nT u).size ≤ 60) (hv : (nT v).size ≤ 60) (h0 : v ≠ 0) :
    Calls Tryz.prog 194 #[.string (nT u), .string (nT v)] w fun e w' => e = .returned (.tuple #[.string (nT (u / v)), .string (nT (u % v))]) ∧ Below w.heap.size w w' := by
  have dS := Dig.nT u
  have vS := val_nT u
  obtain ⟨s, hs⟩ : ∃ s, nT u = s := ⟨_, rfl⟩
  rw [hs] at dS vS hu ⊢
  have hsl : s.data.toList.length = s.size := by simp
  have HVS := Lib.hid vS
  have HS := Lib.hid hs
  clear vS hs
  have hv60 : v < 10 ^ 60 := by
    have h1 := val_lt _ (isD_dD v)
    rw [val_dD] at h1
    rw [nT_size] at hv
    exact Nat.lt_of_lt_of_le h1 (Nat.pow_le_pow_right (by omega) hv)
  have hv61 : 10 * v < 10 ^ 61 := by
    have e : 10 ^ 61 = 10 * 10 ^ 60 := rfl
    omega
  go_enter Tryz.func194, Tryz.ntmps194
  go_wp2_with fail
  go_loopw [6, 7, 8] (fun q r p wr => ∃ (i : Nat) (Q : ByteArray), i ≤ s.size ∧ p = .int .i64 (i : Int) ∧ q = .string Q ∧ r = .string (nT (val (s.data.toList.take i) % v)) ∧ Q.size = i ∧ Hid (isD Q.data.toList ∧ val Q.data.toList = val (s.data.toList.take i) / v) ∧ Below w.heap.size w wr) (fun _ _ p _ => s.size - (intOf p).toNat)
  case atStart =>
    refine ⟨0, ⟨#[]⟩, by omega, rfl, rfl, ?_, rfl, Lib.hid ⟨(fun b hb => by cases hb), (by show 0 = _; simp [val])⟩, Below.refl _ _⟩
    rw [List.take_zero, val_nil, Nat.zero_mod, nT_zero]
  case round =>
    obtain ⟨i, Q, hi, rfl, rfl, rfl, hQ, HQ, hb⟩ := hrel
    by_cases hlt : i < s.size
    · obtain ⟨p, hp⟩ : ∃ p, val (s.data.toList.take i) = p := ⟨_, rfl⟩
      rw [hp] at HQ ⊢
      have hR : p % v < v := Nat.mod_lt _ (by omega)
      have hpe := (Nat.div_add_mod p v).symm
      have hbt := dS.b i hlt
      obtain ⟨d, hd⟩ : ∃ d, (s[i]'hlt).toNat - 48 = d := ⟨_, rfl⟩
      have hd9 : d ≤ 9 := by omega
      have htk : val (s.data.toList.take (i + 1)) = p * 10 + d := by rw [take_val s i hlt, hp, hd]
      have hex : (nT (p % v) ++ s.extract i (i + 1)).data.toList = Lib.decDigits (p % v) ++ [s[i]'hlt] := by
        rw [ByteArray.data_append, Array.toList_append, nT_list]
        congr 1
        rw [ByteArray.data_extract]
        apply List.ext_getElem?
        intro j
        cases j with
        | zero => simp [hlt]; rfl
        | succ j => simp; omega
      have hRs : (nT (p % v)).size ≤ (nT v).size := by
        rw [nT_size, nT_size]
        rcases Nat.lt_or_ge (Lib.decDigits v).length (Lib.decDigits (p % v)).length with h | h
        · have := dD_lt h; omega
        · exact h
      have hxs : (nT (p % v) ++ s.extract i (i + 1)).size = (nT (p % v)).size + 1 := by
        show (nT (p % v) ++ s.extract i (i + 1)).data.size = _
        rw [← Array.length_toList, hex, List.length_append, nT_size]; rfl
      have hdig : Dig (nT (p % v) ++ s.extract i (i + 1)) := ⟨by rw [hex]; exact isD.app (isD_dD _) (isD_one hbt), by omega⟩
      have hval : val (nT (p % v) ++ s.extract i (i + 1)).data.toList = 10 * (p % v) + d := by rw [hex, val_snoc, val_dD, hd]; omega
      have hB := fun w => rbare_c _ w hdig (by omega)
      rw [hval] at hB
      have hk1 : ¬ 9223372036854775807 < (nT (p % v)).size + (s.extract i (i + 1)).size := by
        rw [ByteArray.size_append] at hxs; omega
      have HB := Lib.hid hB
      obtain ⟨M, hM⟩ : ∃ M, 10 * (p % v) + d = M := ⟨_, rfl⟩
      have HTK := Lib.hid htk
      have HPE := Lib.hid hpe
      have HMd := Lib.hid hM
      have hM10 : M < 10 * v := by omega
      rw [hM] at HB
      clear hex hdig hval hB htk hpe hxs hbt hd
      go_wp2_with fail
      refine (HB.out _).mono ?_
      rintro e w2 ⟨rfl, rfl⟩
      go_wp2_with fail
      go_loopw [7, 9] (fun r q wr => ∃ k R : Nat, r = .string (nT R) ∧ q = .int .u8 (48 + (k : Int)) ∧ k * v + R = M ∧ Below w.heap.size w wr) (fun r _ _ => sV r)
      case atStart => exact ⟨0, M, rfl, rfl, by omega, hb⟩
      case round =>
        clear hb
        obtain ⟨k, R, rfl, rfl, hkR, hb⟩ := hrel
        have hk9 : k ≤ 9 := by
          rcases Nat.lt_or_ge 9 k with h | h
          · exfalso
            have : 10 * v ≤ k * v := Nat.mul_le_mul_right _ h
            omega
          · exact h
        have HL := Lib.hid (fun w => rless_c R v w)
        have hRz : (nT R).size ≤ 61 := nT_size_le (k := 60) (Nat.lt_of_le_of_lt (show R ≤ 10 * v by omega) hv61)
        by_cases hRv : R < v
        · have eL : decide (R < v) = true := decide_eq_true hRv
          rw [eL] at HL
          have HCv := Lib.hid (fun w => conv_one w (48 + (k : Int)))
          obtain ⟨s1, s2⟩ := one_str k (by omega)
          obtain ⟨S, hS⟩ : ∃ S, strOfNums [48 + (k : Int)] = S := ⟨_, rfl⟩
          rw [hS] at HCv s1 s2
          have hds := div_step (p := p) (v := v) (d := d) (k := k) (R := p % v) (Q := p / v) (by omega) HPE.out (by omega) (by omega)
          rw [← HTK.out] at hds
          have e1 : 10 * (p % v) + d - k * v = R := by omega
          rw [e1] at hds
          have hq : isD (Q ++ S).data.toList ∧ val (Q ++ S).data.toList = val (s.data.toList.take (i + 1)) / v := by
            rw [ByteArray.data_append, Array.toList_append, s1]
            refine ⟨isD.app HQ.out.1 (isD_one (by rw [dig_of (by omega)]; omega)), ?_⟩
            rw [val_snoc, HQ.out.2, dig_of (by omega), hds.1]
            omega
          have HQ2 := Lib.hid hq
          have HR2 := Lib.hid hds.2
          have hqs : (Q ++ S).size = i + 1 := by rw [ByteArray.size_append, s2, hQ]
          have hk2 : ¬ 9223372036854775807 < Q.size + S.size := by omega
          have hsw := hb.size
          clear hq hds hS s1 eL HMd HPE HTK HB
          go_wp2_with fail
          refine (HL.out _).mono ?_
          rintro e w5 ⟨rfl, rfl⟩
          have hcv := HCv.out w5
          go_wp2
          go_roundw
          case rel => exact ⟨i + 1, Q ++ S, by omega, by go_num, rfl, by rw [HR2.out], hqs, HQ2, hb.alloc hsw _⟩
          case measure => first | (simp [intOf]; done) | (simp [intOf]; omega)
        · have eL : decide (R < v) = false := decide_eq_false hRv
          rw [eL] at HL
          have hP := fun w => rpaper_sub (nT R) (nT v) w (Dig.nT R) (Dig.nT v) (by omega) (by omega) (by rw [val_nT, val_nT]; omega)
          rw [val_nT, val_nT] at hP
          have HP := Lib.hid hP
          have hR0 : R - v < R := by omega
          have hkR2 : (k + 1) * v + (R - v) = M := by rw [Nat.add_mul]; omega
          clear hP eL HQ HMd HPE HTK HB
          go_wp2_with fail
          refine (HL.out _).mono ?_
          rintro e w5 ⟨rfl, rfl⟩
          go_wp2_with fail
          refine (HP.out _).mono ?_
          rintro e w6 ⟨rfl, hbb⟩
          have hb := hb.trans (hbb.mono hb.size)
          clear hbb
          go_wp2
          go_roundw
          case rel => exact ⟨k + 1, R - v, rfl, by go_num, hkR2, hb⟩
          case measure => rw [sV_nT, sV_nT]; exact hR0
    · obtain rfl : i = s.size := by omega
      have e : s.data.toList.take s.size = s.data.toList := List.take_of_length_le (by omega)
      rw [e, HVS.out] at HQ ⊢
      have hdq : Dig Q := ⟨HQ.out.1, by have := dS.pos; omega⟩
      have hB := fun w => rbare_c Q w hdq (by omega)
      rw [HQ.out.2] at hB
      have HB := Lib.hid hB
      clear hB HQ e
      go_wp2_with fail
      refine (HB.out _).mono ?_
      rintro e w2 ⟨rfl, rfl⟩
      go_wp2
      exact bodyPost_ret (v := .tuple #[.string (nT (u / v)), .string (nT (u % v))]) (by simp [results, Tryz.results194, go_sem]) rfl ⟨rfl, hb⟩
end Go.Proofs.YtldghloflegpmaaGreatDoor

namespace Go.Proofs.YtldghloflegpmaaGreatDoor
open Go.RowKit Go.Shelf Pu Go.Lib

theorem sz_lt {u k : Nat} (h : (nT u).size ≤ k) : u < 10 ^ k := by
  have h1 := val_lt _ (isD_dD u)
  rw [val_dD] at h1
  rw [nT_size] at h
  exact Nat.lt_of_lt_of_le h1 (Nat.pow_le_pow_right (by omega) h)
theorem sz_18 {u : Nat} (h : (nT u).size ≤ 18) : u < 1000000000000000000 := sz_lt h
theorem sz_60 {u : Nat} (h : (nT u).size ≤ 60) : u < 1000000000000000000000000000000000000000000000000000000000000 := sz_lt h

set_option maxRecDepth 100000 in
set_option maxHeartbeats 4000000 in
theorem rPlus_nn (u v : Nat) (w : World) (hu : (nT u).size ≤ 60) (hv : (nT v).size ≤ 60) :
    Calls Tryz.prog 205 #[.string (nT u), .string (nT v)] w fun e w' => e = .returned (.string (nT (u + v))) ∧ Below w.heap.size w w' := by
  have d1 := Dig.nT u
  have d2 := Dig.nT v
  by_cases h : (nT u).size ≤ 18 ∧ (nT v).size ≤ 18
  · have b1 := sz_18 h.1
    have b2 := sz_18 h.2
    have hB := fun w => rbrief_dig (nT u) (nT v) w d1 d2 h.1 h.2
    rw [val_nT, val_nT] at hB
    have hO := fun w => rOf01_c (u + v) w (by omega)
    have hsum : (u : Int) + (v : Int) = ((u + v : Nat) : Int) := by omega
    rw [← hsum] at hO
    have HB := Lib.hid hB
    have HO := Lib.hid hO
    clear hB hO hsum d1 d2 h hu hv
    generalize nT u = s at *
    generalize nT v = t at *
    generalize nT (u + v) = r at *
    go_enter Tryz.func205, Tryz.ntmps205
    go_wp2_with fail
    refine (HB.out _).mono ?_
    rintro e w2 ⟨rfl, rfl⟩
    go_wp2_with fail
    refine (HO.out _).mono ?_
    rintro e w3 ⟨rfl, hb⟩
    go_wp2
    go_ret
    exact ⟨rfl, hb⟩
  · have hB := fun w => rbrief_big (nT u) (nT v) w d1 d2 (by omega)
    have h1 := fun w => rsize_dig (nT u) w d1
    have h2 := fun w => rsize_dig (nT v) w d2
    have h3 := fun w => rBelow_dig (nT u) w d1
    have h4 := fun w => rBelow_dig (nT v) w d2
    have h5 := fun w => rpaper_add (nT u) (nT v) w d1 d2 (by omega) (by omega)
    rw [val_nT, val_nT] at h5
    have h6 := fun w => rsigned_no (nT (u + v)) w
    have HB := Lib.hid hB
    have H1 := Lib.hid h1
    have H2 := Lib.hid h2
    have H3 := Lib.hid h3
    have H4 := Lib.hid h4
    have H5 := Lib.hid h5
    have H6 := Lib.hid h6
    clear hB h1 h2 h3 h4 h5 h6 h d1 d2 hu hv
    generalize nT u = s at *
    generalize nT v = t at *
    generalize nT (u + v) = r at *
    go_enter Tryz.func205, Tryz.ntmps205
    go_wp2_with fail
    refine (HB.out _).mono ?_
    rintro e w2 ⟨rfl, rfl⟩
    go_wp2_with fail
    refine (H1.out _).mono ?_
    rintro e w2 ⟨rfl, rfl⟩
    go_wp2_with fail
    refine (H2.out _).mono ?_
    rintro e w2 ⟨rfl, rfl⟩
    go_wp2_with fail
    refine (H3.out _).mono ?_
    rintro e w2 ⟨rfl, rfl⟩
    go_wp2_with fail
    refine (H4.out _).mono ?_
    rintro e w2 ⟨rfl, rfl⟩
    go_wp2_with fail
    refine (H5.out _).mono ?_
    rintro e w3 ⟨rfl, hb⟩
    go_wp2_with fail
    refine (H3.out _).mono ?_
    rintro e w2 ⟨rfl, rfl⟩
    go_wp2_with fail
    refine (H6.out _).mono ?_
    rintro e w2 ⟨rfl, rfl⟩
    go_wp2
    go_ret
    exact ⟨rfl, hb⟩

set_option maxRecDepth 100000 in
set_option maxHeartbeats 4000000 in
theorem rPlus_nm (u v : Nat) (w : World) (hu : (nT u).size ≤ 60) (hv : (nT v).size ≤ 60) (_h0 : v ≠ 0) (hle : v ≤ u) :
    Calls Tryz.prog 205 #[.string (nT u), .string (mT v)] w fun e w' => e = .returned (.string (nT (u - v))) ∧ Below w.heap.size w w' := by
  have d1 := Dig.nT u
  have d2 := Dig.nT v
  have b60 := sz_60 hv
  have h1 := fun w => rsize_dig (nT u) w d1
  have h2 := fun w => rsize_neg v w b60
  by_cases h : (nT u).size ≤ 18 ∧ (nT v).size ≤ 18
  · have b1 := sz_18 h.1
    have b2 := sz_18 h.2
    have hB := fun w => rbrief_yes (nT u) (mT v) (nT u) (nT v) _ _ w h1 h2 (fun w => rnumber_dig (nT u) w d1 h.1) (fun w => rnumber_neg v w b2) h.1 h.2
    rw [val_nT] at hB
    have hO := fun w => rOf01_c (u - v) w (by omega)
    have hsum : ((u - v : Nat) : Int) = (u : Int) + -(v : Int) := by omega
    rw [hsum] at hO
    have HB := Lib.hid hB
    have HO := Lib.hid hO
    clear hB hO hsum d1 d2 h hu hv h1 h2 b60
    generalize nT u = s at *
    generalize mT v = t at *
    generalize nT (u - v) = r at *
    have hiu : (v : Int) ≤ (u : Int) := by omega
    go_enter Tryz.func205, Tryz.ntmps205
    go_wp2_with fail
    refine (HB.out _).mono ?_
    rintro e w2 ⟨rfl, rfl⟩
    go_wp2_with fail
    refine (HO.out _).mono ?_
    rintro e w3 ⟨rfl, hb⟩
    go_wp2
    go_ret
    exact ⟨rfl, hb⟩
  · have hB := fun w => rbrief_no (nT u) (mT v) (nT u) (nT v) w h1 h2 (by omega)
    have h3 := fun w => rBelow_dig (nT u) w d1
    have h4 := fun w => rBelow_neg v w
    have h5 := fun w => rpaper_sub (nT u) (nT v) w d1 d2 (by omega) (by omega) (by rw [val_nT, val_nT]; exact hle)
    rw [val_nT, val_nT] at h5
    have h6 := fun w => rsigned_no (nT (u - v)) w
    have h7 := fun w => rless_c u v w
    rw [show decide (u < v) = false from decide_eq_false (by omega)] at h7
    have HB := Lib.hid hB
    have H1 := Lib.hid h1
    have H2 := Lib.hid h2
    have H3 := Lib.hid h3
    have H4 := Lib.hid h4
    have H5 := Lib.hid h5
    have H6 := Lib.hid h6
    have H7 := Lib.hid h7
    clear hB h1 h2 h3 h4 h5 h6 h7 h d1 d2 hu hv b60
    generalize nT u = s at *
    generalize nT v = t at *
    generalize mT v = t' at *
    generalize nT (u - v) = r at *
    go_enter Tryz.func205, Tryz.ntmps205
    go_wp2_with fail
    refine (HB.out _).mono ?_
    rintro e w2 ⟨rfl, rfl⟩
    go_wp2_with fail
    refine (H1.out _).mono ?_
    rintro e w2 ⟨rfl, rfl⟩
    go_wp2_with fail
    refine (H2.out _).mono ?_
    rintro e w2 ⟨rfl, rfl⟩
    go_wp2_with fail
    refine (H3.out _).mono ?_
    rintro e w2 ⟨rfl, rfl⟩
    go_wp2_with fail
    refine (H4.out _).mono ?_
    rintro e w2 ⟨rfl, rfl⟩
    go_wp2_with fail
    refine (H7.out _).mono ?_
    rintro e w2 ⟨rfl, rfl⟩
    go_wp2_with fail
    refine (H5.out _).mono ?_
    rintro e w3 ⟨rfl, hb⟩
    go_wp2_with fail
    refine (H3.out _).mono ?_
    rintro e w2 ⟨rfl, rfl⟩
    go_wp2_with fail
    refine (H6.out _).mono ?_
    rintro e w2 ⟨rfl, rfl⟩
    go_wp2
    go_ret
    exact ⟨rfl, hb⟩

set_option maxRecDepth 100000 in
set_option maxHeartbeats 4000000 in
theorem rMinus_c (u v : Nat) (w : World) (hu : (nT u).size ≤ 60) (hv : (nT v).size ≤ 60) (hle : v ≤ u) :
    Calls Tryz.prog 198 #[.string (nT u), .string (nT v)] w fun e w' => e = .returned (.string (nT (u - v))) ∧ Below w.heap.size w w' := by
  have h1 := fun w => rTurned_c v w (sz_60 hv)
  have h2 : ∀ w, Calls Tryz.prog 205 #[.string (nT u), .string (zT (-(v : Int)))] w fun e w' => e = .returned (.string (nT (u - v))) ∧ Below w.heap.size w w' := fun w => by
    by_cases h0 : v = 0
    · subst h0
      have := rPlus_nn u 0 w hu (by rw [nT_zero]; decide)
      rw [show zT (-((0 : Nat) : Int)) = nT 0 from rfl]
      exact this
    · rw [zT_neg h0]; exact rPlus_nm u v w hu hv h0 hle
  have H1 := Lib.hid h1
  have H2 := Lib.hid h2
  clear h1 h2
  generalize zT (-(v : Int)) = z at *
  generalize nT u = s at *
  generalize nT v = t at *
  generalize nT (u - v) = r at *
  go_enter Tryz.func198, Tryz.ntmps198
  go_wp2_with fail
  refine (H1.out _).mono ?_
  rintro e w2 ⟨rfl, rfl⟩
  go_wp2_with fail
  refine (H2.out _).mono ?_
  rintro e w3 ⟨rfl, hb⟩
  go_wp2
  go_ret
  exact ⟨rfl, hb⟩

set_option maxRecDepth 100000 in
set_option maxHeartbeats 4000000 in
theorem rTimes_c (u v : Nat) (w : World) (hu : (nT u).size ≤ 60) (hv : (nT v).size ≤ 60) :
    Calls Tryz.prog 146 #[.string (nT u), .string (nT v)] w fun e w' => e = .returned (.string (nT (u * v))) ∧ Below w.heap.size w w' := by
  have d1 := Dig.nT u
  have d2 := Dig.nT v
  have h1 := fun w => rsize_dig (nT u) w d1
  have h2 := fun w => rsize_dig (nT v) w d2
  have h3 := fun w => rBelow_dig (nT u) w d1
  have h4 := fun w => rBelow_dig (nT v) w d2
  have h5 := fun w => rproduct_c (nT u) (nT v) w d1 d2 hu hv
  rw [val_nT, val_nT] at h5
  have h6 := fun w => rsigned_no (nT (u * v)) w
  have p1 := d1.pos
  have p2 := d2.pos
  have H1 := Lib.hid h1
  have H2 := Lib.hid h2
  have H3 := Lib.hid h3
  have H4 := Lib.hid h4
  have H5 := Lib.hid h5
  have H6 := Lib.hid h6
  clear h1 h2 h3 h4 h5 h6
  by_cases h : (nT u).size + (nT v).size ≤ 18
  · have b1 := sz_lt (u := u) (Nat.le_refl _)
    have b2 := sz_lt (u := v) (Nat.le_refl _)
    have hb3 : u * v < 1000000000000000000 := by
      have e : u * v < 10 ^ (nT u).size * 10 ^ (nT v).size := Nat.mul_lt_mul'' b1 b2
      rw [← Nat.pow_add] at e
      exact Nat.lt_of_lt_of_le e (pow_18 h)
    have hB := fun w => rbrief_dig (nT u) (nT v) w d1 d2 (by omega) (by omega)
    rw [val_nT, val_nT] at hB
    obtain ⟨z, hz⟩ : ∃ z, u * v = z := ⟨_, rfl⟩
    have hzi : (u : Int) * (v : Int) = (z : Int) := by rw [← hz]; simp
    rw [hz] at hb3 ⊢
    have hO := fun w => rOf01_c z w (by omega)
    have HB := Lib.hid hB
    have HO := Lib.hid hO
    clear hB hO d1 d2 hu hv b1 b2 hz H1 H2 H3 H4 H5 H6
    generalize nT u = s at *
    generalize nT v = t at *
    generalize nT z = r at *
    have hli : (s.size : Int) + (t.size : Int) ≤ 18 := by omega
    go_enter Tryz.func146, Tryz.ntmps146
    go_wp2_with fail
    refine (HB.out _).mono ?_
    rintro e w2 ⟨rfl, rfl⟩
    go_wp2_with fail
    refine (HO.out _).mono ?_
    rintro e w3 ⟨rfl, hb⟩
    go_wp2
    go_ret
    exact ⟨rfl, hb⟩
  · by_cases h18 : (nT u).size ≤ 18 ∧ (nT v).size ≤ 18
    · have hB := fun w => rbrief_dig (nT u) (nT v) w d1 d2 h18.1 h18.2
      rw [val_nT, val_nT] at hB
      have HB := Lib.hid hB
      clear hB d1 d2 h18
      generalize nT (u * v) = r at *
      generalize nT u = s at *
      generalize nT v = t at *
      have hli : ¬ (s.size : Int) + (t.size : Int) ≤ 18 := by omega
      go_enter Tryz.func146, Tryz.ntmps146
      go_wp2_with fail
      refine (HB.out _).mono ?_
      rintro e w2 ⟨rfl, rfl⟩
      go_wp2_with fail
      refine (H1.out _).mono ?_
      rintro e w2 ⟨rfl, rfl⟩
      go_wp2_with fail
      refine (H2.out _).mono ?_
      rintro e w2 ⟨rfl, rfl⟩
      go_wp2_with fail
      refine (H5.out _).mono ?_
      rintro e w3 ⟨rfl, hb⟩
      go_wp2_with fail
      refine (H3.out _).mono ?_
      rintro e w2 ⟨rfl, rfl⟩
      go_wp2_with fail
      refine (H4.out _).mono ?_
      rintro e w2 ⟨rfl, rfl⟩
      go_wp2_with fail
      refine (H6.out _).mono ?_
      rintro e w2 ⟨rfl, rfl⟩
      go_wp2
      go_ret
      exact ⟨rfl, hb⟩
    · have hB := fun w => rbrief_big (nT u) (nT v) w d1 d2 (by omega)
      have HB := Lib.hid hB
      clear hB d1 d2 h18 h
      generalize nT (u * v) = r at *
      generalize nT u = s at *
      generalize nT v = t at *
      go_enter Tryz.func146, Tryz.ntmps146
      go_wp2_with fail
      refine (HB.out _).mono ?_
      rintro e w2 ⟨rfl, rfl⟩
      go_wp2_with fail
      refine (H1.out _).mono ?_
      rintro e w2 ⟨rfl, rfl⟩
      go_wp2_with fail
      refine (H2.out _).mono ?_
      rintro e w2 ⟨rfl, rfl⟩
      go_wp2_with fail
      refine (H5.out _).mono ?_
      rintro e w3 ⟨rfl, hb⟩
      go_wp2_with fail
      refine (H3.out _).mono ?_
      rintro e w2 ⟨rfl, rfl⟩
      go_wp2_with fail
      refine (H4.out _).mono ?_
      rintro e w2 ⟨rfl, rfl⟩
      go_wp2_with fail
      refine (H6.out _).mono ?_
      rintro e w2 ⟨rfl, rfl⟩
      go_wp2
      go_ret
      exact ⟨rfl, hb⟩
end Go.Proofs.YtldghloflegpmaaGreatDoor

namespace Go.Proofs.YtldghloflegpmaaGreatDoor
open Go.RowKit Go.Shelf Pu Go.Lib

theorem ne_zero_str {u : Nat} (h : u ≠ 0) : ¬ (nT u).toList = [48] ∧ ((nT u).toList == [48]) = false := by
  have hne : ¬ (nT u).toList = [48] := by
    rw [ByteArray.toList_eq, nT_list]
    intro e
    exact h (dD_inj (e.trans dD_zero.symm))
  exact ⟨hne, by simpa using hne⟩
theorem sz_mono {u v : Nat} (h : u ≤ v) : (nT u).size ≤ (nT v).size := by
  rw [nT_size, nT_size]
  rcases Nat.lt_or_ge (Lib.decDigits v).length (Lib.decDigits u).length with h' | h'
  · have := dD_lt h'; omega
  · exact h'

theorem parted_int (u v : Nat) (h0 : v ≠ 0) : ((u : Int)).tmod (v : Int) = ((u % v : Nat) : Int) ∧ ((u : Int) - ((u % v : Nat) : Int)).tdiv (v : Int) = ((u / v : Nat) : Int) := by
  refine ⟨by rw [Int.tmod_eq_emod_of_nonneg (Int.natCast_nonneg _)]; rfl, ?_⟩
  have hde := Nat.div_add_mod u v
  obtain ⟨x, hx⟩ : ∃ x, v * (u / v) = x := ⟨_, rfl⟩
  obtain ⟨r, hr⟩ : ∃ r, u % v = r := ⟨_, rfl⟩
  rw [hx, hr] at hde
  have e : (u : Int) - ((u % v : Nat) : Int) = ((v * (u / v) : Nat) : Int) := by
    rw [hx, hr]; omega
  rw [e, Int.tdiv_eq_ediv_of_nonneg (Int.natCast_nonneg _)]
  have : ((v * (u / v) / v : Nat) : Int) = ((u / v : Nat) : Int) := by rw [Nat.mul_div_cancel_left _ (Nat.pos_of_ne_zero h0)]
  exact this
set_option maxRecDepth 100000 in
set_option maxHeartbeats 4000000 in
theorem rParted_small (u v : Nat) (w : World) (h : (nT u).size ≤ 18 ∧ (nT v).size ≤ 18) (h0 : v ≠ 0) :
    Calls Tryz.prog 145 #[.string (nT u), .string (nT v)] w fun e w' => e = .returned (.tuple #[.string (nT (u / v)), .string (nT (u % v))]) ∧ Below w.heap.size w w' := by
  have d1 := Dig.nT u
  have d2 := Dig.nT v
  · have b1 := sz_18 h.1
    have b2 := sz_18 h.2
    have hB := fun w => rbrief_dig (nT u) (nT v) w d1 d2 h.1 h.2
    rw [val_nT, val_nT] at hB
    have hq1 : u / v ≤ u := Nat.div_le_self _ _
    have hm1 : u % v < v := Nat.mod_lt _ (by omega)
    have hO1 := fun w => rOf01_c (u / v) w (by omega)
    have hO2 := fun w => rOf01_c (u % v) w (by omega)
    obtain ⟨hm, hq⟩ := parted_int u v h0
    have hv0 : ¬ (v : Int) = 0 := by omega
    obtain ⟨q, hqe⟩ : ∃ q, u / v = q := ⟨_, rfl⟩
    obtain ⟨r, hre⟩ : ∃ r, u % v = r := ⟨_, rfl⟩
    rw [hqe] at hO1 hq hq1
    rw [hre] at hO2 hm hm1 hq
    rw [hqe, hre]
    have hru : r ≤ u := by rw [← hre]; exact Nat.mod_le _ _
    have HB := Lib.hid hB
    have HO1 := Lib.hid hO1
    have HO2 := Lib.hid hO2
    clear hB hO1 hO2 d1 d2 h hqe hre
    have n1 : decide ((r : Int) < 0) = false := decide_eq_false (by omega)
    have n2 : decide ((v : Int) < 0) = false := decide_eq_false (by omega)
    have n3 : (decide ((r : Int) < 0) != decide ((v : Int) < 0)) = false := by rw [n1, n2]; rfl
    have b1' : (u : Int) < 1000000000000000000 := by omega
    have b2' : (v : Int) < 1000000000000000000 := by omega
    have hru' : (r : Int) ≤ (u : Int) := by omega
    have r0' : 0 ≤ (r : Int) := by omega
    have v0' : 0 < (v : Int) := by omega
    have u0' : 0 ≤ (u : Int) := by omega
    have q0' : 0 ≤ (q : Int) := by omega
    have q1' : (q : Int) < 1000000000000000000 := by omega
    have hrz : r = 0 ↔ (r : Int) = 0 := by omega
    clear hru hm1 hq1 b1 b2
    generalize (u : Int) = U at *
    generalize (v : Int) = V at *
    generalize (r : Int) = R at *
    generalize (q : Int) = Q at *
    generalize nT u = s at *
    generalize nT v = t at *
    generalize nT q = tq at *
    generalize nT r = tr at *
    go_enter Tryz.func145, Tryz.ntmps145
    by_cases hr0 : R = 0
    · subst hr0
      have hq' : U / V = Q := by
        rw [← hq, Int.sub_zero, Int.tdiv_eq_ediv_of_nonneg u0']
      rw [← hq'] at HO1
      go_wp2_with fail
      refine (HB.out _).mono ?_
      rintro e w2 ⟨rfl, rfl⟩
      go_wp2_with fail
      first | rw [hq'] | skip
      first | rw [hq'] at HO1 | skip
      refine (HO1.out _).mono ?_
      rintro e w3 ⟨rfl, hb⟩
      go_wp2_with fail
      refine (HO2.out _).mono ?_
      rintro e w4 ⟨rfl, hbb⟩
      have hb := hb.trans (hbb.mono hb.size)
      go_wp2
      exact bodyPost_ret (v := .tuple #[.string tq, .string tr]) (by simp [results, Tryz.results145, go_sem]) rfl ⟨rfl, hb⟩
    · have hr1 : (R != 0) = true := by simpa using hr0
      go_wp2_with fail
      refine (HB.out _).mono ?_
      rintro e w2 ⟨rfl, rfl⟩
      go_wp2_with fail
      refine (HO1.out _).mono ?_
      rintro e w3 ⟨rfl, hb⟩
      go_wp2_with fail
      refine (HO2.out _).mono ?_
      rintro e w4 ⟨rfl, hbb⟩
      have hb := hb.trans (hbb.mono hb.size)
      go_wp2
      exact bodyPost_ret (v := .tuple #[.string tq, .string tr]) (by simp [results, Tryz.results145, go_sem]) rfl ⟨rfl, hb⟩
end Go.Proofs.YtldghloflegpmaaGreatDoor

namespace Go.Proofs.YtldghloflegpmaaGreatDoor
open Go.RowKit Go.Shelf Pu Go.Lib

set_option maxRecDepth 100000 in
set_option maxHeartbeats 4000000 in
theorem rParted_c (u v : Nat) (w : World) (hu : (nT u).size ≤ 60) (hv : (nT v).size ≤ 60) (h0 : v ≠ 0) :
    Calls Tryz.prog 145 #[.string (nT u), .string (nT v)] w fun e w' => e = .returned (.tuple #[.string (nT (u / v)), .string (nT (u % v))]) ∧ Below w.heap.size w w' := by
  have d1 := Dig.nT u
  have d2 := Dig.nT v
  by_cases h : (nT u).size ≤ 18 ∧ (nT v).size ≤ 18
  · exact rParted_small u v w h h0
  · have hB := fun w => rbrief_big (nT u) (nT v) w d1 d2 (by omega)
    have h1 := fun w => rsize_dig (nT u) w d1
    have h2 := fun w => rsize_dig (nT v) w d2
    have h3 := fun w => rBelow_dig (nT u) w d1
    have h4 := fun w => rBelow_dig (nT v) w d2
    have h5 := fun w => rdivided_c u v w hu hv h0
    have h6 := fun w => rsigned_no (nT (u / v)) w
    have hqz := sz_mono (Nat.div_le_self u v)
    have hmul : u / v * v ≤ u := Nat.div_mul_le_self u v
    have hmz := sz_mono hmul
    have h7 := fun w => rTimes_c (u / v) v w (by omega) hv
    have h8 := fun w => rMinus_c u (u / v * v) w hu (by omega) hmul
    have hme : u - u / v * v = u % v := by
      have h' := Nat.div_add_mod u v
      rw [Nat.mul_comm] at h'
      exact Nat.sub_eq_of_eq_add' h'.symm
    rw [hme] at h8
    have HB := Lib.hid hB
    have H1 := Lib.hid h1
    have H2 := Lib.hid h2
    have H3 := Lib.hid h3
    have H4 := Lib.hid h4
    have H5 := Lib.hid h5
    have H6 := Lib.hid h6
    have H7 := Lib.hid h7
    have H8 := Lib.hid h8
    have hz : u % v = 0 ∨ (¬ (nT (u % v)).toList = [48] ∧ ((nT (u % v)).toList == [48]) = false) := by
      by_cases h : u % v = 0
      · exact Or.inl h
      · exact Or.inr (ne_zero_str h)
    clear hB h1 h2 h3 h4 h5 h6 h7 h8 h d1 d2 hu hv hqz hmz hme
    generalize u % v = r at *
    generalize nT (u / v * v) = tm at *
    generalize nT (u / v) = tq at *
    generalize nT u = s at *
    generalize nT v = t at *
    go_enter Tryz.func145, Tryz.ntmps145
    go_wp2_with fail
    refine (HB.out _).mono ?_
    rintro e w2 ⟨rfl, rfl⟩
    go_wp2_with fail
    refine (H1.out _).mono ?_
    rintro e w2 ⟨rfl, rfl⟩
    go_wp2_with fail
    refine (H2.out _).mono ?_
    rintro e w2 ⟨rfl, rfl⟩
    go_wp2_with fail
    refine (H5.out _).mono ?_
    rintro e w3 ⟨rfl, hb⟩
    go_wp2_with fail
    refine (H3.out _).mono ?_
    rintro e w2 ⟨rfl, rfl⟩
    go_wp2_with fail
    refine (H4.out _).mono ?_
    rintro e w2 ⟨rfl, rfl⟩
    go_wp2_with fail
    refine (H6.out _).mono ?_
    rintro e w2 ⟨rfl, rfl⟩
    rcases hz with rfl | ⟨z1, z2⟩
    · rw [nT_zero] at H8 ⊢
      go_wp2_with fail
      refine (H7.out _).mono ?_
      rintro e w4 ⟨rfl, hbb⟩
      have hb := hb.trans (hbb.mono hb.size)
      clear hbb
      go_wp2_with fail
      refine (H8.out _).mono ?_
      rintro e w5 ⟨rfl, hbb⟩
      have hb := hb.trans (hbb.mono hb.size)
      go_wp2
      exact bodyPost_ret (v := .tuple #[.string tq, .string ⟨#[48]⟩]) (by simp [results, Tryz.results145, go_sem]) rfl ⟨by rw [nT_zero], hb⟩
    · go_wp2_with fail
      refine (H3.out _).mono ?_
      rintro e w2 ⟨rfl, rfl⟩
      go_wp2_with fail
      refine (H4.out _).mono ?_
      rintro e w2 ⟨rfl, rfl⟩
      go_wp2_with fail
      refine (H7.out _).mono ?_
      rintro e w4 ⟨rfl, hbb⟩
      have hb := hb.trans (hbb.mono hb.size)
      clear hbb
      go_wp2_with fail
      refine (H8.out _).mono ?_
      rintro e w5 ⟨rfl, hbb⟩
      have hb := hb.trans (hbb.mono hb.size)
      go_wp2
      exact bodyPost_ret (v := .tuple #[.string tq, .string (nT r)]) (by simp [results, Tryz.results145, go_sem]) rfl ⟨rfl, hb⟩

set_option maxHeartbeats 4000000 in
theorem rOrder_c (u v : Nat) (w : World) (hu : (nT u).size ≤ 60) (hv : (nT v).size ≤ 60) (hle : v ≤ u) :
    Calls Tryz.prog 190 #[.string (nT u), .string (nT v)] w fun e w' => e = .returned (.int .i64 (if u = v then 0 else 1)) ∧ Below w.heap.size w w' := by
  have h1 := fun w => rMinus_c u v w hu hv hle
  have H1 := Lib.hid h1
  clear h1
  by_cases h : u = v
  · rw [if_pos h]
    rw [show u - v = 0 by omega, nT_zero] at H1
    generalize nT u = s at *
    generalize nT v = t at *
    go_enter Tryz.func190, Tryz.ntmps190
    go_wp2_with fail
    refine (H1.out _).mono ?_
    rintro e w2 ⟨rfl, hb⟩
    go_wp2
    go_ret
    exact ⟨rfl, hb⟩
  · rw [if_neg h]
    obtain ⟨z1, z2⟩ := ne_zero_str (u := u - v) (by omega)
    have h2 := fun w => rBelow_dig (nT (u - v)) w (Dig.nT _)
    have H2 := Lib.hid h2
    clear h2
    generalize nT (u - v) = r at *
    generalize nT u = s at *
    generalize nT v = t at *
    go_enter Tryz.func190, Tryz.ntmps190
    go_wp2_with fail
    refine (H1.out _).mono ?_
    rintro e w2 ⟨rfl, hb⟩
    go_wp2_with fail
    refine (H2.out _).mono ?_
    rintro e w2 ⟨rfl, rfl⟩
    go_wp2
    go_ret
    exact ⟨rfl, hb⟩
end Go.Proofs.YtldghloflegpmaaGreatDoor

namespace Go.Proofs.YtldghloflegpmaaGreatDoor
open Go.RowKit Go.Shelf Pu Go.Lib

set_option maxRecDepth 100000 in
set_option maxHeartbeats 4000000 in
theorem rShared_c (u v : Nat) (w : World) (hu : (nT u).size ≤ 60) (hv : (nT v).size ≤ 60) :
    Calls Tryz.prog 191 #[.string (nT u), .string (nT v)] w fun e w' => e = .returned (.string (nT (Nat.gcd u v))) ∧ Below w.heap.size w w' := by
  have H1 := Lib.hid (fun w => rsize_dig (nT u) w (Dig.nT u))
  have H2 := Lib.hid (fun w => rsize_dig (nT v) w (Dig.nT v))
  have H3 := Lib.hid (fun w => rsigned_no (nT u) w)
  have H4 := Lib.hid (fun w => rsigned_no (nT v) w)
  go_enter Tryz.func191, Tryz.ntmps191
  go_wp2_with fail
  refine (H1.out _).mono ?_
  rintro e w2 ⟨rfl, rfl⟩
  go_wp2_with fail
  refine (H3.out _).mono ?_
  rintro e w2 ⟨rfl, rfl⟩
  go_wp2_with fail
  refine (H2.out _).mono ?_
  rintro e w2 ⟨rfl, rfl⟩
  go_wp2_with fail
  refine (H4.out _).mono ?_
  rintro e w2 ⟨rfl, rfl⟩
  clear H1 H2 H3 H4
  go_wp2_with fail
  go_loopw [0, 1] (fun p q wr => ∃ x y : Nat, p = .string (nT x) ∧ q = .string (nT y) ∧ Hid (Nat.gcd x y = Nat.gcd u v) ∧ (nT x).size ≤ 60 ∧ (nT y).size ≤ 60 ∧ Below w2.heap.size w2 wr) (fun _ q _ => sV q)
  case atStart => exact ⟨u, v, rfl, rfl, Lib.hid rfl, hu, hv, Below.refl _ _⟩
  case round =>
    obtain ⟨x, y, rfl, rfl, HG, hx, hy, hb⟩ := hrel
    by_cases hy0 : y = 0
    · subst hy0
      have hg := HG.out
      rw [Nat.gcd_zero_right] at hg
      have HG2 := Lib.hid hg
      clear hg HG
      rw [nT_zero]
      go_wp2
      go_ret
      exact ⟨by rw [← HG2.out]; rfl, hb⟩
    · obtain ⟨z1, z2⟩ := ne_zero_str hy0
      by_cases h : (nT x).size ≤ 18 ∧ (nT y).size ≤ 18
      · have b1 := sz_18 h.1
        have b2 := sz_18 h.2
        have hB := fun w => rbrief_dig (nT x) (nT y) w (Dig.nT x) (Dig.nT y) h.1 h.2
        rw [val_nT, val_nT] at hB
        have HB := Lib.hid hB
        clear hB h
        go_wp2_with fail
        refine (HB.out _).mono ?_
        rintro e w5 ⟨rfl, rfl⟩
        go_wp2_with fail
        go_loopw [5, 6] (fun p q wr => ∃ m n : Nat, p = .int .i64 (m : Int) ∧ q = .int .i64 (n : Int) ∧ Hid (Nat.gcd m n = Nat.gcd x y) ∧ m < 1000000000000000000 ∧ n < 1000000000000000000 ∧ Below w2.heap.size w2 wr) (fun _ q _ => (intOf q).toNat)
        case atStart => exact ⟨x, y, rfl, rfl, Lib.hid rfl, b1, b2, hb⟩
        case round =>
          clear hb
          obtain ⟨m, n, rfl, rfl, HM, c1, c2, hb⟩ := hrel
          by_cases hn : 0 < n
          · have hn1 : (0 : Int) < (n : Int) := by omega
            have hn2 : ¬ (n : Int) = 0 := by omega
            have hm : ((m : Int)).tmod (n : Int) = ((m % n : Nat) : Int) := (parted_int m n (by omega)).1
            have hlt : m % n < n := Nat.mod_lt _ hn
            have hg2 : Nat.gcd n (m % n) = Nat.gcd x y := by rw [← HM.out, Nat.gcd_comm m n, Nat.gcd_rec n m, Nat.gcd_comm]
            obtain ⟨r, hr⟩ : ∃ r, m % n = r := ⟨_, rfl⟩
            rw [hr] at hm hlt hg2
            have HG3 := Lib.hid hg2
            clear hg2 HM hr
            go_wp2_with fail
            go_region
            all_goals
              go_wp2
              go_roundw
              case rel => exact ⟨n, r, rfl, rfl, HG3, c2, by omega, hb.drew⟩
              case measure => first | (simp [intOf]; done) | (simp [intOf]; omega)
          · obtain rfl : n = 0 := by omega
            have hg2 := HM.out
            rw [Nat.gcd_zero_right] at hg2
            have hO := fun w => rOf01_c m w (by omega)
            rw [hg2, HG.out] at hO
            rw [hg2, HG.out]
            have HO := Lib.hid hO
            clear hO hg2 HM
            have hn1 : ¬ (0 : Int) < ((0 : Nat) : Int) := by omega
            go_wp2_with fail
            refine (HO.out _).mono ?_
            rintro e w7 ⟨rfl, hbb⟩
            go_wp2
            go_ret
            exact ⟨rfl, hb.trans (hbb.mono hb.size)⟩
      · have hB := fun w => rbrief_big (nT x) (nT y) w (Dig.nT x) (Dig.nT y) (by omega)
        have hP := fun w => rParted_c x y w hx hy hy0
        have hlt : x % y < y := Nat.mod_lt _ (by omega)
        have hrz : (nT (x % y)).size ≤ 60 := Nat.le_trans (sz_mono (Nat.le_of_lt hlt)) hy
        have hg2 : Nat.gcd y (x % y) = Nat.gcd u v := by rw [← HG.out, Nat.gcd_comm x y, Nat.gcd_rec y x, Nat.gcd_comm]
        have HB := Lib.hid hB
        have HP := Lib.hid hP
        have HG3 := Lib.hid hg2
        clear hB hP hg2 HG h
        go_wp2_with fail
        refine (HB.out _).mono ?_
        rintro e w5 ⟨rfl, rfl⟩
        go_wp2_with fail
        refine (HP.out _).mono ?_
        rintro e w6 ⟨rfl, hbb⟩
        have hb := hb.trans (hbb.mono hb.size)
        clear hbb
        go_wp2
        go_roundw
        case rel => exact ⟨y, x % y, rfl, rfl, HG3, hy, hrz, hb⟩
        case measure => rw [sV_nT, sV_nT]; exact hlt

set_option maxRecDepth 100000 in
set_option maxHeartbeats 4000000 in
theorem rCheck01_c (u : Nat) (w : World) (hu : (nT u).size ≤ 60) : Calls Tryz.prog 188 #[.string (nT u)] w fun e w' => e = .returned (.int .i64 0) ∧ w' = w := by
  have hd := Dig.nT u
  have H1 := Lib.hid (fun w => rsize_dig (nT u) w hd)
  have hp := hd.pos
  have h0 : ((nT u)[0]'hp).toNat = 48 → (nT u).size = 1 := fun h => by
    by_cases hz : u = 0
    · rw [hz, nT_zero]; rfl
    · exfalso
      have := dD_head hz
      apply this
      have ha := at_list (nT u) 0 hp
      rw [nT_list] at ha
      cases hq : Lib.decDigits u with
      | nil => rw [hq] at ha; simp at ha
      | cons x r =>
        rw [hq] at ha
        simp at ha
        simp only [List.headD_cons]
        rw [ha]; exact h
  have hne := list_ne' hp
  have hie := list_ne hp
  have H0 := Lib.hid h0
  clear h0
  generalize nT u = s at *
  go_enter Tryz.func188, Tryz.ntmps188
  go_wp2_with fail
  refine (H1.out _).mono ?_
  rintro e w2 ⟨rfl, rfl⟩
  by_cases h48 : (s[0]'hp).toNat = 48
  · have h1 := H0.out h48
    have h48' : ((s[0]'hp).toNat : Int) = 48 := by omega
    have h1' : (s.size : Int) = 1 := by omega
    go_wp2_with fail
    go_loopw [4] (fun p wr => ∃ k : Nat, k ≤ s.size ∧ p = .int .i64 (k : Int) ∧ wr = w2) (fun p _ => s.size - (intOf p).toNat)
    case atStart => exact ⟨0, by omega, rfl, rfl⟩
    case round =>
      obtain ⟨k, hk, rfl, rfl⟩ := hrel
      by_cases hlt : k < s.size
      · have hb := hd.b k hlt
        go_wp2
        go_roundw
        case rel => exact ⟨k + 1, by omega, by go_num, trivial⟩
        case measure => first | (simp [intOf]; done) | (simp [intOf]; omega)
      · go_wp2
        go_ret
        exact ⟨rfl, rfl⟩
  · have h48' : ¬ ((s[0]'hp).toNat : Int) = 48 := by omega
    go_wp2_with fail
    go_loopw [4] (fun p wr => ∃ k : Nat, k ≤ s.size ∧ p = .int .i64 (k : Int) ∧ wr = w2) (fun p _ => s.size - (intOf p).toNat)
    case atStart => exact ⟨0, by omega, rfl, rfl⟩
    case round =>
      obtain ⟨k, hk, rfl, rfl⟩ := hrel
      by_cases hlt : k < s.size
      · have hb := hd.b k hlt
        go_wp2
        go_roundw
        case rel => exact ⟨k + 1, by omega, by go_num, trivial⟩
        case measure => first | (simp [intOf]; done) | (simp [intOf]; omega)
      · go_wp2
        go_ret
        exact ⟨rfl, rfl⟩
end Go.Proofs.YtldghloflegpmaaGreatDoor

namespace Go.Proofs.YtldghloflegpmaaGreatDoor
open Go.RowKit Go.Shelf Pu Go.Lib

set_option maxHeartbeats 2000000 in
theorem rslash_c (s : ByteArray) (w : World) (hs : s.size ≤ 1000) : Calls Tryz.prog 189 #[.string s] w fun e w' => e = .returned (.int .i64 (Lib.indexByte s.data.toList 47)) ∧ w' = w := by
  have h0 : Lib.indexByte s.data.toList 47 = behind 0 (Lib.indexByte (s.data.toList.drop 0) 47) := by
    have := indexByte_ge s.data.toList 47
    rw [List.drop_zero]; unfold behind; split <;> omega
  have H0 := Lib.hid h0
  clear h0
  go_enter Tryz.func189, Tryz.ntmps189
  go_wp2_with fail
  go_loopw [3] (fun g wr => ∃ k : Nat, k ≤ s.size ∧ g = .int .i64 (k : Int) ∧ Hid (Lib.indexByte s.data.toList 47 = behind k (Lib.indexByte (s.data.toList.drop k) 47)) ∧ w = wr) (fun g _ => s.size - (intOf g).toNat)
  case atStart => exact ⟨0, by omega, rfl, H0, rfl⟩
  case round =>
    obtain ⟨k, hk, rfl, HK, rfl⟩ := hrel
    by_cases hlt : k < s.size
    · have hc : s.data.toList[k]? = some (s[k]'hlt) := at_list s k hlt
      by_cases he : (s[k]'hlt).toNat = (47 : UInt8).toNat
      · have e := index_hit hc he HK.out
        have E := Lib.hid e
        have he' : ((s[k]'hlt).toNat : Int) = 47 := by rw [he]; rfl
        clear hc e he
        go_wp2
        go_ret
        exact ⟨by rw [E.out]; rfl, rfl⟩
      · have e := index_step hc he HK.out
        have E := Lib.hid e
        have he' : ¬ ((s[k]'hlt).toNat : Int) = 47 := by intro h; apply he; show _ = 47; omega
        clear hc e he
        go_wp2
        go_roundw
        case rel => exact ⟨k + 1, by omega, by go_num, E, trivial⟩
        case measure => simp [intOf]; omega
    · have e := index_end (by simp; omega) HK.out
      have E := Lib.hid e
      clear e
      go_wp2
      go_ret
      exact ⟨by rw [E.out]; rfl, rfl⟩

theorem rT_one (p : Nat) : rT p 1 = nT p := rfl
theorem rT_slash1 (p : Nat) : Lib.indexByte (rT p 1).data.toList 47 = -1 := indexByte_not _ _ (dD_no (Or.inl (by decide)))
theorem rT_slash2 {p q : Nat} (h : q ≠ 1) : Lib.indexByte (rT p q).data.toList 47 = ((nT p).size : Int) := by
  rw [rT_list]; unfold rL; rw [if_neg h, indexByte_at _ _ _ (dD_no (Or.inl (by decide))), nT_size]
theorem rT_sz {p q : Nat} (h : q ≠ 1) : (rT p q).size = (nT p).size + 1 + (nT q).size := by
  show (rL p q).toArray.size = _
  unfold rL; rw [if_neg h, nT_size, nT_size]; simp; omega
theorem rT_pre {p q : Nat} (h : q ≠ 1) : (rT p q).extract 0 (nT p).size = nT p := by
  apply ByteArray.ext; apply Array.ext'
  rw [ByteArray.data_extract, nT_size, Array.toList_extract, rT_list]
  unfold rL; rw [if_neg h]
  simp [nT]
theorem rT_post {p q : Nat} (h : q ≠ 1) : (rT p q).extract ((nT p).size + 1) (rT p q).size = nT q := by
  apply ByteArray.ext; apply Array.ext'
  rw [ByteArray.data_extract, rT_sz h, nT_size, nT_size, Array.toList_extract, rT_list]
  unfold rL; rw [if_neg h]
  simp [nT]

set_option maxHeartbeats 4000000 in
theorem rSplit_c (p q : Nat) (w : World) (hp : (nT p).size ≤ 60) (hq : (nT q).size ≤ 60) : Calls Tryz.prog 144 #[.string (rT p q)] w fun e w' => e = .returned (.tuple #[.string (nT p), .string (nT q)]) ∧ Below w.heap.size w w' := by
  by_cases h : q = 1
  · subst h
    have hS := fun w => rslash_c (rT p 1) w (by rw [rT_one]; omega)
    rw [rT_slash1] at hS
    have HS := Lib.hid hS
    clear hS
    rw [rT_one] at HS ⊢
    rw [nT_one]
    generalize nT p = s at *
    go_enter Tryz.func144, Tryz.ntmps144
    go_wp2_with fail
    refine (HS.out _).mono ?_
    rintro e w2 ⟨rfl, rfl⟩
    go_wp2
    exact bodyPost_ret (v := .tuple #[.string s, .string ⟨#[49]⟩]) (by simp [results, Tryz.results144, go_sem]) rfl ⟨rfl, Below.refl _ _⟩
  · have hS := fun w => rslash_c (rT p q) w (by rw [rT_sz h]; omega)
    rw [rT_slash2 h] at hS
    have hz := rT_sz (p := p) h
    have e1 := rT_pre (p := p) h
    have e2 := rT_post (p := p) h
    have HS := Lib.hid hS
    have E1 := Lib.hid e1
    have E2 := Lib.hid e2
    clear hS e1 e2
    generalize rT p q = x at *
    generalize nT p = s at *
    generalize nT q = t at *
    have k0 : ¬ (s.size : Int) < 0 := by omega
    have k1 : s.size ≤ x.size := by omega
    have k2 : s.size + 1 ≤ x.size := by omega
    go_enter Tryz.func144, Tryz.ntmps144
    go_wp2_with fail
    refine (HS.out _).mono ?_
    rintro e w2 ⟨rfl, rfl⟩
    go_wp2_with fail
    go_region
    all_goals
      go_wp2
      exact bodyPost_ret (v := .tuple #[.string (x.extract 0 s.size), .string (x.extract (s.size + 1) x.size)]) (by simp [results, Tryz.results144, go_sem, hz]) rfl ⟨by rw [E1.out, E2.out], (Below.refl _ _).drew⟩
end Go.Proofs.YtldghloflegpmaaGreatDoor

namespace Go.Proofs.YtldghloflegpmaaGreatDoor
open Go.RowKit Go.Shelf Pu Go.Lib

theorem ne_one_str {u : Nat} (h : u ≠ 1) : ¬ (nT u).toList = [49] ∧ ((nT u).toList == [49]) = false := by
  have hne : ¬ (nT u).toList = [49] := by
    rw [ByteArray.toList_eq, nT_list]
    intro e
    exact h (dD_inj (e.trans dD_one.symm))
  exact ⟨hne, by simpa using hne⟩

set_option maxHeartbeats 4000000 in
theorem rLowest_c (u v : Nat) (w : World) (hu : (nT u).size ≤ 60) (hv : (nT v).size ≤ 60) (h0 : v ≠ 0) :
    Calls Tryz.prog 147 #[.string (nT u), .string (nT v)] w fun e w' => e = .returned (.string (rT (u / Nat.gcd u v) (v / Nat.gcd u v))) ∧ Below w.heap.size w w' := by
  have hg0 : Nat.gcd u v ≠ 0 := by
    intro h; exact h0 (Nat.eq_zero_of_gcd_eq_zero_right h)
  have hgv : Nat.gcd u v ≤ v := Nat.le_of_dvd (Nat.pos_of_ne_zero h0) (Nat.gcd_dvd_right u v)
  have hgz := Nat.le_trans (sz_mono hgv) hv
  have H1 := Lib.hid (fun w => rShared_c u v w hu hv)
  have H2 := Lib.hid (fun w => rBelow_dig (nT v) w (Dig.nT v))
  have H3 := Lib.hid (fun w => rParted_c u (Nat.gcd u v) w hu hgz hg0)
  have H4 := Lib.hid (fun w => rParted_c v (Nat.gcd u v) w hv hgz hg0)
  have z1 := Nat.le_trans (sz_mono (Nat.div_le_self u (Nat.gcd u v))) hu
  have z2 := Nat.le_trans (sz_mono (Nat.div_le_self v (Nat.gcd u v))) hv
  clear hg0 hgv hgz hu hv
  generalize nT (Nat.gcd u v) = tg at *
  generalize nT (u % Nat.gcd u v) = r1 at *
  generalize nT (v % Nat.gcd u v) = r2 at *
  generalize u / Nat.gcd u v = p at *
  generalize v / Nat.gcd u v = q at *
  generalize nT u = s at *
  generalize nT v = t at *
  go_enter Tryz.func147, Tryz.ntmps147
  go_wp2_with fail
  refine (H1.out _).mono ?_
  rintro e w2 ⟨rfl, hb⟩
  go_wp2_with fail
  refine (H2.out _).mono ?_
  rintro e w3 ⟨rfl, rfl⟩
  go_wp2_with fail
  refine (H3.out _).mono ?_
  rintro e w4 ⟨rfl, hbb⟩
  have hb := hb.trans (hbb.mono hb.size)
  clear hbb
  go_wp2_with fail
  refine (H4.out _).mono ?_
  rintro e w5 ⟨rfl, hbb⟩
  have hb := hb.trans (hbb.mono hb.size)
  clear hbb H1 H2 H3 H4
  by_cases h1 : q = 1
  · subst h1
    rw [nT_one]
    go_wp2
    go_ret
    exact ⟨by rw [rT_one]; rfl, hb⟩
  · obtain ⟨n1, n2⟩ := ne_one_str h1
    have hx : nT p ++ ⟨#[47]⟩ ++ nT q = rT p q := by
      apply ByteArray.ext; apply Array.ext'
      show _ = rL p q
      unfold rL
      rw [if_neg h1]
      simp [nT, ByteArray.data_append]
    have HX := Lib.hid hx
    clear hx
    generalize nT p = tp at *
    generalize nT q = tq at *
    have k1 : ¬ 9223372036854775807 < tp.size + 1 := by omega
    have k2 : ¬ 9223372036854775807 < tp.size + 1 + tq.size := by omega
    go_wp2
    go_ret
    exact ⟨by rw [← HX.out]; rfl, hb⟩

set_option maxHeartbeats 4000000 in
theorem rOver_c (u : Nat) (w : World) (hu : u ≤ 100000) : Calls Tryz.prog 99 #[.int .i64 (u : Int), .int .i64 1000] w fun e w' => e = .returned (.string (rT (u / Nat.gcd u 1000) (1000 / Nat.gcd u 1000))) ∧ Below w.heap.size w w' := by
  have H1 := Lib.hid (fun w => rOf01_c u w (by omega))
  have H2 := Lib.hid (fun w => rOf01_c 1000 w (by omega))
  have H3 := Lib.hid (fun w => rLowest_c u 1000 w (Nat.le_trans (nT_size_le (k := 5) (by omega)) (by omega)) (Nat.le_trans (nT_size_le (k := 3) (by omega)) (by omega)) (by omega))
  rw [show ((1000 : Nat) : Int) = 1000 from rfl] at H2
  generalize rT (u / Nat.gcd u 1000) (1000 / Nat.gcd u 1000) = R at *
  generalize nT 1000 = t at *
  generalize nT u = s at *
  go_enter Tryz.func99, Tryz.ntmps99
  go_wp2_with fail
  refine (H1.out _).mono ?_
  rintro e w2 ⟨rfl, hb⟩
  go_wp2_with fail
  refine (H2.out _).mono ?_
  rintro e w3 ⟨rfl, hbb⟩
  have hb := hb.trans (hbb.mono hb.size)
  clear hbb
  go_wp2_with fail
  refine (H3.out _).mono ?_
  rintro e w4 ⟨rfl, hbb⟩
  have hb := hb.trans (hbb.mono hb.size)
  go_wp2
  go_ret
  exact ⟨rfl, hb⟩

theorem one_60 : (nT 1).size ≤ 60 := by rw [nT_one]; decide
theorem zero_60 : (nT 0).size ≤ 60 := by rw [nT_zero]; decide
set_option maxHeartbeats 4000000 in
theorem rCheck02_c (p q : Nat) (w : World) (hp : (nT p).size ≤ 60) (hq : (nT q).size ≤ 60) (h0 : q ≠ 0) (hg : Nat.gcd p q = 1) : Calls Tryz.prog 141 #[.string (rT p q)] w fun e w' => e = .returned (.int .i64 0) ∧ Below w.heap.size w w' := by
  have H1 := Lib.hid (fun w => rSplit_c p q w hp hq)
  have H2 := Lib.hid (fun w => rCheck01_c p w hp)
  have H3 := Lib.hid (fun w => rCheck01_c q w hq)
  by_cases h1 : q = 1
  · subst h1
    have H4 := Lib.hid (fun w => rslash_c (rT p 1) w (by rw [rT_one]; omega))
    rw [rT_slash1] at H4
    generalize rT p 1 = x at *
    generalize nT p = s at *
    generalize nT 1 = t at *
    go_enter Tryz.func141, Tryz.ntmps141
    go_wp2_with fail
    refine (H1.out _).mono ?_
    rintro e w2 ⟨rfl, hb⟩
    go_wp2_with fail
    refine (H2.out _).mono ?_
    rintro e w3 ⟨rfl, rfl⟩
    go_wp2_with fail
    refine (H3.out _).mono ?_
    rintro e w3 ⟨rfl, rfl⟩
    go_wp2_with fail
    refine (H2.out _).mono ?_
    rintro e w3 ⟨rfl, rfl⟩
    go_wp2_with fail
    refine (H3.out _).mono ?_
    rintro e w3 ⟨rfl, rfl⟩
    go_wp2_with fail
    refine (H4.out _).mono ?_
    rintro e w3 ⟨rfl, rfl⟩
    go_wp2
    go_ret
    exact ⟨rfl, hb⟩
  · have H4 := Lib.hid (fun w => rslash_c (rT p q) w (by rw [rT_sz h1]; omega))
    rw [rT_slash2 h1] at H4
    have h5 := fun w => rOrder_c q 1 w hq one_60 (by omega)
    rw [nT_one, if_neg h1] at h5
    have h6 := fun w => rShared_c p q w hp hq
    rw [hg, nT_one] at h6
    have H5 := Lib.hid h5
    have H6 := Lib.hid h6
    clear h5 h6
    generalize rT p q = x at *
    generalize nT p = s at *
    generalize nT q = t at *
    go_enter Tryz.func141, Tryz.ntmps141
    go_wp2_with fail
    refine (H1.out _).mono ?_
    rintro e w2 ⟨rfl, hb⟩
    go_wp2_with fail
    refine (H2.out _).mono ?_
    rintro e w3 ⟨rfl, rfl⟩
    go_wp2_with fail
    refine (H3.out _).mono ?_
    rintro e w3 ⟨rfl, rfl⟩
    go_wp2_with fail
    refine (H2.out _).mono ?_
    rintro e w3 ⟨rfl, rfl⟩
    go_wp2_with fail
    refine (H3.out _).mono ?_
    rintro e w3 ⟨rfl, rfl⟩
    go_wp2_with fail
    refine (H4.out _).mono ?_
    rintro e w3 ⟨rfl, rfl⟩
    have hge : decide ((0 : Int) ≤ (s.size : Int)) = true := decide_eq_true (by omega)
    go_wp2_with fail
    refine (H5.out _).mono ?_
    rintro e w4 ⟨rfl, hbb⟩
    have hb := hb.trans (hbb.mono hb.size)
    clear hbb
    go_wp2_with fail
    refine (H6.out _).mono ?_
    rintro e w5 ⟨rfl, hbb⟩
    have hb := hb.trans (hbb.mono hb.size)
    clear hbb
    go_wp2
    go_ret
    exact ⟨rfl, hb⟩

set_option maxHeartbeats 4000000 in
theorem rSignum_c (p q : Nat) (w : World) (hp : (nT p).size ≤ 60) (hq : (nT q).size ≤ 60) : Calls Tryz.prog 142 #[.string (rT p q)] w fun e w' => e = .returned (.int .i64 (if p = 0 then 0 else 1)) ∧ Below w.heap.size w w' := by
  have H1 := Lib.hid (fun w => rSplit_c p q w hp hq)
  have h2 := fun w => rOrder_c p 0 w hp zero_60 (by omega)
  rw [nT_zero] at h2
  have H2 := Lib.hid h2
  clear h2
  generalize (if p = 0 then (0 : Int) else 1) = r at *
  generalize rT p q = x at *
  generalize nT p = s at *
  generalize nT q = t at *
  go_enter Tryz.func142, Tryz.ntmps142
  go_wp2_with fail
  refine (H1.out _).mono ?_
  rintro e w2 ⟨rfl, hb⟩
  go_wp2_with fail
  refine (H2.out _).mono ?_
  rintro e w3 ⟨rfl, hbb⟩
  have hb := hb.trans (hbb.mono hb.size)
  go_wp2
  go_ret
  exact ⟨rfl, hb⟩

theorem nT_lit {s : ByteArray} (hd : isD s.data.toList) (hs : 0 < s.size) (hh : s.size = 1 ∨ (s[0]'hs).toNat ≠ 48) {n : Nat} (h : val s.data.toList = n) : nT n = s := by
  subst h
  exact nT_of hd hs hh
theorem isD_1000 : isD [49, 48, 48, 48] := by
  intro b hb
  simp only [List.mem_cons, List.not_mem_nil, or_false] at hb
  rcases hb with rfl | rfl | rfl | rfl <;> decide
theorem nT_1000 : nT 1000 = ⟨#[49, 48, 48, 48]⟩ := nT_lit (s := ⟨#[49, 48, 48, 48]⟩) isD_1000 (by decide) (Or.inr (by decide)) (by decide)
set_option maxHeartbeats 4000000 in
theorem rcrossed_c (p q c3 c4 c1 : Nat) (w : World) (hp : (nT p).size ≤ 50) (hq : (nT q).size ≤ 50) (e3 : p * 1000 = c3) (e4 : q * 1000 = c4) (e1 : 1000 * q = c1) : Calls Tryz.prog 155 #[.string (rT p q), .string ⟨#[49, 48, 48, 48]⟩] w
    fun e w' => ∃ b x0 x1 x4, e = .returned (.slice (some ⟨b, 0, none⟩) 5 5) ∧ w.heap.size ≤ b ∧ Row w' b #[x0, x1, .string (nT q), .string (nT c3), x4] 153 ∧ Below w.heap.size w w' := by
  have t4 : (nT 1000).size ≤ 60 := by rw [nT_1000]; decide
  have H1 := Lib.hid (fun w => rSplit_c p q w (by omega) (by omega))
  have h2 := fun w => rSplit_c 1000 1 w t4 one_60
  rw [rT_one] at h2
  have h3 := fun w => rTimes_c p 1 w (by omega) one_60
  have h4 := fun w => rTimes_c 1000 q w t4 (by omega)
  have h5 := fun w => rTimes_c q 1 w (by omega) one_60
  rw [Nat.mul_one] at h3 h5
  have h6 := fun w => rTimes_c p 1000 w (by omega) t4
  have h7 := fun w => rTimes_c q 1000 w (by omega) t4
  rw [e1] at h4
  rw [e3] at h6
  rw [e4] at h7
  rw [nT_1000, nT_one] at h2
  rw [nT_one] at h3 h5
  rw [nT_1000] at h4 h6 h7
  have H2 := Lib.hid h2
  have H3 := Lib.hid h3
  have H4 := Lib.hid h4
  have H5 := Lib.hid h5
  have H6 := Lib.hid h6
  have H7 := Lib.hid h7
  clear h2 h3 h4 h5 h6 h7 t4 hp hq e1 e3 e4
  generalize nT c3 = c3 at *
  generalize nT c4 = c4 at *
  generalize nT c1 = c1 at *
  generalize rT p q = x at *
  generalize nT p = s at *
  generalize nT q = t at *
  go_enter Tryz.func155, Tryz.ntmps155
  go_wp2_with fail
  refine (H1.out _).mono ?_
  rintro e w2 ⟨rfl, hb⟩
  go_wp2_with fail
  refine (H2.out _).mono ?_
  rintro e w3 ⟨rfl, hbb⟩
  have hb := hb.trans (hbb.mono hb.size)
  clear hbb
  go_wp2_with fail
  refine (H3.out _).mono ?_
  rintro e w4 ⟨rfl, hbb⟩
  have hb := hb.trans (hbb.mono hb.size)
  clear hbb
  go_wp2_with fail
  refine (H4.out _).mono ?_
  rintro e w5 ⟨rfl, hbb⟩
  have hb := hb.trans (hbb.mono hb.size)
  clear hbb
  go_wp2_with fail
  refine (H5.out _).mono ?_
  rintro e w6 ⟨rfl, hbb⟩
  have hb := hb.trans (hbb.mono hb.size)
  clear hbb
  go_wp2_with fail
  refine (H6.out _).mono ?_
  rintro e w7 ⟨rfl, hbb⟩
  have hb := hb.trans (hbb.mono hb.size)
  clear hbb
  go_wp2_with fail
  refine (H7.out _).mono ?_
  rintro e w8 ⟨rfl, hbb⟩
  have hb := hb.trans (hbb.mono hb.size)
  clear hbb
  have hs := hb.size
  go_wp2
  go_ret
  exact ⟨w8.heap.size, .string s, .string c1, .string c4, rfl, hs, Row.new _ _ _, hb.alloc hs _⟩

set_option maxHeartbeats 8000000 in
theorem rTimes02_c (p q m : Nat) (w : World) (hp : (nT p).size ≤ 50) (hq : (nT q).size ≤ 50) (h0 : q ≠ 0) (hm : p * 1000 = m) : Calls Tryz.prog 104 #[.string (rT p q), .string ⟨#[49, 48, 48, 48]⟩] w
    fun e w' => e = .returned (.string (rT (m / Nat.gcd m q) (q / Nat.gcd m q))) ∧ Below w.heap.size w w' := by
  have H1 := Lib.hid (fun w => rcrossed_c p q m _ _ w hp hq hm rfl rfl)
  have hpz : (nT m).size ≤ 60 := by
    have h1 := sz_lt (u := p) hp
    have h2 : m < 10 ^ (53 + 1) := by
      have e : 10 ^ (53 + 1) = 10 ^ 50 * 10000 := rfl
      omega
    have := nT_size_le h2
    omega
  have H2 := Lib.hid (fun w => rLowest_c m q w hpz (by omega) h0)
  clear hm
  generalize rT (m / Nat.gcd m q) (q / Nat.gcd m q) = R at *
  generalize nT m = c3 at *
  generalize rT p q = x at *
  generalize nT q = t at *
  clear hp hq hpz
  go_enter Tryz.func104, Tryz.ntmps104
  go_wp2_with fail
  refine (H1.out _).mono ?_
  rintro e w2 ⟨b, x0, x1, x4, rfl, hbl, hr, hb⟩
  have hc := hr.cell
  have hlt := hr.lt
  go_wp2_with fail
  go_region_with (first | (go_at_call 147; refine (H2.out _).mono ?_; rintro e w' ⟨rfl, hbb⟩))
  all_goals
    go_wp2
    go_ret
    exact ⟨rfl, by first | exact (hb.drew).trans (hbb.mono hb.drew.size) | exact hb.trans (hbb.mono hb.size)⟩
end Go.Proofs.YtldghloflegpmaaGreatDoor

namespace Go.Proofs.YtldghloflegpmaaGreatDoor
open Go.RowKit Go.Shelf Pu Go.Lib

def isDg (b : UInt8) : Bool := decide (48 ≤ b.toNat) && decide (b.toNat ≤ 57)
/-- How many digits a text begins with. -/
def dgL : List UInt8 → Nat
  | [] => 0
  | b :: l => if isDg b = true then dgL l + 1 else 0
theorem dgL_le : ∀ l : List UInt8, dgL l ≤ l.length
  | [] => Nat.le_refl _
  | b :: l => by
    have := dgL_le l
    unfold dgL; split <;> simp <;> omega
theorem dgL_dig : ∀ (l : List UInt8), isD (l.take (dgL l))
  | [] => fun b hb => by simp [dgL] at hb
  | b :: l => by
    unfold dgL
    by_cases h : isDg b = true
    · rw [if_pos h, List.take_succ_cons]
      intro x hx
      rcases List.mem_cons.1 hx with rfl | hx
      · simpa [isDg] using h
      · exact dgL_dig l x hx
    · rw [if_neg h]; intro x hx; simp at hx
theorem dgL_yes {b : UInt8} {l : List UInt8} (h : isDg b = true) : dgL (b :: l) = dgL l + 1 := by
  show (if isDg b = true then dgL l + 1 else 0) = _
  rw [if_pos h]
theorem dgL_app : ∀ (l k : List UInt8), isD l → dgL (l ++ k) = l.length + dgL k
  | [], k, _ => by simp
  | b :: l, k, h => by
    have hb := h b (by simp)
    have e : isDg b = true := by simp [isDg, hb.1, hb.2]
    rw [List.cons_append, dgL_yes e, dgL_app l k h.tail, List.length_cons]
    omega
theorem dgL_nil_of {b : UInt8} {l : List UInt8} (h : isDg b = false) : dgL (b :: l) = 0 := by unfold dgL; rw [if_neg (by simp [h])]

set_option maxHeartbeats 2000000 in
theorem rdigit_c (b : UInt8) (w : World) : Calls Tryz.prog 231 #[.int .u8 (b.toNat : Int)] w fun e w' => e = .returned (.bool (isDg b)) ∧ w' = w := by
  by_cases h1 : 48 ≤ b.toNat
  · have e : isDg b = decide ((b.toNat : Int) ≤ 57) := by unfold isDg; rw [decide_eq_true h1, Bool.true_and]; exact decide_eq_decide.2 (by omega)
    have h1' : (48 : Int) ≤ (b.toNat : Int) := by omega
    rw [e]
    go_enter Tryz.func231, Tryz.ntmps231
    go_wp2
    go_ret
    exact ⟨rfl, rfl⟩
  · have e : isDg b = false := by unfold isDg; rw [decide_eq_false h1, Bool.false_and]
    have h1' : ¬ (48 : Int) ≤ (b.toNat : Int) := by omega
    rw [e]
    go_enter Tryz.func231, Tryz.ntmps231
    go_wp2
    go_ret
    exact ⟨rfl, rfl⟩
theorem drop_at (s : ByteArray) (k : Nat) (h : k < s.size) : s.data.toList.drop k = (s[k]'h) :: s.data.toList.drop (k + 1) := by
  have hl : s.data.toList.length = s.size := by simp
  rw [List.drop_eq_getElem_cons (by omega)]
  congr 1

set_option maxHeartbeats 4000000 in
theorem rdigits_c (s : ByteArray) (o : Nat) (w : World) (ho : o ≤ s.size) (hz : s.size ≤ 5000) : Calls Tryz.prog 204 #[.string s, .int .i64 (o : Int)] w fun e w' => e = .returned (.int .i64 (dgL (s.data.toList.drop o) : Int)) ∧ w' = w := by
  have hl : s.data.toList.length = s.size := by simp
  go_enter Tryz.func204, Tryz.ntmps204
  go_wp2_with fail
  go_loopw [5] (fun p wr => ∃ k : Nat, o + k ≤ s.size ∧ p = .int .i64 (k : Int) ∧ Hid (dgL (s.data.toList.drop o) = k + dgL (s.data.toList.drop (o + k))) ∧ wr = w) (fun p _ => s.size - (intOf p).toNat)
  case atStart => exact ⟨0, by omega, rfl, Lib.hid (by rw [Nat.add_zero]; omega), rfl⟩
  case round =>
    obtain ⟨k, hk, rfl, HK, rfl⟩ := hrel
    by_cases hlt : o + k < s.size
    · have hd := drop_at s (o + k) hlt
      have hD := Lib.hid (fun w => rdigit_c (s[o + k]'hlt) w)
      have hlt' : (o : Int) + (k : Int) < (s.size : Int) := by omega
      by_cases hb : isDg (s[o + k]'hlt) = true
      · have e : dgL (s.data.toList.drop o) = (k + 1) + dgL (s.data.toList.drop (o + (k + 1))) := by
          rw [HK.out, hd, dgL_yes hb, show o + k + 1 = o + (k + 1) by omega]
          omega
        have HE := Lib.hid e
        rw [hb] at hD
        clear e hd HK
        go_wp2_with fail
        refine (hD.out _).mono ?_
        rintro e w2 ⟨rfl, rfl⟩
        go_wp2
        go_roundw
        case rel => exact ⟨k + 1, by omega, by go_num, HE, trivial⟩
        case measure => first | (simp [intOf]; done) | (simp [intOf]; omega)
      · have hb' : isDg (s[o + k]'hlt) = false := by simpa using hb
        have e : dgL (s.data.toList.drop o) = k := by rw [HK.out, hd, dgL_nil_of hb']; omega
        have HE := Lib.hid e
        rw [hb'] at hD
        clear e hd HK hb
        go_wp2_with fail
        refine (hD.out _).mono ?_
        rintro e w2 ⟨rfl, rfl⟩
        go_wp2
        go_ret
        exact ⟨by rw [HE.out]; rfl, rfl⟩
    · have e : dgL (s.data.toList.drop o) = k := by
        rw [HK.out, List.drop_eq_nil_of_le (show s.data.toList.length ≤ o + k by omega)]; rfl
      have HE := Lib.hid e
      have hlt' : ¬ (o : Int) + (k : Int) < (s.size : Int) := by omega
      clear e HK
      go_wp2
      go_ret
      exact ⟨by rw [HE.out]; rfl, rfl⟩
end Go.Proofs.YtldghloflegpmaaGreatDoor

namespace Go.Proofs.YtldghloflegpmaaGreatDoor
open Go.RowKit Go.Shelf Pu Go.Lib

def nmL (l : List UInt8) : Nat := if 0 < dgL l ∧ l[dgL l]? = some 46 ∧ 0 < dgL (l.drop (dgL l + 1)) then dgL l + 1 + dgL (l.drop (dgL l + 1)) else dgL l
def nbE (l : List UInt8) : Int := if l = [] ∨ nmL l ≠ l.length ∨ (1 < dgL l ∧ l[0]? = some 48) then 3 else if 24 < l.length then 17 else 0

set_option maxHeartbeats 4000000 in
theorem rnumeral_c (s : ByteArray) (w : World) (hz : s.size ≤ 4500) : Calls Tryz.prog 203 #[.string s] w fun e w' => e = .returned (.int .i64 (nmL s.data.toList : Int)) ∧ w' = w := by
  have hl : s.data.toList.length = s.size := by simp
  have h0 := fun w => rdigits_c s 0 w (by omega) (by omega)
  rw [List.drop_zero, show ((0 : Nat) : Int) = 0 from rfl] at h0
  have hle := dgL_le s.data.toList
  have hN : nmL s.data.toList = if 0 < dgL s.data.toList ∧ s.data.toList[dgL s.data.toList]? = some 46 ∧ 0 < dgL (s.data.toList.drop (dgL s.data.toList + 1)) then dgL s.data.toList + 1 + dgL (s.data.toList.drop (dgL s.data.toList + 1)) else dgL s.data.toList := rfl
  have hx := fun w (h : dgL s.data.toList < s.size) => rdigits_c s (dgL s.data.toList + 1) w (by omega) (by omega)
  generalize dgL s.data.toList = n at *
  have hle2 := dgL_le (s.data.toList.drop (n + 1))
  rw [List.length_drop] at hle2
  generalize dgL (s.data.toList.drop (n + 1)) = m at *
  have H0 := Lib.hid h0
  clear h0
  by_cases h1 : 0 < n
  case neg =>
    rw [if_neg (fun h => h1 h.1)] at hN
    have HN := Lib.hid hN
    clear hN hx
    have h1' : ¬ (0 : Int) < (n : Int) := by omega
    go_enter Tryz.func203, Tryz.ntmps203
    go_wp2_with fail
    refine (H0.out _).mono ?_
    rintro e w2 ⟨rfl, rfl⟩
    go_wp2
    go_ret
    exact ⟨by rw [HN.out]; rfl, rfl⟩
  have h1' : (0 : Int) < (n : Int) := by omega
  by_cases h2 : n < s.size
  case neg =>
    rw [if_neg (fun h => by have := h.2.1; rw [List.getElem?_eq_none (by omega)] at this; cases this)] at hN
    have HN := Lib.hid hN
    clear hN hx
    go_enter Tryz.func203, Tryz.ntmps203
    go_wp2_with fail
    refine (H0.out _).mono ?_
    rintro e w2 ⟨rfl, rfl⟩
    go_wp2
    go_ret
    exact ⟨by rw [HN.out]; rfl, rfl⟩
  have ha := at_list s n h2
  rw [ha] at hN
  by_cases h3 : (s[n]'h2).toNat = 46
  case neg =>
    rw [if_neg (fun h => h3 (by have := h.2.1; injection this with this; rw [this]; rfl))] at hN
    have HN := Lib.hid hN
    clear hN hx ha
    have h3' : ¬ ((s[n]'h2).toNat : Int) = 46 := by omega
    go_enter Tryz.func203, Tryz.ntmps203
    go_wp2_with fail
    refine (H0.out _).mono ?_
    rintro e w2 ⟨rfl, rfl⟩
    go_wp2
    go_ret
    exact ⟨by rw [HN.out]; rfl, rfl⟩
  have h3' : ((s[n]'h2).toNat : Int) = 46 := by omega
  have h46 : (some (s[n]'h2) : Option UInt8) = some 46 := by
    congr 1; exact UInt8.toNat_inj.1 h3
  have hx2 := fun w => hx w h2
  rw [show ((n + 1 : Nat) : Int) = (n : Int) + 1 by omega] at hx2
  have HX := Lib.hid hx2
  by_cases h4 : 0 < m
  · rw [if_pos ⟨h1, h46, h4⟩] at hN
    have HN := Lib.hid hN
    have h4' : (0 : Int) < (m : Int) := by omega
    clear hN hx hx2 ha h46
    go_enter Tryz.func203, Tryz.ntmps203
    go_wp2_with fail
    refine (H0.out _).mono ?_
    rintro e w2 ⟨rfl, rfl⟩
    go_wp2_with fail
    refine (HX.out _).mono ?_
    rintro e w2 ⟨rfl, rfl⟩
    go_wp2_with fail
    refine (HX.out _).mono ?_
    rintro e w2 ⟨rfl, rfl⟩
    go_wp2
    go_ret
    exact ⟨by rw [HN.out]; simp only [Int.natCast_add]; rfl, rfl⟩
  · rw [if_neg (fun h => h4 h.2.2)] at hN
    have HN := Lib.hid hN
    have h4' : ¬ (0 : Int) < (m : Int) := by omega
    clear hN hx hx2 ha h46
    go_enter Tryz.func203, Tryz.ntmps203
    go_wp2_with fail
    refine (H0.out _).mono ?_
    rintro e w2 ⟨rfl, rfl⟩
    go_wp2_with fail
    refine (HX.out _).mono ?_
    rintro e w2 ⟨rfl, rfl⟩
    go_wp2
    go_ret
    exact ⟨by rw [HN.out]; rfl, rfl⟩

set_option maxHeartbeats 4000000 in
theorem rNumber_c (s : ByteArray) (w : World) (hz : s.size ≤ 4500) : Calls Tryz.prog 153 #[.string s] w fun e w' => e = .returned (.int .i64 (nbE s.data.toList)) ∧ w' = w := by
  have hl : s.data.toList.length = s.size := by simp
  by_cases h0 : s.size = 0
  · have e : s = ⟨#[]⟩ := by
      apply ByteArray.ext; apply Array.ext'
      exact List.length_eq_zero_iff.1 (by omega)
    subst e
    rw [show nbE (⟨#[]⟩ : ByteArray).data.toList = 3 from rfl]
    go_enter Tryz.func153, Tryz.ntmps153
    go_wp2
    go_ret
    exact ⟨rfl, rfl⟩
  have hp : 0 < s.size := by omega
  have hne := list_ne' hp
  have hie := list_ne hp
  have H1 := Lib.hid (fun w => rnumeral_c s w hz)
  have h2 := fun w => rdigits_c s 0 w (by omega) (by omega)
  rw [List.drop_zero, show ((0 : Nat) : Int) = 0 from rfl] at h2
  have H2 := Lib.hid h2
  have ha := at_list s 0 hp
  have hE : nbE s.data.toList = if s.data.toList = [] ∨ nmL s.data.toList ≠ s.data.toList.length ∨ (1 < dgL s.data.toList ∧ s.data.toList[0]? = some 48) then 3 else if 24 < s.data.toList.length then 17 else 0 := rfl
  have hnil : s.data.toList ≠ [] := by intro e; rw [e] at hl; simp at hl; omega
  rw [hl, ha] at hE
  clear h2
  generalize nmL s.data.toList = k at *
  generalize dgL s.data.toList = n at *
  by_cases h1 : k = s.size
  case neg =>
    rw [if_pos (Or.inr (Or.inl h1))] at hE
    have HE := Lib.hid hE
    have h1' : ¬ (k : Int) = (s.size : Int) := by omega
    clear hE ha hnil
    go_enter Tryz.func153, Tryz.ntmps153
    go_wp2_with fail
    refine (H1.out _).mono ?_
    rintro e w2 ⟨rfl, rfl⟩
    go_wp2
    go_ret
    exact ⟨by rw [HE.out]; rfl, rfl⟩
  have h1' : (k : Int) = (s.size : Int) := by omega
  by_cases h3 : 1 < n ∧ (s[0]'hp).toNat = 48
  · have h48 : (some (s[0]'hp) : Option UInt8) = some 48 := by congr 1; exact UInt8.toNat_inj.1 h3.2
    rw [if_pos (Or.inr (Or.inr ⟨h3.1, h48⟩))] at hE
    have HE := Lib.hid hE
    have h3a : (1 : Int) < (n : Int) := by omega
    have h3b : ((s[0]'hp).toNat : Int) = 48 := by omega
    clear hE ha hnil h48
    go_enter Tryz.func153, Tryz.ntmps153
    go_wp2_with fail
    refine (H1.out _).mono ?_
    rintro e w2 ⟨rfl, rfl⟩
    go_wp2_with fail
    refine (H2.out _).mono ?_
    rintro e w2 ⟨rfl, rfl⟩
    go_wp2
    go_ret
    exact ⟨by rw [HE.out]; rfl, rfl⟩
  rw [if_neg (by
    rintro (h | h | ⟨h, h'⟩)
    · exact hnil h
    · exact h h1
    · exact h3 ⟨h, by injection h' with h'; rw [h']; rfl⟩)] at hE
  have HE := Lib.hid hE
  clear hE ha hnil
  by_cases h4 : 1 < n
  · have h3a : (1 : Int) < (n : Int) := by omega
    have h3b : ¬ ((s[0]'hp).toNat : Int) = 48 := fun h => h3 ⟨h4, by omega⟩
    by_cases h5 : 24 < s.size
    · have he := HE.out
      rw [if_pos h5] at he
      have HE2 := Lib.hid he
      clear he HE
      go_enter Tryz.func153, Tryz.ntmps153
      go_wp2_with fail
      refine (H1.out _).mono ?_
      rintro e w2 ⟨rfl, rfl⟩
      go_wp2_with fail
      refine (H2.out _).mono ?_
      rintro e w2 ⟨rfl, rfl⟩
      go_wp2
      go_ret
      exact ⟨by rw [HE2.out]; rfl, rfl⟩
    · have he := HE.out
      rw [if_neg h5] at he
      have HE2 := Lib.hid he
      clear he HE
      go_enter Tryz.func153, Tryz.ntmps153
      go_wp2_with fail
      refine (H1.out _).mono ?_
      rintro e w2 ⟨rfl, rfl⟩
      go_wp2_with fail
      refine (H2.out _).mono ?_
      rintro e w2 ⟨rfl, rfl⟩
      go_wp2
      go_ret
      exact ⟨by rw [HE2.out]; rfl, rfl⟩
  · have h3a : ¬ (1 : Int) < (n : Int) := by omega
    by_cases h5 : 24 < s.size
    · have he := HE.out
      rw [if_pos h5] at he
      have HE2 := Lib.hid he
      clear he HE
      go_enter Tryz.func153, Tryz.ntmps153
      go_wp2_with fail
      refine (H1.out _).mono ?_
      rintro e w2 ⟨rfl, rfl⟩
      go_wp2_with fail
      refine (H2.out _).mono ?_
      rintro e w2 ⟨rfl, rfl⟩
      go_wp2
      go_ret
      exact ⟨by rw [HE2.out]; rfl, rfl⟩
    · have he := HE.out
      rw [if_neg h5] at he
      have HE2 := Lib.hid he
      clear he HE
      go_enter Tryz.func153, Tryz.ntmps153
      go_wp2_with fail
      refine (H1.out _).mono ?_
      rintro e w2 ⟨rfl, rfl⟩
      go_wp2_with fail
      refine (H2.out _).mono ?_
      rintro e w2 ⟨rfl, rfl⟩
      go_wp2
      go_ret
      exact ⟨by rw [HE2.out]; rfl, rfl⟩
/-- A text of digits and points. -/
def dotD (l : List UInt8) : Prop := ∀ b ∈ l, b = 46 ∨ (48 ≤ b.toNat ∧ b.toNat ≤ 57)
theorem nbE_ok {l : List UInt8} (h : nbE l = 0) : dotD l ∧ l.length ≤ 24 ∧ l ≠ [] := by
  unfold nbE at h
  split at h
  · omega
  · rename_i hc
    split at h
    · omega
    · rename_i h24
      have hne : l ≠ [] := fun e => hc (Or.inl e)
      have hn : nmL l = l.length := by
        rcases Nat.decEq (nmL l) l.length with h' | h'
        · exact absurd (Or.inr (Or.inl h')) hc
        · exact h'
      refine ⟨?_, by omega, hne⟩
      unfold nmL at hn
      split at hn
      · rename_i hp
        obtain ⟨_, hp2, _⟩ := hp
        have hlt : dgL l < l.length := by
          rcases Nat.lt_or_ge (dgL l) l.length with h' | h'
          · exact h'
          · rw [List.getElem?_eq_none h'] at hp2; cases hp2
        have e : l = l.take (dgL l) ++ 46 :: l.drop (dgL l + 1) := by
          have h46 : l[dgL l] = 46 := by rw [List.getElem?_eq_getElem hlt] at hp2; exact Option.some.inj hp2
          rw [← h46, ← List.drop_eq_getElem_cons hlt, List.take_append_drop]
        have d2 : isD (l.drop (dgL l + 1)) := by
          have := dgL_dig (l.drop (dgL l + 1))
          rwa [List.take_of_length_le (by rw [List.length_drop]; omega)] at this
        intro b hb
        rw [e, List.mem_append, List.mem_cons] at hb
        rcases hb with hb | hb | hb
        · exact Or.inr (dgL_dig l b hb)
        · exact Or.inl hb
        · exact Or.inr (d2 b hb)
      · have := dgL_dig l
        rw [List.take_of_length_le (by omega)] at this
        exact fun b hb => Or.inr (this b hb)
set_option maxRecDepth 100000 in
theorem fr_more : ∀ r : Fin 1000, (r.1 ≠ 0 → fr2 r.1 ≠ []) ∧ val (fr2 r.1) * 10 ^ (3 - (fr2 r.1).length) = r.1 := by decide +kernel
theorem nbE_th (n : Nat) (hn : n ≤ 100000) : nbE (thL n) = 0 := by
  have hr : n % 1000 < 1000 := Nat.mod_lt _ (by omega)
  obtain ⟨f1, _⟩ := fr_all ⟨n % 1000, hr⟩
  obtain ⟨g1, _⟩ := fr_more ⟨n % 1000, hr⟩
  have dF := fr2_dig hr
  simp only at f1 g1
  have hdl := dD_len 5 (n / 1000) (by omega)
  have hdp := List.length_pos_iff.2 (dD_ne (n / 1000))
  rw [thL_eq]
  generalize fr2 (n % 1000) = F at *
  have hh : 1 < (Lib.decDigits (n / 1000)).length → ∀ k, (Lib.decDigits (n / 1000) ++ k)[0]? ≠ some 48 := by
    intro h k e
    have h0 : n / 1000 ≠ 0 := by intro e0; rw [e0, dD_zero] at h; simp at h
    have := dD_head h0
    cases hq : Lib.decDigits (n / 1000) with
    | nil => rw [hq] at h; simp at h
    | cons x r => rw [hq] at e this; simp at e this; rw [e] at this; exact this rfl
  by_cases h0 : n % 1000 = 0
  · rw [if_pos h0, List.append_nil]
    have hg : dgL (Lib.decDigits (n / 1000)) = (Lib.decDigits (n / 1000)).length := by
      have := dgL_app (Lib.decDigits (n / 1000)) [] (isD_dD _)
      rwa [List.append_nil] at this
    have hnm : nmL (Lib.decDigits (n / 1000)) = (Lib.decDigits (n / 1000)).length := by
      unfold nmL
      rw [hg, if_neg (by rw [List.getElem?_eq_none (Nat.le_refl _)]; simp)]
    unfold nbE
    rw [hnm, hg, if_neg (by
      rintro (h | h | ⟨h, h'⟩)
      · exact dD_ne _ h
      · exact h rfl
      · have := hh h []; rw [List.append_nil] at this; exact this h'), if_neg (by omega)]
  · rw [if_neg h0]
    have hFne := g1 h0
    have hFp := List.length_pos_iff.2 hFne
    have hg : dgL (Lib.decDigits (n / 1000) ++ 46 :: F) = (Lib.decDigits (n / 1000)).length := by
      rw [dgL_app _ _ (isD_dD _), dgL_nil_of (by decide)]; rfl
    have hF : dgL F = F.length := by
      have := dgL_app F [] dF
      rwa [List.append_nil] at this
    have hdr : (Lib.decDigits (n / 1000) ++ 46 :: F).drop ((Lib.decDigits (n / 1000)).length + 1) = F := by
      rw [List.drop_append]; simp
    have hlen : (Lib.decDigits (n / 1000) ++ 46 :: F).length = (Lib.decDigits (n / 1000)).length + 1 + F.length := by simp; omega
    have hnm : nmL (Lib.decDigits (n / 1000) ++ 46 :: F) = (Lib.decDigits (n / 1000) ++ 46 :: F).length := by
      unfold nmL
      rw [hg, hdr, hF, if_pos ⟨by omega, by simp, by omega⟩, hlen]
    unfold nbE
    rw [hnm, hg, if_neg (by
      rintro (h | h | ⟨h, h'⟩)
      · simp at h
      · exact h rfl
      · exact hh h _ h'), if_neg (by omega)]
end Go.Proofs.YtldghloflegpmaaGreatDoor

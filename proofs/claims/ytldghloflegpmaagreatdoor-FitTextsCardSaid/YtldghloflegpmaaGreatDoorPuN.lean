/- Plain: numbers that are not negative, as texts. No program in sight. -/
import Derived.Test.YtldghloflegpmaaGreatDoorPuP
import Derived.Lib.ItoaMem
namespace Go.Proofs.YtldghloflegpmaaGreatDoor
open Pu Go.Lib

theorem dD_step {u : Nat} (h : ¬ u < 10) : Lib.decDigits u = Lib.decDigits (u / 10) ++ [UInt8.ofNat (48 + u % 10)] := by rw [Lib.decDigits, dif_neg h]
theorem dD_ne (u : Nat) : Lib.decDigits u ≠ [] := by
  by_cases h : u < 10
  · rw [Lib.decDigits_one h]; simp
  · rw [dD_step h]; simp
theorem dD_len : ∀ (k u : Nat), u < 10 ^ (k + 1) → (Lib.decDigits u).length ≤ k + 1
  | 0, u, h => by rw [Lib.decDigits_one (by simpa using h)]; simp
  | k + 1, u, h => by
    by_cases h1 : u < 10
    · rw [Lib.decDigits_one h1]; simp
    · rw [dD_step h1, List.length_append]
      have := dD_len k (u / 10) (by rw [Nat.div_lt_iff_lt_mul (by omega)]; rw [Nat.pow_succ] at h; exact h)
      simp; omega
theorem dig_of {d : Nat} (h : d < 10) : (UInt8.ofNat (48 + d)).toNat = 48 + d := by
  rw [UInt8.toNat_ofNat']; omega
theorem dD_dig (u : Nat) : ∀ b ∈ Lib.decDigits u, 48 ≤ b.toNat ∧ b.toNat ≤ 57 := by
  induction u using Nat.strongRecOn with
  | _ u ih =>
    intro b hb
    by_cases h : u < 10
    · rw [Lib.decDigits_one h] at hb
      simp only [List.mem_singleton] at hb
      rw [hb, dig_of h]; omega
    · rw [dD_step h, List.mem_append] at hb
      rcases hb with hb | hb
      · exact ih (u / 10) (by omega) b hb
      · simp only [List.mem_singleton] at hb
        rw [hb, dig_of (by omega)]; omega
theorem decFrom_snoc : ∀ (l : List UInt8) (a m d : Nat) (b : UInt8), Lib.decFrom a l = some m → Lib.digitVal b = some d → Lib.decFrom a (l ++ [b]) = some (m * 10 + d)
  | [], a, m, d, b, h, hb => by
    simp only [Lib.decFrom, Option.some.injEq] at h
    subst h
    simp [Lib.decFrom, hb]
  | x :: l, a, m, d, b, h, hb => by
    rw [List.cons_append]
    unfold Lib.decFrom at h ⊢
    cases hx : Lib.digitVal x with
    | none => rw [hx] at h; cases h
    | some y => rw [hx] at h; exact decFrom_snoc l _ m d b h hb
theorem digitVal_of {d : Nat} (h : d < 10) : Lib.digitVal (UInt8.ofNat (48 + d)) = some d := by
  unfold Lib.digitVal
  rw [dig_of h, if_pos (by omega)]
  congr 1; omega
theorem dD_read (u : Nat) : Lib.decFrom 0 (Lib.decDigits u) = some u := by
  induction u using Nat.strongRecOn with
  | _ u ih =>
    by_cases h : u < 10
    · rw [Lib.decDigits_one h]
      have := decFrom_snoc [] 0 0 u (UInt8.ofNat (48 + u)) rfl (digitVal_of h)
      simpa using this
    · rw [dD_step h, decFrom_snoc _ 0 (u / 10) (u % 10) _ (ih (u / 10) (by omega)) (digitVal_of (by omega))]
      congr 1; omega
theorem dD_atoi (u : Nat) : Lib.atoi (Lib.decDigits u) = some (u : Int) := by
  obtain ⟨n, hn, hm⟩ := atoi_all (dD_ne u) (dD_dig u)
  rw [dD_read u] at hm
  cases hm
  exact hn
theorem dD_inj {u v : Nat} (h : Lib.decDigits u = Lib.decDigits v) : u = v := by
  have := dD_read u
  rw [h, dD_read v] at this
  exact (Option.some.inj this).symm
theorem dD_zero : Lib.decDigits 0 = [48] := by rw [Lib.decDigits_one (by omega)]; rfl
theorem dD_head {u : Nat} (h : u ≠ 0) : ((Lib.decDigits u).headD 0).toNat ≠ 48 := by
  induction u using Nat.strongRecOn with
  | _ u ih =>
    by_cases h1 : u < 10
    · rw [Lib.decDigits_one h1]
      simp only [List.headD_cons]
      rw [dig_of h1]; omega
    · have h2 := ih (u / 10) (by omega) (by omega)
      rw [dD_step h1]
      cases hd : Lib.decDigits (u / 10) with
      | nil => exact absurd hd (dD_ne _)
      | cons x r => rw [hd] at h2; simpa using h2
theorem mem_dig {b : UInt8} (h : 48 ≤ b.toNat ∧ b.toNat ≤ 57) : digC.contains b = true := by
  have : b = UInt8.ofNat b.toNat := by simp
  rw [this]
  have hb : b.toNat ∈ [48, 49, 50, 51, 52, 53, 54, 55, 56, 57] := by
    have : ∀ k : Nat, 48 ≤ k → k ≤ 57 → k ∈ [48, 49, 50, 51, 52, 53, 54, 55, 56, 57] := by intro k h1 h2; simp; omega
    exact this _ h.1 h.2
  simp only [List.mem_cons, List.not_mem_nil, or_false] at hb
  rcases hb with e | e | e | e | e | e | e | e | e | e <;> rw [e] <;> decide
theorem dropWhile_all {p : UInt8 → Bool} : ∀ {l : List UInt8}, (∀ b ∈ l, p b = true) → l.dropWhile p = []
  | [], _ => rfl
  | x :: l, h => by
    rw [List.dropWhile_cons, if_pos (h x (by simp))]
    exact dropWhile_all fun b hb => h b (by simp [hb])
theorem dD_trim (u : Nat) : Lib.trimS (Lib.decDigits u) digC = [] := by
  have h : ∀ b ∈ Lib.decDigits u, digC.contains b = true := fun b hb => mem_dig (dD_dig u b hb)
  unfold Lib.trimS Lib.trimLeftS Lib.trimRightS
  have e : (Lib.decDigits u).reverse.dropWhile (digC.contains ·) = [] := dropWhile_all fun b hb => h b (List.mem_reverse.1 hb)
  rw [e]
  rfl
/-- The text of a number. -/
def nT (u : Nat) : ByteArray := ⟨(Lib.decDigits u).toArray⟩
theorem nT_list (u : Nat) : (nT u).data.toList = Lib.decDigits u := rfl
theorem nT_size (u : Nat) : (nT u).size = (Lib.decDigits u).length := by simp [nT, ByteArray.size]
theorem nT_size_le {u k : Nat} (h : u < 10 ^ (k + 1)) : (nT u).size ≤ k + 1 := by rw [nT_size]; exact dD_len k u h
theorem nT_pos (u : Nat) : 0 < (nT u).size := by rw [nT_size]; exact List.length_pos_iff.2 (dD_ne u)
theorem nT_inj {u v : Nat} (h : nT u = nT v) : u = v := dD_inj (congrArg (fun x : ByteArray => x.data.toList) h)
theorem nT_zero : nT 0 = ⟨#[48]⟩ := by unfold nT; rw [dD_zero]
theorem nT_one : nT 1 = ⟨#[49]⟩ := by unfold nT; rw [Lib.decDigits_one (by omega)]; rfl
theorem nT_ten : nT 10 = ⟨#[49, 48]⟩ := by unfold nT; rw [Lib.decDigits_two (by omega) (by omega)]; rfl
end Go.Proofs.YtldghloflegpmaaGreatDoor

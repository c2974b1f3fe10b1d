/- Plain definitions of tolerance grades: the size step, the base, the factor, the tolerance, the deviations; bounds. No program in sight. -/
namespace Go.Proofs.YtldghloflegpmaaGreatDoor
namespace Pu

/-- The index of the size step. -/
def stp (n : Int) : Nat := if n ≤ 3000 then 0 else if n ≤ 6000 then 1 else if n ≤ 10000 then 2 else if n ≤ 18000 then 3 else if n ≤ 30000 then 4 else if n ≤ 50000 then 5 else if n ≤ 80000 then 6 else 7
/-- The greatest size of a step. -/
def most (i : Nat) : Int := match i with | 0 => 3000 | 1 => 6000 | 2 => 10000 | 3 => 18000 | 4 => 30000 | 5 => 50000 | 6 => 80000 | _ => 100000
/-- The base of a step. -/
def bas (i : Nat) : Int := match i with | 0 => 6 | 1 => 8 | 2 => 9 | 3 => 11 | 4 => 13 | 5 => 16 | 6 => 19 | _ => 22
/-- The factor of a grade, counted from the least. -/
def fac (i : Nat) : Int := match i with | 0 => 7 | 1 => 10 | 2 => 16 | 3 => 25 | 4 => 40 | 5 => 64 | 6 => 100 | _ => 160
/-- The shift of a letter. -/
def shf (i : Nat) : Int := match i with | 0 => 50 | 1 => 31 | 2 => 16 | 3 => 6 | 4 => 0 | 5 => 0 | 6 => 2 | 7 => 9 | 8 => 15 | _ => 22
/-- The base of a size. -/
def bs (n : Int) : Int := bas (stp n)
/-- The tolerance of a grade for a size. -/
def tol (n g : Int) : Int := (bs n * fac (g - 5).toNat + 5) / 10
/-- The shift of a letter for a size. -/
def sh (n l : Int) : Int := bs n * shf l.toNat / 10
/-- The deviations of a shaft. -/
def sLow (n l g : Int) : Int := if l = 5 then -(tol n g / 2) else if l < 5 then -sh n l - tol n g else sh n l
def sHigh (n l g : Int) : Int := if l = 5 then tol n g / 2 else if l < 5 then -sh n l else sh n l + tol n g
/-- The deviations of a class. -/
def dLow (n : Int) (h : Bool) (l g : Int) : Int := if h then -sHigh n l g else sLow n l g
def dHigh (n : Int) (h : Bool) (l g : Int) : Int := if h then -sLow n l g else sHigh n l g

/-- The number of the error of a grade, of a class, of a size, of both. -/
def gE (g : Int) : Int := if g < 5 ∨ 12 < g then 2 else 0
def cE (l g : Int) : Int := if l < 0 ∨ 10 ≤ l then 1 else gE g
def zE (n : Int) : Int := if n < 1 ∨ 100000 < n then 2 else 0
def dE (n l g : Int) : Int := if zE n = 0 then cE l g else zE n
/-- What Deviations returns. -/
def vLow (n : Int) (h : Bool) (l g : Int) : Int := if dE n l g = 0 then dLow n h l g else 0
def vHigh (n : Int) (h : Bool) (l g : Int) : Int := if dE n l g = 0 then dHigh n h l g else 0
/-- What Limits returns. -/
def lE (n : Int) (h : Bool) (l g : Int) : Int := if dE n l g = 0 then (if n + dLow n h l g < 1 ∨ 100000 < n + dHigh n h l g then 2 else 0) else dE n l g
def mLow (n : Int) (h : Bool) (l g : Int) : Int := if lE n h l g = 0 then n + dLow n h l g else 0
def mHigh (n : Int) (h : Bool) (l g : Int) : Int := if lE n h l g = 0 then n + dHigh n h l g else 0
theorem gE_ok {g : Int} : gE g = 0 ↔ 5 ≤ g ∧ g ≤ 12 := by unfold gE; split <;> omega
theorem zE_ok {n : Int} : zE n = 0 ↔ 1 ≤ n ∧ n ≤ 100000 := by unfold zE; split <;> omega
theorem cE_ok {l g : Int} : cE l g = 0 ↔ (0 ≤ l ∧ l ≤ 9) ∧ 5 ≤ g ∧ g ≤ 12 := by
  have := gE_ok (g := g)
  unfold cE; split
  · omega
  · rw [this]; omega
theorem dE_ok {n l g : Int} : dE n l g = 0 ↔ (1 ≤ n ∧ n ≤ 100000) ∧ (0 ≤ l ∧ l ≤ 9) ∧ 5 ≤ g ∧ g ≤ 12 := by
  unfold dE
  by_cases h : zE n = 0
  · rw [if_pos h, cE_ok]; have := zE_ok.1 h; omega
  · rw [if_neg h]; have := mt (zE_ok (n := n)).2 h; omega

/-- The number of the error of a fit. -/
def fE (n : Int) (hh : Bool) (hl hg : Int) (sh : Bool) (sl sg : Int) : Int :=
  if zE n = 0 then (if cE hl hg = 0 then (if cE sl sg = 0 then (if hh = true ∧ sh = false then (if lE n true hl hg = 0 then lE n false sl sg else lE n true hl hg) else 3) else cE sl sg) else cE hl hg) else zE n
theorem fE_ok {n : Int} {hh : Bool} {hl hg : Int} {sh : Bool} {sl sg : Int} (h : fE n hh hl hg sh sl sg = 0) : zE n = 0 ∧ cE hl hg = 0 ∧ cE sl sg = 0 ∧ hh = true ∧ sh = false ∧ lE n true hl hg = 0 ∧ lE n false sl sg = 0 := by
  unfold fE at h
  by_cases h1 : zE n = 0
  · rw [if_pos h1] at h
    by_cases h2 : cE hl hg = 0
    · rw [if_pos h2] at h
      by_cases h3 : cE sl sg = 0
      · rw [if_pos h3] at h
        by_cases h4 : hh = true ∧ sh = false
        · rw [if_pos h4] at h
          by_cases h5 : lE n true hl hg = 0
          · rw [if_pos h5] at h; exact ⟨h1, h2, h3, h4.1, h4.2, h5, h⟩
          · rw [if_neg h5] at h; exact absurd h h5
        · rw [if_neg h4] at h; omega
      · rw [if_neg h3] at h; exact absurd h h3
    · rw [if_neg h2] at h; exact absurd h h2
  · rw [if_neg h1] at h; exact absurd h h1

theorem stp_lt (n : Int) : stp n < 8 := by unfold stp; (repeat' split) <;> omega
theorem bas_bd (i : Nat) : 6 ≤ bas i ∧ bas i ≤ 22 := by unfold bas; split <;> omega
theorem fac_bd (i : Nat) : 7 ≤ fac i ∧ fac i ≤ 160 := by unfold fac; split <;> omega
theorem shf_bd (i : Nat) : 0 ≤ shf i ∧ shf i ≤ 50 := by unfold shf; split <;> omega
theorem bs_bd (n : Int) : 6 ≤ bs n ∧ bs n ≤ 22 := bas_bd _
theorem mul_bd {a b p q r s : Int} (h1 : p ≤ a) (h2 : a ≤ q) (h3 : r ≤ b) (h4 : b ≤ s) (hp : 0 ≤ p) (hr : 0 ≤ r) : p * r ≤ a * b ∧ a * b ≤ q * s :=
  ⟨Int.mul_le_mul h1 h3 hr (by omega), Int.mul_le_mul h2 h4 (by omega) (by omega)⟩
theorem bf_bd (n : Int) (i : Nat) : 42 ≤ bs n * fac i ∧ bs n * fac i ≤ 3520 := by
  have h1 := bs_bd n; have h2 := fac_bd i
  have := mul_bd h1.1 h1.2 h2.1 h2.2 (by omega) (by omega)
  omega
theorem bh_bd (n : Int) (i : Nat) : 0 ≤ bs n * shf i ∧ bs n * shf i ≤ 1100 := by
  have h1 := bs_bd n; have h2 := shf_bd i
  have := mul_bd h1.1 h1.2 h2.1 h2.2 (by omega) (by omega)
  omega
theorem tol_bd (n g : Int) : 4 ≤ tol n g ∧ tol n g ≤ 352 := by
  have := bf_bd n (g - 5).toNat
  unfold tol; omega
theorem sh_bd (n l : Int) : 0 ≤ sh n l ∧ sh n l ≤ 110 := by
  have := bh_bd n l.toNat
  unfold sh; omega
theorem s_bd (n l g : Int) : -462 ≤ sLow n l g ∧ sLow n l g ≤ 110 ∧ -110 ≤ sHigh n l g ∧ sHigh n l g ≤ 462 ∧ sLow n l g ≤ sHigh n l g := by
  have h1 := tol_bd n g; have h2 := sh_bd n l
  unfold sLow sHigh; (repeat' split) <;> omega
theorem d_bd (n : Int) (h : Bool) (l g : Int) : -462 ≤ dLow n h l g ∧ dLow n h l g ≤ 462 ∧ -462 ≤ dHigh n h l g ∧ dHigh n h l g ≤ 462 ∧ dLow n h l g ≤ dHigh n h l g := by
  have h1 := s_bd n l g
  unfold dLow dHigh; cases h <;> simp <;> omega
theorem stp_le (n : Int) (h : n ≤ 100000) : n ≤ most (stp n) := by
  unfold stp; (repeat' split) <;> simp only [most] <;> omega
theorem stp_gt (n : Int) (k : Nat) (h : k < stp n) : most k < n := by
  have h8 := stp_lt n
  have h7 : k = 0 ∨ k = 1 ∨ k = 2 ∨ k = 3 ∨ k = 4 ∨ k = 5 ∨ k = 6 := by omega
  unfold stp at h
  rcases h7 with rfl | rfl | rfl | rfl | rfl | rfl | rfl <;> simp only [most] <;> (repeat' split at h) <;> omega
end Pu
end Go.Proofs.YtldghloflegpmaaGreatDoor

/- Plain: the text of a right fit reads as that fit. No program in sight. -/
import Derived.Test.YtldghloflegpmaaGreatDoorFtQ
namespace Go.Proofs.YtldghloflegpmaaGreatDoor
open Pu Go.Lib

theorem idx_at : ∀ (a b : List UInt8) (c : UInt8), (∀ x ∈ a, x ≠ c) → Lib.index (a ++ c :: b) [c] = (a.length : Int)
  | [], b, c, _ => by unfold Lib.index; simp [List.isPrefixOf]
  | x :: a, b, c, h => by
    have hx : (c == x) = false := by simpa using (h x (by simp)).symm
    have ih := idx_at a b c (fun y hy => h y (by simp [hy]))
    rw [List.cons_append]
    unfold Lib.index
    rw [ih]
    have e : ((a.length : Int) == -1) = false := by rw [beq_eq_false_iff_ne]; omega
    simp [List.isPrefixOf, hx, e]
theorem idx_no : ∀ (a : List UInt8) (c : UInt8), (∀ x ∈ a, x ≠ c) → Lib.index a [c] = -1
  | [], c, _ => rfl
  | x :: a, c, h => by
    have hx : (c == x) = false := by simpa using (h x (by simp)).symm
    have ih := idx_no a c (fun y hy => h y (by simp [hy]))
    unfold Lib.index
    rw [ih]
    simp [List.isPrefixOf, hx]
theorem cutc_at {a b : List UInt8} {c : UInt8} (h : ∀ x ∈ a, x ≠ c) : Lib.cut (a ++ c :: b) [c] = (a, b, true) := by
  unfold Lib.cut
  rw [idx_at a b c h, if_pos (by omega)]
  simp
theorem cutc_no {a : List UInt8} {c : UInt8} (h : ∀ x ∈ a, x ≠ c) : Lib.cut a [c] = (a, [], false) := by
  unfold Lib.cut
  rw [idx_no a c h, if_neg (by omega)]
theorem decFrom_app : ∀ (l k : List UInt8) (acc : Nat), Lib.decFrom acc (l ++ k) = (Lib.decFrom acc l).bind fun m => Lib.decFrom m k
  | [], k, acc => rfl
  | x :: l, k, acc => by
    have e : ∀ (a : Nat) (y : UInt8) (m : List UInt8), Lib.decFrom a (y :: m) = match Lib.digitVal y with | some d => Lib.decFrom (a * 10 + d) m | none => none := fun _ _ _ => rfl
    rw [List.cons_append, e, e]
    cases Lib.digitVal x with
    | none => rfl
    | some d => exact decFrom_app l k _

/-- The digits behind the point, of thousandths that are less than a whole. -/
def fr1 (q : Nat) : Nat → Nat → List UInt8
  | 0, _ => []
  | f + 1, r => if r = 0 then [] else UInt8.ofNat (48 + r * 10 / q) :: fr1 q f (r * 10 % q)
theorem fr_eq (q : Nat) (h0 : 0 < q) : ∀ (f r : Nat), r < q → frL q f r = fr1 q f r
  | 0, _, _ => rfl
  | f + 1, r, h => by
    unfold frL fr1
    split
    · rfl
    · rw [Lib.decDigits_one (show r * 10 / q < 10 by rw [Nat.div_lt_iff_lt_mul h0]; omega), fr_eq q h0 f _ (Nat.mod_lt _ h0)]
      rfl
def fr2 (r : Nat) : List UInt8 := fr1 (1000 / Nat.gcd r 1000) 3 (r / Nat.gcd r 1000)
set_option maxRecDepth 100000 in
theorem fr_all : ∀ r : Fin 1000, (fr2 r.1).length ≤ 3 ∧ Lib.decFrom 0 (fr2 r.1 ++ List.replicate (3 - (fr2 r.1).length) 48) = some r.1 ∧ (∀ x ∈ fr2 r.1 ++ List.replicate (3 - (fr2 r.1).length) 48, 48 ≤ x.toNat ∧ x.toNat ≤ 57) ∧ (fr2 r.1 ++ List.replicate (3 - (fr2 r.1).length) 48).length = 3 := by decide +kernel
/-- The text of thousandths, part by part. -/
theorem thL_eq (n : Nat) : thL n = Lib.decDigits (n / 1000) ++ (if n % 1000 = 0 then [] else 46 :: fr2 (n % 1000)) := by
  have hg : Nat.gcd n 1000 = Nat.gcd (n % 1000) 1000 := by rw [Nat.gcd_comm, Nat.gcd_rec, Nat.gcd_comm (n % 1000) 1000, Nat.gcd_comm 1000 (n % 1000)]
  have hd : n = 1000 * (n / 1000) + n % 1000 := (Nat.div_add_mod n 1000).symm
  unfold thL decL
  rw [hg]
  unfold fr2
  obtain ⟨r, hr⟩ : ∃ r, n % 1000 = r := ⟨_, rfl⟩
  obtain ⟨a, ha⟩ : ∃ a, n / 1000 = a := ⟨_, rfl⟩
  rw [hr, ha] at hd
  rw [hr, ha]
  have hgp : 0 < Nat.gcd r 1000 := Nat.gcd_pos_of_pos_right r (by omega)
  obtain ⟨q, hq⟩ := Nat.gcd_dvd_right r 1000
  obtain ⟨p, hp⟩ := Nat.gcd_dvd_left r 1000
  obtain ⟨g, hgg⟩ : ∃ g, Nat.gcd r 1000 = g := ⟨_, rfl⟩
  rw [hgg] at hq hp hgp ⊢
  have e1 : 1000 / g = q := by rw [hq]; exact Nat.mul_div_cancel_left q hgp
  have e2 : r / g = p := by rw [hp]; exact Nat.mul_div_cancel_left p hgp
  have e3 : n / g = q * a + p := by
    rw [hd, hp, hq, Nat.mul_assoc, ← Nat.mul_add]; exact Nat.mul_div_cancel_left _ hgp
  have hq0 : 0 < q := by rcases Nat.eq_zero_or_pos q with h | h; · rw [h] at hq; omega
                         · exact h
  have hr1 : r < 1000 := by rw [← hr]; exact Nat.mod_lt _ (by omega)
  have hpq : p < q := by
    have : g * p < g * q := by rw [← hp, ← hq]; exact hr1
    exact Nat.lt_of_mul_lt_mul_left this
  have e4 : (q * a + p) / q = a := by rw [Nat.mul_add_div hq0, Nat.div_eq_of_lt hpq, Nat.add_zero]
  have e5 : (q * a + p) % q = p := by rw [Nat.mul_add_mod, Nat.mod_eq_of_lt hpq]
  rw [e1, e2, e3, e4, e5, fr_eq q hq0 3 p hpq]
  have : p = 0 ↔ r = 0 := by
    constructor
    · intro h; rw [hp, h, Nat.mul_zero]
    · intro h; rw [hp] at h; rcases Nat.mul_eq_zero.1 h with h | h
      · omega
      · exact h
  by_cases h : r = 0
  · rw [if_pos h, if_pos (this.2 h)]
  · rw [if_neg h, if_neg (fun h' => h (this.1 h'))]
theorem dig_ne {x : UInt8} {c : UInt8} (h : 48 ≤ x.toNat ∧ x.toNat ≤ 57) (hc : c.toNat < 48) : x ≠ c := by rintro rfl; omega
theorem fr2_dig {r : Nat} (h : r < 1000) : ∀ x ∈ fr2 r, 48 ≤ x.toNat ∧ x.toNat ≤ 57 := fun x hx => (fr_all ⟨r, h⟩).2.2.1 x (List.mem_append_left _ hx)
theorem thL_no (n : Nat) (c : UInt8) (h : c.toNat < 46) : ∀ x ∈ thL n, x ≠ c := by
  intro x hx
  rw [thL_eq, List.mem_append] at hx
  rcases hx with hx | hx
  · exact dig_ne (dD_dig _ x hx) (by omega)
  · split at hx
    · cases hx
    · rcases List.mem_cons.1 hx with rfl | hx
      · rintro rfl; simp at h
      · exact dig_ne (fr2_dig (Nat.mod_lt _ (by omega)) x hx) (by omega)
theorem thV_th (n : Nat) (hn : n ≤ 100000) : thV (thL n) = (n : Int) := by
  have hr1 : n % 1000 < 1000 := Nat.mod_lt _ (by omega)
  obtain ⟨f1, f2, f3, f4⟩ := fr_all ⟨n % 1000, hr1⟩
  simp only at f1 f2 f3 f4
  have hc : Lib.cut (thL n) [46] = (Lib.decDigits (n / 1000), fr2 (n % 1000), decide (¬ n % 1000 = 0)) := by
    rw [thL_eq]
    by_cases h : n % 1000 = 0
    · rw [if_pos h, List.append_nil, cutc_no (fun x hx => dig_ne (dD_dig _ x hx) (by decide)), h]
      rfl
    · rw [if_neg h, cutc_at (fun x hx => dig_ne (dD_dig _ x hx) (by decide))]
      simp [h]
  have hl := dD_len 5 (n / 1000) (by omega)
  unfold thV
  rw [hc]
  simp only
  rw [if_neg (by omega), List.append_assoc]
  have hall : ∀ b ∈ Lib.decDigits (n / 1000) ++ (fr2 (n % 1000) ++ List.replicate (3 - (fr2 (n % 1000)).length) 48), 48 ≤ b.toNat ∧ b.toNat ≤ 57 := by
    intro b hb
    rcases List.mem_append.1 hb with hb | hb
    · exact dD_dig _ b hb
    · exact f3 b hb
  obtain ⟨m, hm, hm'⟩ := atoi_all (l := Lib.decDigits (n / 1000) ++ (fr2 (n % 1000) ++ List.replicate (3 - (fr2 (n % 1000)).length) 48)) (by
    intro e
    exact dD_ne (n / 1000) (List.append_eq_nil_iff.1 e).1) hall
  rw [hm]
  rw [decFrom_app, dD_read] at hm'
  simp only [Option.bind_some] at hm'
  have key : ∀ (l : List UInt8) (a k m : Nat), Lib.decFrom 0 l = some k → Lib.decFrom a l = some m → m = a * 10 ^ l.length + k := by
    intro l
    induction l with
    | nil => intro a k m h1 h2; simp [Lib.decFrom] at h1 h2; subst h1 h2; simp
    | cons x l ih =>
      intro a k m h1 h2
      unfold Lib.decFrom at h1 h2
      cases hx : Lib.digitVal x with
      | none => rw [hx] at h1; cases h1
      | some d =>
        rw [hx] at h1 h2
        simp only at h1 h2
        obtain ⟨z, hz⟩ : ∃ z, Lib.decFrom 0 l = some z := by
          rcases h3 : Lib.decFrom 0 l with _ | z
          · exfalso
            have gen : ∀ (l : List UInt8) (a b : Nat), Lib.decFrom a l = none → Lib.decFrom b l = none := by
              intro l
              induction l with
              | nil => intro a b h; simp [Lib.decFrom] at h
              | cons y l ih =>
                intro a b h
                unfold Lib.decFrom at h ⊢
                cases hy : Lib.digitVal y with
                | none => rfl
                | some e => rw [hy] at h; exact ih _ _ h
            rw [gen l 0 _ h3] at h1
            cases h1
          · exact ⟨z, rfl⟩
        have a1 := ih _ _ _ hz h1
        have a2 := ih _ _ _ hz h2
        rw [a1, a2, List.length_cons, Nat.pow_succ]
        generalize 10 ^ l.length = P
        simp only [Nat.add_mul, Nat.mul_assoc, Nat.zero_mul, Nat.zero_add]
        rw [Nat.mul_comm 10 P]
        omega
  have := key _ _ _ _ f2 hm'
  rw [f4] at this
  rw [this]
  simp only [Option.getD_some]
  omega

/-- A text of a class, digit by digit. -/
def txtC (k : Fin 160) : List UInt8 := (if 80 ≤ k.1 then cpL (k.1 % 80 / 8) else smL (k.1 % 80 / 8)) :: (if 5 + k.1 % 8 < 10 then [UInt8.ofNat (48 + (5 + k.1 % 8))] else [49, UInt8.ofNat (48 + (5 + k.1 % 8 - 10))])
set_option maxRecDepth 100000 in
theorem txtC_all : ∀ k : Fin 160, prsE (txtC k) = 0 ∧ phB (txtC k) = decide (80 ≤ k.1) ∧ plI (txtC k) = ((k.1 % 80 / 8 : Nat) : Int) ∧ pgI (txtC k) = ((5 + k.1 % 8 : Nat) : Int) ∧ ((txtC k).all fun x => x != 47) = true := by decide +kernel
theorem fmt_back (h : Bool) (l g : Int) (l0 : 0 ≤ l) (l9 : l ≤ 9) (g5 : 5 ≤ g) (g12 : g ≤ 12) : prsE (fmtL h l g) = 0 ∧ phB (fmtL h l g) = h ∧ plI (fmtL h l g) = l ∧ pgI (fmtL h l g) = g ∧ ∀ x ∈ fmtL h l g, x ≠ 47 := by
  obtain ⟨i, rfl⟩ : ∃ i : Nat, l = (i : Int) := ⟨l.toNat, by omega⟩
  obtain ⟨j, rfl⟩ : ∃ j : Nat, g = ((5 + j : Nat) : Int) := ⟨(g - 5).toNat, by omega⟩
  have hi : i < 10 := by omega
  have hj : j < 8 := by omega
  have hk : (if h then 80 else 0) + 8 * i + j < 160 := by split <;> omega
  have e1 : ((if h then 80 else 0) + 8 * i + j) % 80 / 8 = i := by split <;> omega
  have e2 : ((if h then 80 else 0) + 8 * i + j) % 8 = j := by split <;> omega
  have e3 : (80 ≤ (if h then 80 else 0) + 8 * i + j) ↔ h = true := by cases h <;> simp <;> omega
  have he : fmtL h (i : Int) ((5 + j : Nat) : Int) = txtC ⟨(if h then 80 else 0) + 8 * i + j, hk⟩ := by
    unfold fmtL txtC
    simp only [e1, e2, e3, Int.toNat_natCast]
    congr 1
    by_cases h1 : 5 + j < 10
    · rw [if_pos h1, Lib.decDigits_one h1]
    · rw [if_neg h1, Lib.decDigits_two (by omega) (by omega)]
      have d1 : (5 + j) / 10 = 1 := by omega
      have d2 : (5 + j) % 10 = 5 + j - 10 := by omega
      rw [d1, d2]
      rfl
  obtain ⟨a1, a2, a3, a4, a5⟩ := txtC_all ⟨(if h then 80 else 0) + 8 * i + j, hk⟩
  rw [← he] at a1 a2 a3 a4 a5
  simp only [e1, e2, e3] at a2 a3 a4
  refine ⟨a1, by rw [a2]; simp, a3, a4, fun x hx => by simpa using List.all_eq_true.1 a5 x hx⟩
theorem good_txt {n hl hg sl sg : Int} (hf : fE n true hl hg false sl sg = 0) : goodT (txtL n hl hg sl sg) ∧ thV (p1 (txtL n hl hg sl sg)) = n ∧ phB (p2 (txtL n hl hg sl sg)) = true ∧ plI (p2 (txtL n hl hg sl sg)) = hl ∧ pgI (p2 (txtL n hl hg sl sg)) = hg ∧
    phB (p3 (txtL n hl hg sl sg)) = false ∧ plI (p3 (txtL n hl hg sl sg)) = sl ∧ pgI (p3 (txtL n hl hg sl sg)) = sg := by
  obtain ⟨z1, z2, z3, _, _, _, _⟩ := fE_ok hf
  obtain ⟨⟨c1, c2⟩, c3, c4⟩ := cE_ok.1 z2
  obtain ⟨⟨c5, c6⟩, c7, c8⟩ := cE_ok.1 z3
  obtain ⟨n1, n2⟩ := zE_ok.1 z1
  obtain ⟨u, rfl⟩ : ∃ u : Nat, n = (u : Int) := ⟨n.toNat, by omega⟩
  have hc1 : Lib.cut (txtL (u : Int) hl hg sl sg) [32] = (thL u, fmtL true hl hg ++ 47 :: fmtL false sl sg, true) := by
    unfold txtL
    rw [Int.toNat_natCast]
    exact cutc_at (thL_no u 32 (by decide))
  obtain ⟨a1, a2, a3, a4, a5⟩ := fmt_back true hl hg c1 c2 c3 c4
  obtain ⟨b1, b2, b3, b4, _⟩ := fmt_back false sl sg c5 c6 c7 c8
  have hc2 : Lib.cut (Lib.cut (txtL (u : Int) hl hg sl sg) [32]).2.1 [47] = (fmtL true hl hg, fmtL false sl sg, true) := by
    rw [hc1]; exact cutc_at a5
  have q1 : p1 (txtL (u : Int) hl hg sl sg) = thL u := by unfold p1; rw [hc1]
  have q2 : p2 (txtL (u : Int) hl hg sl sg) = fmtL true hl hg := by unfold p2; rw [hc2]
  have q3 : p3 (txtL (u : Int) hl hg sl sg) = fmtL false sl sg := by unfold p3; rw [hc2]
  unfold goodT
  rw [q1, q2, q3, thV_th u (by omega), a1, a2, a3, a4, b1, b2, b3, b4]
  exact ⟨⟨rfl, rfl, hf, rfl⟩, rfl, rfl, rfl, rfl, rfl, rfl, rfl⟩
theorem txt_len {n hl hg sl sg : Int} (hf : fE n true hl hg false sl sg = 0) : (txtL n hl hg sl sg).length ≤ 4096 := by
  obtain ⟨z1, z2, z3, _, _, _, _⟩ := fE_ok hf
  obtain ⟨_, c3, c4⟩ := cE_ok.1 z2
  obtain ⟨_, c7, c8⟩ := cE_ok.1 z3
  obtain ⟨n1, n2⟩ := zE_ok.1 z1
  have h1 := thL_len n.toNat (by omega)
  have h2 := fmt_len true hl hg c3 c4
  have h3 := fmt_len false sl sg c7 c8
  unfold txtL
  simp only [List.length_append, List.length_cons]
  omega
theorem fpV_txt {n hl hg sl sg : Int} (hf : fE n true hl hg false sl sg = 0) : fpV (txtL n hl hg sl sg) = .tuple #[.agg (fitC n true hl hg false sl sg), .int .i64 0] := by
  obtain ⟨g, e1, e2, e3, e4, e5, e6, e7⟩ := good_txt hf
  unfold fpV
  rw [if_neg (by have := txt_len hf; omega), if_pos g, e1, e2, e3, e4, e5, e6, e7]
  rfl
end Go.Proofs.YtldghloflegpmaaGreatDoor

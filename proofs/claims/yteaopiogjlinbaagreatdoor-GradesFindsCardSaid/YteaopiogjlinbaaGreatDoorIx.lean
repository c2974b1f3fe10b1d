/- Contract of slices.Index, slices.Contains at classes. -/
import Derived.Test.YteaopiogjlinbaaGreatDoorFnA
import Derived.Test.YteaopiogjlinbaaGreatDoorRfG
namespace Go.Proofs.YteaopiogjlinbaaGreatDoor
open Go.RowKit Pu Go.Lib

theorem flat_at : ∀ (ks : List (Fin 160)) (i j : Nat) (hi : i < ks.length) (_ : j < 3), (ks.flatMap cellsK)[i * 3 + j]? = (cellsK ks[i])[j]?
  | [], i, _, hi, _ => by simp at hi
  | k :: ks, 0, j, _, hj => by
    rw [List.flatMap_cons, Nat.zero_mul, Nat.zero_add, List.getElem?_append_left (by simp [cellsK]; omega)]
    rfl
  | k :: ks, i + 1, j, hi, hj => by
    rw [List.flatMap_cons, List.getElem?_append_right (by simp [cellsK]; omega)]
    have e : (i + 1) * 3 + j - (cellsK k).length = i * 3 + j := by simp [cellsK]; omega
    rw [e, flat_at ks i j (by simpa using hi) hj]
    rfl
/-- The cells of an owned row of classes. -/
theorem own_cells {W : World} {B g cap : Nat} {ks : List (Fin 160)} {T : TypeId} (h : W.ownsRow B T 3 (.slice (some ⟨g, 0, none⟩) ks.length cap) ks.length (ks.flatMap cellsK)) (i : Nat) (hi : i < ks.length) (j : Nat) (hj : j < 3) :
    W.cell? ⟨g, i * 3 + j, none⟩ = (cellsK ks[i])[j]? := by
  rcases h.2 with ⟨e, _⟩ | ⟨g', cap', cur, e, _, hg, hn, _, hsz, ht⟩
  · cases e
  · cases e
    have h1 : (cur.toList.take (ks.length * 3))[i * 3 + j]? = (cellsK ks[i])[j]? := by rw [ht]; exact flat_at ks i j hi hj
    rw [List.getElem?_take_of_lt (by omega)] at h1
    simp [World.cell?, hg]
    simpa using h1

theorem k_inj {a b : Fin 160} (h1 : kH a = kH b) (h2 : kL a = kL b) (h3 : kG a = kG b) : a = b := by
  unfold kH at h1
  unfold kL at h2
  unfold kG at h3
  have h1' : 80 ≤ a.1 ↔ 80 ≤ b.1 := decide_eq_decide.1 h1
  apply Fin.ext
  omega
set_option maxRecDepth 100000 in
set_option maxHeartbeats 4000000 in
theorem Index_c (B g cap : Nat) (ks : List (Fin 160)) (k0 : Fin 160) (w : World) (hlen : ks.length ≤ 160)
    (ho : w.ownsRow B 23 3 (.slice (some ⟨g, 0, none⟩) ks.length cap) ks.length (ks.flatMap cellsK)) :
    Calls Tryz.prog 78 #[.slice (some ⟨g, 0, none⟩) ks.length cap, .agg #[.bool (kH k0), .int .i64 (kL k0), .int .i64 (kG k0)]] w
      fun e w' => ∃ r : Int, e = .returned (.int .i64 r) ∧ (k0 ∈ ks → 0 ≤ r) ∧ Below w.heap.size w w' := by
  obtain ⟨V, hV⟩ : ∃ V, w.alloc (.cells #[.bool (kH k0), .int .i64 (kL k0), .int .i64 (kG k0)] 23) = V := ⟨_, rfl⟩
  have hoV : V.ownsRow B 23 3 (.slice (some ⟨g, 0, none⟩) ks.length cap) ks.length (ks.flatMap cellsK) := by rw [← hV]; exact ho.alloc _
  have rV : Row V w.heap.size #[.bool (kH k0), .int .i64 (kL k0), .int .i64 (kG k0)] 23 := by rw [← hV]; exact Row.new w _ _
  have bV : Below w.heap.size w V := by rw [← hV]; exact (Below.refl _ w).alloc (Nat.le_refl _) _
  have hn1 : (ks.length : Int) ≤ 160 := by omega
  clear ho
  go_enter Tryz.func78, Tryz.ntmps78
  go_wp2_with fail
  clear hV
  go_loopw [8] (fun p wr => ∃ i : Nat, i ≤ ks.length ∧ p = .int .i64 (i : Int) ∧ Hid (k0 ∉ ks.take i) ∧ wr.heap = V.heap ∧ Below w.heap.size w wr) (fun p _ => ks.length - (intOf p).toNat)
  case atStart => exact ⟨0, by omega, rfl, Lib.hid (by simp), rfl, bV⟩
  case round =>
    obtain ⟨i, hi, rfl, HT, hh, hb⟩ := hrel
    have rW : Row wr w.heap.size #[.bool (kH k0), .int .i64 (kL k0), .int .i64 (kG k0)] 23 := by unfold Row; rw [hh]; exact rV
    have cW := rW.cell
    by_cases hlt : i < ks.length
    · have cx : ∀ j, j < 3 → wr.cell? ⟨g, i * 3 + j, none⟩ = (cellsK ks[i])[j]? := fun j hj => by
        have := own_cells hoV i hlt j hj
        simpa [World.cell?, hh] using this
      have c0 := cx 0 (by omega)
      have c1 := cx 1 (by omega)
      have c2 := cx 2 (by omega)
      simp only [cellsK, Nat.add_zero] at c0 c1 c2
      clear cx rW
      have HH := Lib.hid hh
      clear hh
      by_cases hx : ks[i] = k0
      · rw [hx] at c0 c1 c2
        go_wp2_with fail
        go_region
        go_wp2
        go_ret
        exact ⟨_, rfl, fun _ => by omega, hb.drew⟩
      · have hnt : k0 ∉ ks.take (i + 1) := by
          rw [List.take_succ_eq_append_getElem hlt]
          intro hm
          rcases List.mem_append.1 hm with hm | hm
          · exact HT.out hm
          · simp at hm; exact hx hm.symm
        have HN := Lib.hid hnt
        have hne : ¬ (kH k0 = kH ks[i] ∧ kL k0 = kL ks[i] ∧ kG k0 = kG ks[i]) := fun ⟨a, b, c⟩ => hx (k_inj a b c).symm
        clear hnt hx
        generalize ks[i] = x at *
        generalize kH x = xh at *
        generalize kL x = xl at *
        generalize kG x = xg at *
        have hne3 : kH k0 ≠ xh ∨ kL k0 ≠ xl ∨ kG k0 ≠ xg := by
          by_cases a : kH k0 = xh
          · by_cases b : kL k0 = xl
            · exact .inr (.inr fun c => hne ⟨a, b, c⟩)
            · exact .inr (.inl b)
          · exact .inl a
        clear hne
        rcases hne3 with hne | hne | hne
        all_goals
          go_wp2_with fail
          go_region
          go_wp2
          go_roundw
          case rel => exact ⟨i + 1, by omega, by go_num, HN, HH.out, hb.drew⟩
          case measure => simp [intOf]; omega
    · obtain rfl : i = ks.length := by omega
      have hnot : k0 ∉ ks := by simpa using HT.out
      have HN := Lib.hid hnot
      clear hnot
      go_wp2
      go_ret
      exact ⟨_, rfl, fun h => absurd h HN.out, hb⟩

/-- An empty list: no index; and a class that is there has one. -/
theorem Index_all (B : Nat) (v : Value) (ks : List (Fin 160)) (k0 : Fin 160) (w : World) (hlen : ks.length ≤ 160) (hk : k0 ∈ ks)
    (ho : w.ownsRow B 23 3 v ks.length (ks.flatMap cellsK)) :
    Calls Tryz.prog 78 #[v, .agg #[.bool (kH k0), .int .i64 (kL k0), .int .i64 (kG k0)]] w
      fun e w' => ∃ r : Int, e = .returned (.int .i64 r) ∧ 0 ≤ r ∧ Below w.heap.size w w' := by
  have ho' := ho
  rcases ho'.2 with ⟨rfl, h0⟩ | ⟨g, cap, cur, rfl, _⟩
  · have : ks = [] := List.eq_nil_of_length_eq_zero h0
    subst this
    cases hk
  · exact (Index_c B g cap ks k0 w hlen ho).mono fun e w' ⟨r, h1, h2, h3⟩ => ⟨r, h1, h2 hk, h3⟩
set_option maxHeartbeats 1000000 in
theorem Contains_c (B : Nat) (v : Value) (ks : List (Fin 160)) (k0 : Fin 160) (w : World) (hlen : ks.length ≤ 160) (hk : k0 ∈ ks)
    (ho : w.ownsRow B 23 3 v ks.length (ks.flatMap cellsK)) :
    Calls Tryz.prog 39 #[v, .agg #[.bool (kH k0), .int .i64 (kL k0), .int .i64 (kG k0)]] w
      fun e w' => e = .returned (.bool true) ∧ Below w.heap.size w w' := by
  have hI := Index_all B v ks k0 (w.alloc (.cells #[.bool (kH k0), .int .i64 (kL k0), .int .i64 (kG k0)] 23)) hlen hk (ho.alloc _)
  have HI := Lib.hid hI
  clear hI ho hk
  go_enter Tryz.func39, Tryz.ntmps39
  go_wp2_with fail
  refine HI.out.mono ?_
  rintro e w' ⟨r, rfl, hr, hbb⟩
  have hb := ((Below.refl _ w).alloc (Nat.le_refl _) (.cells #[.bool (kH k0), .int .i64 (kL k0), .int .i64 (kG k0)] 23)).trans (hbb.mono (by simp))
  go_wp2
  go_ret
  exact ⟨by simp, hb⟩

/-- A text of a class is read back. -/
def txtK (k : Fin 160) : List UInt8 := (if kH k then cpL (kL k).toNat else smL (kL k).toNat) :: (if (kG k).toNat < 10 then [UInt8.ofNat (48 + (kG k).toNat)] else [49, UInt8.ofNat (48 + ((kG k).toNat - 10))])
theorem txt_eq (k : Fin 160) : fmtL (kH k) (kL k) (kG k) = txtK k := by
  have hb := k_bd k
  unfold fmtL txtK
  congr 1
  by_cases h : (kG k).toNat < 10
  · rw [if_pos h, Lib.decDigits, dif_pos h]
  · rw [if_neg h]
    obtain ⟨r, hr⟩ : ∃ r, (kG k).toNat = 10 + r := ⟨(kG k).toNat - 10, by omega⟩
    rw [hr, dec_two r (by omega), show 10 + r - 10 = r by omega]
set_option maxRecDepth 100000 in
theorem back_all : ∀ k : Fin 160, prsE (txtK k) = 0 ∧ decide (((txtK k).headD 0).toNat < 97) = kH k ∧ pLet ((txtK k).headD 0) = kL k ∧ dNum ((txtK k).drop 1) = kG k := by decide +kernel
theorem back_k (k : Fin 160) : prsV (fmtL (kH k) (kL k) (kG k)) = clsV (kH k) (kL k) (kG k) 0 := by
  obtain ⟨h1, h2, h3, h4⟩ := back_all k
  unfold prsV
  rw [txt_eq, if_pos h1, h2, h3, h4]
theorem k_of {h : Bool} {l g : Int} (l0 : 0 ≤ l) (l9 : l ≤ 9) (g5 : 5 ≤ g) (g12 : g ≤ 12) : ∃ k : Fin 160, kH k = h ∧ kL k = l ∧ kG k = g := by
  cases h
  · refine ⟨⟨8 * l.toNat + (g - 5).toNat, by omega⟩, ?_, ?_, ?_⟩
    · unfold kH; simp; omega
    · unfold kL; simp; omega
    · unfold kG; simp; omega
  · refine ⟨⟨80 + 8 * l.toNat + (g - 5).toNat, by omega⟩, ?_, ?_, ?_⟩
    · unfold kH; simp; omega
    · unfold kL; simp; omega
    · unfold kG; simp; omega
theorem mem_fnd (n : Int) (k : Fin 160) : k ∈ fndK n (dLow n (kH k) (kL k) (kG k)) (dHigh n (kH k) (kL k) (kG k)) allK := by
  unfold fndK
  rw [List.mem_filter]
  exact ⟨List.mem_finRange k, by unfold hasD; simp⟩
theorem fnd_len (n lo hi : Int) : (fndK n lo hi allK).length ≤ 160 := by
  have := List.length_filter_le (hasD n lo hi) allK
  rw [allK_len] at this
  exact this
end Go.Proofs.YteaopiogjlinbaaGreatDoor

/- Contract of the reference's Find. -/
import Derived.Test.YtldghloflegpmaaGreatDoorFdB
namespace Go.Proofs.YtldghloflegpmaaGreatDoor
open Go.RowKit Pu Go.Lib

theorem k5_drew {wr w' : World} {g o b : Nat} {x y z : Value} {cs : Array Value} (h : Below wr.heap.size wr w' ∧ w'.cell? ⟨g, o, none⟩ = some x ∧ w'.cell? ⟨g, o + 1, none⟩ = some y ∧ w'.cell? ⟨g, o + 2, none⟩ = some z ∧ ∀ j : Nat, w'.cell? ⟨b, j, none⟩ = cs[j]?) :
    Below wr.heap.size wr w'.drew ∧ w'.drew.cell? ⟨g, o, none⟩ = some x ∧ w'.drew.cell? ⟨g, o + 1, none⟩ = some y ∧ w'.drew.cell? ⟨g, o + 2, none⟩ = some z ∧ ∀ j : Nat, w'.drew.cell? ⟨b, j, none⟩ = cs[j]? := ⟨h.1.drew, h.2⟩
theorem k5_call {wr w' w2 : World} {g o b : Nat} {x y z : Value} {cs : Array Value} (h : Below wr.heap.size wr w' ∧ w'.cell? ⟨g, o, none⟩ = some x ∧ w'.cell? ⟨g, o + 1, none⟩ = some y ∧ w'.cell? ⟨g, o + 2, none⟩ = some z ∧ ∀ j : Nat, w'.cell? ⟨b, j, none⟩ = cs[j]?)
    (hb : Below w'.heap.size w' w2) (hg : g < wr.heap.size) (hl : b < wr.heap.size) :
    Below wr.heap.size wr w2 ∧ w2.cell? ⟨g, o, none⟩ = some x ∧ w2.cell? ⟨g, o + 1, none⟩ = some y ∧ w2.cell? ⟨g, o + 2, none⟩ = some z ∧ ∀ j : Nat, w2.cell? ⟨b, j, none⟩ = cs[j]? := by
  have hs := h.1.size
  have hc : ∀ (p : Addr), p.block < w'.heap.size → w2.cell? p = w'.cell? p := fun p hp => hb.cell hp
  exact ⟨h.1.trans (hb.mono hs), (hc ⟨g, o, none⟩ (by show g < _; omega)).trans h.2.1, (hc ⟨g, o + 1, none⟩ (by show g < _; omega)).trans h.2.2.1, (hc ⟨g, o + 2, none⟩ (by show g < _; omega)).trans h.2.2.2.1, fun j => (hc ⟨b, j, none⟩ (by show b < _; omega)).trans (h.2.2.2.2 j)⟩
theorem ownsRow_less {W : World} {n₀ n₁ : Nat} {e : TypeId} {size : Nat} {v : Value} {k : Nat} {xs : List Value} (h : W.ownsRow n₁ e size v k xs) (hle : n₀ ≤ n₁) : W.ownsRow n₀ e size v k xs := by
  refine ⟨h.1, ?_⟩
  rcases h.2 with h | ⟨g, cap, cur, h1, h2, h3⟩
  · exact .inl h
  · exact .inr ⟨g, cap, cur, h1, Nat.le_trans hle h2, h3⟩
theorem fnd_take {n lo hi : Int} (ks : List (Fin 160)) (i : Nat) (hi' : i < ks.length) : fndK n lo hi (ks.take (i + 1)) = fndK n lo hi (ks.take i) ++ (if hasD n lo hi ks[i] then [ks[i]] else []) := by
  rw [List.take_succ_eq_append_getElem hi']
  unfold fndK
  rw [List.filter_append, List.filter_cons, List.filter_nil]

set_option maxRecDepth 100000 in
set_option maxHeartbeats 4000000 in
theorem rFind_ok (nn lo hi : Int) (w : World) (hz : zE nn = 0) : Calls Tryz.prog 13 #[.int .i64 nn, .agg #[.int .i64 lo, .int .i64 hi]] w fun e w' => ∃ v, e = .returned (.tuple #[v, .int .i64 0]) ∧
    w'.ownsRow w.heap.size 47 3 v (fndK nn lo hi allK).length ((fndK nn lo hi allK).flatMap cellsK) ∧ Below w.heap.size w w' := by
  obtain ⟨i0, hi0, hz0, hz1, hz2⟩ := info_parts infoR
  have hnn := (zE_ok.1 hz).2
  have Hz := Lib.hid hz
  clear hz
  go_enter Tryz.func13, Tryz.ntmps13
  go_wp2_with fail
  refine (rSize_c _ _).mono ?_
  rintro e w1 ⟨rfl, rfl⟩
  rw [Hz.out]
  go_wp2_with fail
  refine (All_len _).mono ?_
  rintro e w2 ⟨g, cap, rfl, hgl, hoA, hbb⟩
  have rL := (Row.new w #[.int .i64 lo, .int .i64 hi] 23).next hbb
  have hb2 := ((Below.refl _ w).alloc (Nat.le_refl _) (.cells #[.int .i64 lo, .int .i64 hi] 23)).trans (hbb.mono (by simp))
  clear hbb
  have hn1 : (allK.length : Int) ≤ 160 := by have := allK_len; omega
  obtain ⟨ks, hks⟩ : ∃ ks, allK = ks := ⟨_, rfl⟩
  rw [hks] at hoA hn1 ⊢
  have HKS := Lib.hid hks
  clear hks
  go_wp2_with fail
  go_loopw [8, 9] (fun v p wr => ∃ i : Nat, i ≤ ks.length ∧ p = .int .i64 (i : Int) ∧ wr.ownsRow w2.heap.size 47 3 v (fndK nn lo hi (ks.take i)).length ((fndK nn lo hi (ks.take i)).flatMap cellsK) ∧ Row wr w.heap.size #[.int .i64 lo, .int .i64 hi] 23 ∧ Below w.heap.size w wr ∧
    (∀ o, wr.cell? ⟨g, o, none⟩ = w2.cell? ⟨g, o, none⟩) ∧ w2.heap.size ≤ wr.heap.size) (fun _ p _ => ks.length - (intOf p).toNat)
  case atStart => exact ⟨0, by omega, rfl, World.ownsRow_nil _ _ _ _, rL, hb2, fun _ => rfl, Nat.le_refl _⟩
  case round =>
    obtain ⟨i, hile, rfl, hr, rL, hb, hcg, hsw⟩ := hrel
    by_cases hlt : i < ks.length
    · have cx : ∀ j, j < 3 → wr.cell? ⟨g, i * 3 + j, none⟩ = (cellsK ks[i])[j]? := fun j hj => (hcg _).trans (own_cells hoA i hlt j hj)
      have c0 := cx 0 (by omega)
      have c1 := cx 1 (by omega)
      have c2 := cx 2 (by omega)
      simp only [cellsK, Nat.add_zero] at c0 c1 c2
      have htk := fnd_take (n := nn) (lo := lo) (hi := hi) ks i hlt
      have HT := Lib.hid htk
      have cl := rL.cell
      obtain ⟨k0, k9, k5, k12⟩ := k_bd ks[i]
      have hdv := fun W => Away_c nn (kL ks[i]) (kG ks[i]) (kH ks[i]) W hnn k5 k12 k0 k9
      have hD1 : hasD nn lo hi ks[i] = decide (dLow nn (kH ks[i]) (kL ks[i]) (kG ks[i]) = lo ∧ dHigh nn (kH ks[i]) (kL ks[i]) (kG ks[i]) = hi) := rfl
      have hck : cellsK ks[i] = [.bool (kH ks[i]), .int .i64 (kL ks[i]), .int .i64 (kG ks[i])] := rfl
      have HD := Lib.hid hD1
      have HK := Lib.hid hck
      have HG := Lib.hid hcg
      have hgr : g < wr.heap.size := by omega
      have hlr : w.heap.size < wr.heap.size := rL.lt
      clear cx htk hD1 hck k0 k9 k5 k12 hcg
      generalize dLow nn (kH ks[i]) (kL ks[i]) (kG ks[i]) = da at *
      generalize dHigh nn (kH ks[i]) (kL ks[i]) (kG ks[i]) = db at *
      generalize kH ks[i] = xh at *
      generalize kL ks[i] = xl at *
      generalize kG ks[i] = xg at *
      have HV := Lib.hid hdv
      clear hdv
      have hlf : (fndK nn lo hi (ks.take i)).length ≤ i := by
        have := List.length_filter_le (hasD nn lo hi) (ks.take i)
        rw [List.length_take] at this
        unfold fndK; omega
      by_cases h1 : da = lo ∧ db = hi
      · have hh : hasD nn lo hi ks[i] = true := by rw [HD.out]; simpa using h1
        obtain ⟨h1a, h1b⟩ := h1
        have h1a := h1a.symm
        have h1b := h1b.symm
        subst h1a h1b
        have HH := Lib.hid hh
        clear hh
        go_wp2_with fail
        go_region_held3 (fun w' => Below wr.heap.size wr w' ∧ w'.cell? ⟨g, i * 3, none⟩ = some (.bool xh) ∧ w'.cell? ⟨g, i * 3 + 1, none⟩ = some (.int .i64 xl) ∧ w'.cell? ⟨g, i * 3 + 2, none⟩ = some (.int .i64 xg) ∧ (∀ j : Nat, w'.cell? ⟨w.heap.size, j, none⟩ = (#[.int .i64 lo, .int .i64 hi] : Array Value)[j]?))
          (first | exact ⟨Below.refl _ _, c0, c1, c2, cl⟩ | exact ⟨(Below.refl _ _).drew, c0, c1, c2, cl⟩ | (refine k5_drew ?_; assumption) | (refine k5_call ?_ hbb hgr hlr; assumption) | (refine k5_call (k5_drew ?_) hbb hgr hlr; assumption))
          (first | (go_at_call 44; refine (HV.out _).mono ?_; rintro e w' ⟨rfl, hbb⟩))
        all_goals
          rename_i hHeld
          have hbW := hHeld.1
          have hr2 := hr.kept (grown_below hbW) (by cases u8.ownBlock <;> simp)
          have rL2 := rL.next hbW
          have hb3 := hb.trans (hbW.mono hb.size)
          have hsz2 := hbW.size
          have hsz0 := hb2.size
          go_wp2_with (at_builtin; refine wpList_append_own _ rfl _ _ 28 rfl w2.heap.size 47 i0 (.agg #[.bool false, .int .i64 0, .int .i64 0]) 3 24 Tryz.underlying28 hi0 hz0 hz1 hz2 rfl (by decide) _ _ _ rfl (hr2.alloc _) ⟨w'.heap.size, 0, none⟩ 1 1 [.bool xh, .int .i64 xl, .int .i64 xg] rfl rfl (cells3_new _ _ _ _ _) (by simp [Value.oneCell']) (by unfold maxLen; omega) (by omega) (by simp; omega) ?_; intro v1 w1 hown1 hgrow1 _)
          go_roundw
          case rel =>
            refine ⟨i + 1, by omega, by go_num, ?_, (rL2.alloc _).kept hgrow1 (fun e => own_type hr2 (by decide) _ e.symm _ rL2), (hb3.alloc hb3.size _).grown hgrow1 (by simp; omega) (fun j e => by have := own_base hr2 j e; omega), fun o => ?_, by have := hgrow1.size; simp at this; omega⟩
            · rw [HT.out, if_pos HH.out, List.length_append, List.flatMap_append, List.flatMap_cons, List.flatMap_nil, List.append_nil, HK.out]
              exact hown1
            · refine (World.cell?_of_block (a := ⟨g, o, none⟩) (hgrow1.block g (by simp; omega) (fun e => by have := own_base hr2 g e.symm; omega))).trans ?_
              refine (World.cell?_of_block (a := ⟨g, o, none⟩) (Below.heap_alloc w' _ g (by omega))).trans ?_
              exact (hbW.cell (p := ⟨g, o, none⟩) hgr).trans (HG.out o)
          case measure => simp [intOf]; omega
      · have hh : hasD nn lo hi ks[i] = false := by rw [HD.out]; simpa using h1
        have HH := Lib.hid hh
        clear hh
        have h2 : da ≠ lo ∨ db ≠ hi := by
          by_cases a : da = lo
          · exact .inr fun b => h1 ⟨a, b⟩
          · exact .inl a
        clear h1
        rcases h2 with h2 | h2
        · go_wp2_with fail
          go_region_held3 (fun w' => Below wr.heap.size wr w' ∧ w'.cell? ⟨g, i * 3, none⟩ = some (.bool xh) ∧ w'.cell? ⟨g, i * 3 + 1, none⟩ = some (.int .i64 xl) ∧ w'.cell? ⟨g, i * 3 + 2, none⟩ = some (.int .i64 xg) ∧ (∀ j : Nat, w'.cell? ⟨w.heap.size, j, none⟩ = (#[.int .i64 lo, .int .i64 hi] : Array Value)[j]?))
            (first | exact ⟨Below.refl _ _, c0, c1, c2, cl⟩ | exact ⟨(Below.refl _ _).drew, c0, c1, c2, cl⟩ | (refine k5_drew ?_; assumption) | (refine k5_call ?_ hbb hgr hlr; assumption) | (refine k5_call (k5_drew ?_) hbb hgr hlr; assumption))
            (first | (go_at_call 44; refine (HV.out _).mono ?_; rintro e w' ⟨rfl, hbb⟩))
          all_goals
            rename_i hHeld
            have hbW := hHeld.1
            have hr2 := hr.kept (grown_below hbW) (by cases u8.ownBlock <;> simp)
            have rL2 := rL.next hbW
            have hb3 := hb.trans (hbW.mono hb.size)
            have hsz2 := hbW.size
            have hsz0 := hb2.size
            go_wp2
            go_roundw
            case rel =>
              refine ⟨i + 1, by omega, by go_num, ?_, rL2, hb3, fun o => (hbW.cell (p := ⟨g, o, none⟩) hgr).trans (HG.out o), by omega⟩
              rw [HT.out, if_neg (by rw [HH.out]; decide), List.append_nil]
              exact hr2
            case measure => simp [intOf]; omega
        · go_wp2_with fail
          go_region_held3 (fun w' => Below wr.heap.size wr w' ∧ w'.cell? ⟨g, i * 3, none⟩ = some (.bool xh) ∧ w'.cell? ⟨g, i * 3 + 1, none⟩ = some (.int .i64 xl) ∧ w'.cell? ⟨g, i * 3 + 2, none⟩ = some (.int .i64 xg) ∧ (∀ j : Nat, w'.cell? ⟨w.heap.size, j, none⟩ = (#[.int .i64 lo, .int .i64 hi] : Array Value)[j]?))
            (first | exact ⟨Below.refl _ _, c0, c1, c2, cl⟩ | exact ⟨(Below.refl _ _).drew, c0, c1, c2, cl⟩ | (refine k5_drew ?_; assumption) | (refine k5_call ?_ hbb hgr hlr; assumption) | (refine k5_call (k5_drew ?_) hbb hgr hlr; assumption))
            (first | (go_at_call 44; refine (HV.out _).mono ?_; rintro e w' ⟨rfl, hbb⟩))
          all_goals
            rename_i hHeld
            have hbW := hHeld.1
            have hr2 := hr.kept (grown_below hbW) (by cases u8.ownBlock <;> simp)
            have rL2 := rL.next hbW
            have hb3 := hb.trans (hbW.mono hb.size)
            have hsz2 := hbW.size
            have hsz0 := hb2.size
            go_wp2
            go_roundw
            case rel =>
              refine ⟨i + 1, by omega, by go_num, ?_, rL2, hb3, fun o => (hbW.cell (p := ⟨g, o, none⟩) hgr).trans (HG.out o), by omega⟩
              rw [HT.out, if_neg (by rw [HH.out]; decide), List.append_nil]
              exact hr2
            case measure => simp [intOf]; omega
    · obtain rfl : i = ks.length := by omega
      rw [List.take_length] at hr
      have hfin := ownsRow_less hr hb2.size
      go_wp2
      go_ret2
      exact ⟨u8, rfl, by rw [HKS.out]; exact hfin, hb⟩
end Go.Proofs.YtldghloflegpmaaGreatDoor

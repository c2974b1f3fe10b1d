/- Contracts for lists of classes: own (law 15), the reference's All, Find, Same. -/
import Derived.Test.YtldghloflegpmaaGreatDoorIx
import Derived.Test.YtldghloflegpmaaGreatDoorRfC
import Derived.OwnWalk
namespace Go.Proofs.YtldghloflegpmaaGreatDoor
open Go.RowKit Pu Go.Lib

theorem infoR : (Tryz.prog.info? 47).map (fun i => (i.zero, i.size, i.bytes)) = some (some (.agg #[.bool false, .int .i64 0, .int .i64 0]), 3, 24) := by kernel_rfl
theorem take_cells (ks : List (Fin 160)) (i : Nat) (hi : i < ks.length) : (ks.take (i + 1)).flatMap cellsK = (ks.take i).flatMap cellsK ++ [.bool (kH ks[i]), .int .i64 (kL ks[i]), .int .i64 (kG ks[i])] := by
  rw [List.take_succ_eq_append_getElem hi, List.flatMap_append]
  rfl

theorem own_base {W : World} {n₀ : Nat} {e : TypeId} {size : Nat} {v : Value} {k : Nat} {xs : List Value} (h : W.ownsRow n₀ e size v k xs) : ∀ j, v.ownBlock = some j → n₀ ≤ j := by
  intro j hj
  rcases h.2 with ⟨rfl, _⟩ | ⟨g, cap, cur, rfl, hb, _⟩
  · simp [Value.ownBlock] at hj
  · obtain rfl : g = j := by simpa [Value.ownBlock] using hj
    exact hb
set_option maxRecDepth 100000 in
set_option maxHeartbeats 4000000 in
theorem own_c (B g cap : Nat) (ks : List (Fin 160)) (w : World) (hlen : ks.length ≤ 160)
    (ho : w.ownsRow B 40 3 (.slice (some ⟨g, 0, none⟩) ks.length cap) ks.length (ks.flatMap cellsK)) (hg : g < w.heap.size) :
    Calls Tryz.prog 18 #[.slice (some ⟨g, 0, none⟩) ks.length cap] w
      fun e w' => ∃ v, e = .returned v ∧ w'.ownsRow w.heap.size 47 3 v ks.length (ks.flatMap cellsK) ∧ Below w.heap.size w w' := by
  obtain ⟨i0, hi0, hz0, hz1, hz2⟩ := info_parts infoR
  have hn1 : (ks.length : Int) ≤ 160 := by omega
  go_enter Tryz.func18, Tryz.ntmps18
  go_wp2_with fail
  go_loopw [3, 8] (fun v p wr => ∃ i : Nat, i ≤ ks.length ∧ p = .int .i64 (i : Int) ∧ wr.ownsRow w.heap.size 47 3 v i ((ks.take i).flatMap cellsK) ∧ Below w.heap.size w wr) (fun _ p _ => ks.length - (intOf p).toNat)
  case atStart => exact ⟨0, by omega, rfl, World.ownsRow_nil _ _ _ _, Below.refl _ _⟩
  case round =>
    obtain ⟨i, hi, rfl, hr, hb⟩ := hrel
    by_cases hlt : i < ks.length
    · have cx : ∀ j, j < 3 → wr.cell? ⟨g, i * 3 + j, none⟩ = (cellsK ks[i])[j]? := fun j hj =>
        (hb.cell (p := ⟨g, i * 3 + j, none⟩) hg).trans (own_cells ho i hlt j hj)
      have c0 := cx 0 (by omega)
      have c1 := cx 1 (by omega)
      have c2 := cx 2 (by omega)
      simp only [cellsK, Nat.add_zero] at c0 c1 c2
      have htk := take_cells ks i hlt
      have HT := Lib.hid htk
      clear cx htk
      generalize kH ks[i] = xh at *
      generalize kL ks[i] = xl at *
      generalize kG ks[i] = xg at *
      have hsz := hb.size
      have hcs := cells3_new (wr.alloc (.cells #[.bool xh, .int .i64 xl, .int .i64 xg] 40)) (.bool xh) (.int .i64 xl) (.int .i64 xg) 47
      rw [World.size_alloc] at hcs
      have HCS := Lib.hid hcs
      clear hcs
      go_wp2_with (at_builtin; refine wpList_append_own _ rfl _ _ 28 rfl w.heap.size 47 i0 (.agg #[.bool false, .int .i64 0, .int .i64 0]) 3 24 Tryz.underlying28 hi0 hz0 hz1 hz2 rfl (by decide) _ _ _ rfl ((hr.alloc _).alloc _) ⟨wr.heap.size + 1, 0, none⟩ 1 1 [.bool xh, .int .i64 xl, .int .i64 xg] rfl rfl HCS.out (by simp [Value.oneCell']) (by unfold maxLen; omega) (by omega) (by simp; omega) ?_; intro v1 w1 hown1 hgrow1 _)
      go_roundw
      case rel => exact ⟨i + 1, by omega, by go_num, by rw [HT.out]; exact hown1, ((hb.alloc hsz _).alloc (by simp; omega) _).grown hgrow1 (by simp; omega) (own_base hr)⟩
      case measure => simp [intOf]; omega
    · obtain rfl : i = ks.length := by omega
      rw [List.take_length] at hr
      go_wp2
      go_ret
      exact ⟨_, rfl, hr, hb⟩
end Go.Proofs.YtldghloflegpmaaGreatDoor

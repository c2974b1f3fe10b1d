/- The package variables that the walks read: kept by every call. -/
import Derived.Test.YtldghloflegpmaaGreatDoorPaB
import Derived.Test.YtldghloflegpmaaGreatDoorSh2
import Derived.Test.YtldghloflegpmaaGreatDoorShl
import Derived.Test.YtldghloflegpmaaGreatDoorPuN
namespace Go.Proofs.YtldghloflegpmaaGreatDoor
open Go.RowKit Go.Shelf Pu Go.Lib

theorem var?_next {P : Program} {W W' : World} {n : String} {cs : Array Value} (h : Below W.heap.size W W') (hg : (P.globalNamed n).isSome = true) (hv : W.var? P n = some cs) : W'.var? P n = some cs := by
  obtain ⟨g, hg⟩ := Option.isSome_iff_exists.1 hg
  have hlt : g < W.heap.size := by
    rcases Nat.lt_or_ge g W.heap.size with h1 | h1
    · exact h1
    · unfold World.var? at hv
      simp only [hg, Option.bind_some] at hv
      rw [Array.getElem?_eq_none h1] at hv
      cases hv
  unfold World.var? at hv ⊢
  simp only [hg, Option.bind_some] at hv ⊢
  rw [h.block g hlt]
  exact hv
theorem cell?_next {W W' : World} {g : Nat} {v : Value} (h : Below W.heap.size W W') (hv : W.cell? ⟨g, 0, none⟩ = some v) : W'.cell? ⟨g, 0, none⟩ = some v := by
  have hlt : g < W.heap.size := by
    rcases Nat.lt_or_ge g W.heap.size with h1 | h1
    · exact h1
    · unfold World.cell? at hv
      simp only [Array.getElem?_eq_none h1] at hv
      cases hv
  unfold World.cell? at hv ⊢
  simp only [h.block g hlt]
  exact hv
/-- The variables stand as the program's start left them. -/
structure Gw0 (w : World) : Prop where
  most : ∃ m, w.cell? ⟨Tryz.lays145_ren.g 1, 0, none⟩ = some (.int .i64 m)
  tab : Lib.TabIs Tryz.prog w "internal/strconv.uint64pow10" .u64 Lib.pow10Tab
  err : ∃ tp p, w.var? Tryz.prog "strconv.ErrSyntax" = some #[.iface tp p]
def Gw (w : World) : Prop := ∃ W : World, Gw0 W ∧ Below W.heap.size W w
theorem Gw.of {w : World} (h : Gw0 w) : Gw w := ⟨w, h, Below.refl _ _⟩
theorem Gw.next {w w' : World} (h : Gw w) (hb : Below w.heap.size w w') : Gw w' := by
  obtain ⟨W, h1, h2⟩ := h
  exact ⟨W, h1, h2.trans (hb.mono h2.size)⟩
theorem Gw.alloc {w : World} (h : Gw w) (o : Obj) : Gw (w.alloc o) := h.next ((Below.refl _ w).alloc (Nat.le_refl _) o)
theorem Gw.most {w : World} (h : Gw w) : ∃ m, w.cell? ⟨0, 0, none⟩ = some (.int .i64 m) := by
  obtain ⟨W, ⟨⟨m, hm⟩, _, _⟩, h2⟩ := h
  exact ⟨m, cell?_next h2 hm⟩
theorem Gw.tab {w : World} (h : Gw w) : Lib.TabIs Tryz.prog w "internal/strconv.uint64pow10" .u64 Lib.pow10Tab := by
  obtain ⟨W, ⟨_, ht, _⟩, h2⟩ := h
  exact var?_next h2 (by kernel_rfl) ht
theorem Gw.err {w : World} (h : Gw w) : ∃ tp p, w.var? Tryz.prog "strconv.ErrSyntax" = some #[.iface tp p] := by
  obtain ⟨W, ⟨_, _, ⟨tp, p, he⟩⟩, h2⟩ := h
  exact ⟨tp, p, var?_next h2 (by kernel_rfl) he⟩

/-- A short number's text, and what a walk asks of it. -/
structure Num (s : ByteArray) (u : Nat) : Prop where
  text : s = nT u
  lt : u < 1000000000
  pos : 0 < s.size
  short : s.size ≤ 9
  pre : (⟨(Lib.trimPrefix s.data.toList [45]).toArray⟩ : ByteArray) = s
  dig : Lib.trimS s.data.toList digC = []
  at0 : ∀ h : 0 < s.size, (s[0]'h).toNat = 48 → s = ⟨#[48]⟩
  read : Lib.atoi s.data.toList = some (u : Int)
theorem Num.of {u : Nat} (h : u < 1000000000) : Num (nT u) u where
  text := rfl
  lt := h
  pos := nT_pos u
  short := nT_size_le (k := 8) h
  pre := by
    show (⟨(Lib.trimPrefix (Lib.decDigits u) [45]).toArray⟩ : ByteArray) = nT u
    have : Lib.hasPrefix (Lib.decDigits u) [45] = false := by
      unfold Lib.hasPrefix
      cases hd : Lib.decDigits u with
      | nil => rfl
      | cons x r =>
        have := dD_dig u x (by rw [hd]; simp)
        have hx : (45 == x) = false := by
          simp only [beq_eq_false_iff_ne, ne_eq]
          intro e; rw [← e] at this; simp at this
        simp [List.isPrefixOf, hx]
    unfold Lib.trimPrefix
    rw [this]
    rfl
  dig := dD_trim u
  at0 := fun hs h0 => by
    by_cases hu : u = 0
    · subst hu; exact nT_zero
    · exfalso
      have := dD_head hu
      apply this
      rw [← nT_list u, headD_get _ hs]; exact h0
  read := dD_atoi u
theorem Num.list {s : ByteArray} {u : Nat} (h : Num s u) : s.toList = Lib.decDigits u := by rw [ByteArray.toList_eq, h.text]; rfl
theorem Num.ne {s : ByteArray} {u : Nat} (h : Num s u) : ¬ s.toList = [] := by rw [h.list]; exact dD_ne u
theorem Num.ie {s : ByteArray} {u : Nat} (h : Num s u) : s.toList.isEmpty = false := by
  have := h.ne
  cases hd : s.toList with
  | nil => exact absurd hd this
  | cons x r => rfl
theorem Num.zero {s : ByteArray} {u : Nat} (h : Num s u) : s.toList = [48] ↔ u = 0 := by
  rw [h.list]
  constructor
  · intro e; exact dD_inj (e.trans dD_zero.symm)
  · rintro rfl; exact dD_zero
theorem dD_one : Lib.decDigits 1 = [49] := by rw [Lib.decDigits_one (by omega)]; rfl
theorem Num.one {s : ByteArray} {u : Nat} (h : Num s u) : s.toList = [49] ↔ u = 1 := by
  rw [h.list]
  constructor
  · intro e; exact dD_inj (e.trans dD_one.symm)
  · rintro rfl; exact dD_one
end Go.Proofs.YtldghloflegpmaaGreatDoor

/- Boxes: blocks of cells that are known and stay. -/
import Derived.Test.YtkomooeohlcnaaaOpen
import Derived.Laws.NewBlocks
import Derived.OwnWalk
namespace Go.Proofs.Ytkomooeohlcnaaa
set_option linter.unusedSimpArgs false
set_option linter.unusedVariables false
open Go.RowKit
/-- block b holds the cells cs -/
structure Has (W : World) (b : Nat) (cs : List Value) : Prop where
  lt : b < W.heap.size
  cell : ∀ i v, cs[i]? = some v → W.cell? ⟨b, i, none⟩ = some v
  fr : ∀ o, W.frozen? ⟨b, o, none⟩ = false
theorem blk_fr (w : World) (cs : Array Value) (t : TypeId) (i : Nat) : (w.alloc (.cells cs t)).frozen? ⟨w.heap.size, i, none⟩ = false := frozen_of_row _ _ _ _ _ (heap_alloc_new w _)
theorem Has.below {W W' : World} {b : Nat} {cs : List Value} (h : Has W b cs) (hb : Below W.heap.size W W') : Has W' b cs :=
  ⟨Nat.lt_of_lt_of_le h.lt hb.size, fun i v hv => (hb.cell (p := ⟨b, i, none⟩) h.lt).trans (h.cell i v hv), fun o => (hb.frozen (p := ⟨b, o, none⟩) h.lt).trans (h.fr o)⟩
theorem Has.new (w : World) (X : Array Value) (t : TypeId) : Has (w.alloc (.cells X t)) w.heap.size X.toList :=
  ⟨by simp, fun i v hv => by rw [World.cell?_alloc_new, ← Array.getElem?_toList]; exact hv, blk_fr w X t⟩
theorem Has.alloc {W : World} {b : Nat} {cs : List Value} (h : Has W b cs) (o : Obj) : Has (W.alloc o) b cs := h.below ((Below.refl _ _).alloc (Nat.le_refl _) _)
theorem Has.newAt (w : World) (X : Array Value) (t : TypeId) (b : Nat) (hb : w.heap.size = b) : Has (w.alloc (.cells X t)) b X.toList := hb ▸ Has.new w X t
theorem Has.set {W : World} {b : Nat} {cs : List Value} (h : Has W b cs) (i : Nat) (v : Value) (hi : i < cs.length) : Has (W.setCell ⟨b, i, none⟩ v) b (cs.set i v) := by
  refine ⟨by simpa [World.setCell] using h.lt, fun j u hu => ?_, fun o => by rw [World.frozen?_setCell]; exact h.fr o⟩
  by_cases hj : i = j
  · subst hj
    rw [List.getElem?_set_self hi] at hu
    injection hu with hu
    subst hu
    exact World.cell?_setCell_same _ ⟨b, i, none⟩ _ (h.cell i _ (List.getElem?_eq_getElem hi))
  · rw [List.getElem?_set_ne hj] at hu
    rw [World.cell?_setCell_other _ ⟨b, i, none⟩ ⟨b, j, none⟩ _ (by intro e; injection e with _ e; omega)]
    exact h.cell j u hu
theorem Has.other {W : World} {b : Nat} {cs : List Value} (h : Has W b cs) (c i : Nat) (v : Value) (hc : b ≠ c) : Has (W.setCell ⟨c, i, none⟩ v) b cs :=
  ⟨by simpa [World.setCell] using h.lt, fun j u hu => by
    rw [World.cell?_setCell_other _ ⟨c, i, none⟩ ⟨b, j, none⟩ _ (by intro e; injection e with e _; omega)]
    exact h.cell j u hu, fun o => by rw [World.frozen?_setCell]; exact h.fr o⟩
theorem Has.drew {W : World} {b : Nat} {cs : List Value} (h : Has W b cs) : Has W.drew b cs := ⟨h.lt, fun i v hv => by rw [World.cell?_drew]; exact h.cell i v hv, h.fr⟩
theorem below_alloc1 (w : World) (o : Obj) : Below w.heap.size w (w.alloc o) := (Below.refl _ _).alloc (Nat.le_refl _) _
theorem below_alloc2 (w : World) (o p : Obj) : Below w.heap.size w ((w.alloc o).alloc p) := (below_alloc1 w o).alloc (by simp) _
theorem below_alloc3 (w : World) (o p q : Obj) : Below w.heap.size w (((w.alloc o).alloc p).alloc q) := (below_alloc2 w o p).alloc (by simp; omega) _
theorem below_alloc4 (w : World) (o p q r : Obj) : Below w.heap.size w ((((w.alloc o).alloc p).alloc q).alloc r) := (below_alloc3 w o p q).alloc (by simp; omega) _
theorem bel_alloc1 {w W : World} (h : Below w.heap.size w W) (o : Obj) : Below w.heap.size w (W.alloc o) := h.alloc h.size _
end Go.Proofs.Ytkomooeohlcnaaa

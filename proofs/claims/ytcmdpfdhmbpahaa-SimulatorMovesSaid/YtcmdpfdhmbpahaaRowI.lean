/- A row of integers of the call's own, filled in place. -/
import Derived.Test.YtcmdpfdhmbpahaaBox
import Derived.Deep.OwnRows
namespace Go.Proofs.Ytcmdpfdhmbpahaa
set_option linter.unusedSimpArgs false
set_option linter.unusedVariables false
open Go.RowKit

/-- n integers in block g, at or above the start of the world w0 -/
structure RowI (w0 : World) (g n : Nat) (F : Nat → Int) (w : World) : Prop where
  cell : ∀ j, j < n → w.cell? ⟨g, j, none⟩ = some (.int .i64 (F j))
  fr : ∀ o, w.frozen? ⟨g, o, none⟩ = false
  lt : g < w.heap.size
  ge : w0.heap.size ≤ g
  bel : Below w0.heap.size w0 w
theorem RowI.drew {w0 w : World} {g n : Nat} {F : Nat → Int} (h : RowI w0 g n F w) : RowI w0 g n F w.drew := ⟨h.cell, h.fr, h.lt, h.ge, h.bel.drew⟩
theorem RowI.below {w0 w w' : World} {g n : Nat} {F : Nat → Int} (h : RowI w0 g n F w) (hb : Below w.heap.size w w') : RowI w0 g n F w' :=
  ⟨fun j hj => (hb.cell (p := ⟨g, j, none⟩) h.lt).trans (h.cell j hj), fun o => (hb.frozen (p := ⟨g, o, none⟩) h.lt).trans (h.fr o), Nat.lt_of_lt_of_le h.lt hb.size, h.ge, bel_trans h.bel hb⟩
theorem RowI.alloc {w0 w : World} {g n : Nat} {F : Nat → Int} (h : RowI w0 g n F w) (o : Obj) : RowI w0 g n F (w.alloc o) := h.below ((Below.refl _ w).alloc (Nat.le_refl _) _)
theorem RowI.made {w0 w : World} (n : Nat) (hb : Below w0.heap.size w0 w) (t : TypeId) : RowI w0 w.heap.size n (fun _ => 0) (w.alloc (.cells (madeCells #[.int .i64 0] n) t)) :=
  ⟨fun j hj => by rw [World.cell?_alloc_new, ← Array.getElem?_toList, toList_madeCells_one, List.getElem?_replicate, if_pos hj], fun o => blk_fr w _ _ o, by simp, hb.size, hb.alloc hb.size _⟩
def upd (F : Nat → Int) (k : Nat) (v : Int) : Nat → Int := fun j => if j = k then v else F j
theorem RowI.set {w0 w : World} {g n k : Nat} {F : Nat → Int} (h : RowI w0 g n F w) (hk : k < n) (v : Int) : RowI w0 g n (upd F k v) (w.setCell ⟨g, k, none⟩ (.int .i64 v)) := by
  refine ⟨fun j hj => ?_, fun o => by rw [World.frozen?_setCell]; exact h.fr o, by simpa [World.setCell] using h.lt, h.ge, h.bel.setCell (p := ⟨g, k, none⟩) h.ge _⟩
  by_cases hjk : j = k
  · subst hjk
    rw [World.cell?_setCell_same w ⟨g, j, none⟩ _ (h.cell j hj)]
    unfold upd
    rw [if_pos rfl]
  · rw [World.cell?_setCell_other w ⟨g, k, none⟩ ⟨g, j, none⟩ _ (by intro e; injection e with _ e; omega), h.cell j hj]
    unfold upd
    rw [if_neg hjk]
theorem RowI.congr {w0 w : World} {g n : Nat} {F G : Nat → Int} (h : RowI w0 g n F w) (hfg : ∀ j, j < n → F j = G j) : RowI w0 g n G w :=
  ⟨fun j hj => by rw [← hfg j hj]; exact h.cell j hj, h.fr, h.lt, h.ge, h.bel⟩
/-- the first k of a list, then zeros -/
def fillF (l : List Int) (k : Nat) : Nat → Int := fun j => if j < k then l.getD j 0 else 0
theorem fillF_zero (l : List Int) (j : Nat) : 0 = fillF l 0 j := by unfold fillF; rw [if_neg (by omega)]
theorem fillF_step {l : List Int} {k : Nat} {x : Int} (h : l[k]? = some x) (j : Nat) : upd (fillF l k) k x j = fillF l (k + 1) j := by
  unfold upd fillF
  by_cases e : j = k
  · subst e
    rw [if_pos rfl, if_pos (by omega), List.getD_eq_getElem?_getD, h]; rfl
  · rw [if_neg e]
    by_cases e2 : j < k
    · rw [if_pos e2, if_pos (by omega)]
    · rw [if_neg e2, if_neg (by omega)]
theorem RowI.ints {w0 w : World} {g n : Nat} {l : List Int} (hl : l.length = n) (h : RowI w0 g n (fillF l n) w) : Ints w (some ⟨g, 0, none⟩) n l := by
  refine ⟨hl, fun _ => ⟨g, 0, rfl, h.lt, fun k v hk => ?_⟩⟩
  have hkn : k < n := by rw [← hl]; exact (List.getElem?_eq_some_iff.1 hk).1
  rw [Nat.zero_add, h.cell k hkn]
  unfold fillF
  rw [if_pos hkn, List.getD_eq_getElem?_getD, hk]; rfl
end Go.Proofs.Ytcmdpfdhmbpahaa

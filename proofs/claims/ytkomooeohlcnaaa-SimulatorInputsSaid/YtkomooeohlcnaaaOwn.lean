/- A list that a call builds by append: a row of its own, or nil. -/
import Derived.Test.YtkomooeohlcnaaaMem
import Derived.Test.YtkomooeohlcnaaaOpen
namespace Go.Proofs.Ytkomooeohlcnaaa
set_option linter.unusedSimpArgs false
set_option linter.unusedVariables false
open Go.RowKit

structure Own {α : Type} (f : α → List Value) (sz : Nat) (e : TypeId) (w : World) (l : List α) (v : Value) (wr : World) : Prop where
  own : wr.ownsRow w.heap.size e sz v l.length (l.flatMap f)
  bel : Below w.heap.size w wr
section
variable {α : Type} {f : α → List Value} {sz : Nat} {e : TypeId} {w wr w1 : World} {l : List α} {v v1 : Value}
theorem Own.start (f : α → List Value) (sz : Nat) (e : TypeId) (w : World) : Own f sz e w [] (.slice none 0 0) w := ⟨World.ownsRow_nil _ _ _ _, Below.refl _ _⟩
theorem Own.start' (f : α → List Value) (sz : Nat) (e : TypeId) (w : World) (hb : Below w.heap.size w wr) : Own f sz e w [] (.slice none 0 0) wr := ⟨World.ownsRow_nil _ _ _ _, hb⟩
theorem Own.below (h : Own f sz e w l v wr) (hb : Below wr.heap.size wr w1) : Own f sz e w l v w1 :=
  ⟨h.own.kept (row := none) ⟨hb.os, hb.tape, hb.output, hb.size, fun k hk _ => hb.block k hk⟩ (by cases v.ownBlock <;> simp), bel_trans h.bel hb⟩
theorem Own.next (h : Own f sz e w l v wr) {o : Obj} {x : α} (hown : w1.ownsRow w.heap.size e sz v1 (l.length + 1) (l.flatMap f ++ f x)) (hg : (wr.alloc o).grownBy w1 v.ownBlock) : Own f sz e w (l ++ [x]) v1 w1 :=
  ⟨by rw [List.length_append, List.flatMap_append]; simpa using hown, (h.bel.alloc h.bel.size _).grown hg (by have := h.bel.size; simp; omega) (own_block_ge h.own)⟩
theorem Own.cap {n : Nat} (h : Own f sz e w l v wr) (hl : l.length = n) : ∃ A c, v = .slice A n c ∧ CapOk A n c := by
  subst hl
  rcases h.own.2 with ⟨rfl, h0⟩ | ⟨g, cap, cur, rfl, _, _, hnc, hm, _⟩
  · exact ⟨none, 0, by rw [h0], by omega, Nat.zero_le _, fun _ => rfl⟩
  · exact ⟨_, _, rfl, hnc, hm, fun h => by cases h⟩
theorem Own.res {n : Nat} (hf : ∀ x, (f x).length = sz) (h : Own f sz e w l v wr) (hl : l.length = n) : ∃ A c, v = .slice A n c ∧ Recs f sz wr A n l ∧ CapOk A n c := by
  obtain ⟨A, c, rfl, hc⟩ := h.cap hl
  subst hl
  exact ⟨A, c, rfl, Recs.of_own hf rfl h.own, hc⟩
end
def oneI (x : Int) : List Value := [.int .i64 x]
theorem Own.ints {n : Nat} {e : TypeId} {w wr : World} {l : List Int} {v : Value} (h : Own oneI 1 e w l v wr) (hl : l.length = n) : ∃ A c, v = .slice A n c ∧ Ints wr A n l ∧ CapOk A n c := by
  obtain ⟨A, c, h1, h2, h3⟩ := Own.res (f := oneI) (fun _ => rfl) h hl
  exact ⟨A, c, h1, ints_of_recs h2, h3⟩
end Go.Proofs.Ytkomooeohlcnaaa

/- Boxes and lists that grow beside each other. -/
import Derived.Test.YtkomooeohlcnaaaBox
import Derived.Test.YtkomooeohlcnaaaOwn
import Derived.Maps.AppendAt
namespace Go.Proofs.Ytkomooeohlcnaaa
set_option linter.unusedSimpArgs false
set_option linter.unusedVariables false
open Go.RowKit
theorem Has.grown {W W1 : World} {b : Nat} {cs : List Value} {row : Option Nat} (h : Has W b cs) (hg : W.grownBy W1 row) (hne : some b ≠ row) : Has W1 b cs :=
  ⟨Nat.lt_of_lt_of_le h.lt hg.size, fun i v hv => (World.cell?_of_block (a := ⟨b, i, none⟩) (hg.block b h.lt hne)).trans (h.cell i v hv), fun o => (World.frozen?_of_block (a := ⟨b, o, none⟩) (hg.block b h.lt hne)).trans (h.fr o)⟩
theorem grown_of_below {W W1 : World} (h : Below W.heap.size W W1) (row : Option Nat) : W.grownBy W1 row := ⟨h.os, h.tape, h.output, h.size, fun k hk _ => h.block k hk⟩
theorem grown_set (W : World) (p : Addr) (v : Value) : W.grownBy (W.setCell p v) (some p.block) :=
  have h := (Below.refl p.block W).setCell (p := p) (Nat.le_refl _) v
  ⟨h.os, h.tape, h.output, h.size, fun k hk hne => by
    have hk2 : p.block ≠ k := fun e => hne (by rw [e])
    simp [World.setCell, Array.getElem?_modify, hk2]⟩
/-- a list that lies in a row of its own, at N or behind it -/
structure Ow {α : Type} (f : α → List Value) (sz : Nat) (e : TypeId) (N : Nat) (l : List α) (v : Value) (wr : World) : Prop where
  own : wr.ownsRow N e sz v l.length (l.flatMap f)
section
variable {α : Type} {f : α → List Value} {sz : Nat} {e : TypeId} {N : Nat} {l : List α} {v v1 : Value} {wr w1 : World}
theorem Ow.start (f : α → List Value) (sz : Nat) (e : TypeId) (N : Nat) (w : World) : Ow f sz e N [] (.slice none 0 0) w := ⟨World.ownsRow_nil _ _ _ _⟩
theorem Ow.lt (h : Ow f sz e N l v wr) {k : Nat} (hk : v.ownBlock = some k) : N ≤ k ∧ k < wr.heap.size := h.own.lt k hk
theorem Ow.grown {row : Option Nat} (h : Ow f sz e N l v wr) (hg : wr.grownBy w1 row) (hne : v.ownBlock = none ∨ v.ownBlock ≠ row) : Ow f sz e N l v w1 := ⟨h.own.kept hg hne⟩
theorem Ow.below (h : Ow f sz e N l v wr) (hb : Below wr.heap.size wr w1) : Ow f sz e N l v w1 := h.grown (grown_of_below hb none) (by cases v.ownBlock <;> simp)
theorem Ow.set (h : Ow f sz e N l v wr) (p : Addr) (x : Value) (hp : p.block < N) : Ow f sz e N l v (wr.setCell p x) := h.grown (grown_set wr p x) (by
  cases hv : v.ownBlock with
  | none => exact .inl rfl
  | some k => refine .inr fun e => ?_; have := (h.lt hv).1; injection e with e; omega)
theorem Ow.next {x : α} (hown : w1.ownsRow N e sz v1 (l.length + 1) (l.flatMap f ++ f x)) : Ow f sz e N (l ++ [x]) v1 w1 :=
  ⟨by rw [List.length_append, List.flatMap_append]; simpa using hown⟩
theorem Ow.res {n : Nat} (hf : ∀ x, (f x).length = sz) (h : Ow f sz e N l v wr) (hl : l.length = n) : ∃ A c, v = .slice A n c ∧ Recs f sz wr A n l ∧ CapOk A n c := by
  subst hl
  have ho := h.own
  rcases h.own.2 with ⟨rfl, h0⟩ | ⟨g, cap, cur, rfl, _, _, hnc, hm, _⟩
  · have h1 : l = [] := List.length_eq_zero_iff.1 h0
    subst h1
    exact ⟨none, 0, rfl, Recs.nil f sz wr, Nat.le_refl _, Nat.zero_le _, fun _ => rfl⟩
  · exact ⟨_, _, rfl, Recs.of_own hf rfl ho, hnc, hm, fun h => by cases h⟩
theorem Ow.ints {n : Nat} {e : TypeId} {N : Nat} {wr : World} {l : List Int} {v : Value} (h : Ow oneI 1 e N l v wr) (hl : l.length = n) : ∃ A c, v = .slice A n c ∧ Ints wr A n l ∧ CapOk A n c := by
  obtain ⟨A, c, h1, h2, h3⟩ := Ow.res (f := oneI) (fun _ => rfl) h hl
  exact ⟨A, c, h1, ints_of_recs h2, h3⟩
end
theorem below_grown {B : Nat} {w wr w1 : World} {row : Option Nat} (h : Below B w wr) (hB : B ≤ w.heap.size) (hg : wr.grownBy w1 row) (hr : ∀ k, row = some k → B ≤ k) : Below B w w1 :=
  ⟨hg.os.trans h.os, hg.tape.trans h.tape, hg.output.trans h.output, Nat.le_trans h.size hg.size, fun k hk => (hg.block k (by have := h.size; omega) (fun e => by have := hr k e.symm; omega)).trans (h.block k hk)⟩
end Go.Proofs.Ytkomooeohlcnaaa

/- Layer 59: the boxes of Sense, and the two lists that it builds. -/
import Derived.Test.YtkomooeohlcnaaaSeP
import Derived.Test.YtkomooeohlcnaaaTwo
namespace Go.Proofs.Ytkomooeohlcnaaa
set_option linter.unusedSimpArgs false
set_option linter.unusedVariables false
open Go.RowKit
def Cra.cells (c : Cra) : List Value := [.int .i64 c.tk, .int .i64 c.px, .int .i64 c.py, .int .i64 c.ve, .int .i64 c.vn, .int .i64 c.al, .int .i64 c.vs, .int .i64 c.hd, .int .i64 c.ca, .int .i64 c.fu, .int .i64 c.bk, .bool c.gr]
/-- a moment -/
structure Mom where
  we : Int
  wn : Int
  E : Option Addr
  ne : Nat
  ce : Nat
  se : Int
  sn : Int
  si : Int
  th : Bool
  st : Bool
  s0 : ByteArray
  s1 : ByteArray
def Mom.cells (m : Mom) : List Value := [.int .i64 m.we, .int .i64 m.wn, .slice m.E m.ne m.ce, .int .i64 m.se, .int .i64 m.sn, .int .u16 m.si, .bool m.th, .bool m.st, .string m.s0, .string m.s1]
/-- the boxes that stay -/
structure SeB (c : Cra) (m : Mom) (w wr : World) : Prop where
  C : Has wr w.heap.size c.cells
  M : Has wr (w.heap.size + 1) m.cells
  R : Has wr (w.heap.size + 1 + 1) seZ
  B : Below w.heap.size w wr
theorem SeB.grown {c : Cra} {m : Mom} {w wr w1 : World} {row : Option Nat} (h : SeB c m w wr) (hg : wr.grownBy w1 row) (hr : ∀ k, row = some k → w.heap.size + 3 ≤ k) : SeB c m w w1 :=
  ⟨h.C.grown hg (fun e => by have := hr _ e.symm; omega), h.M.grown hg (fun e => by have := hr _ e.symm; omega), h.R.grown hg (fun e => by have := hr _ e.symm; omega),
   below_grown h.B (Nat.le_refl _) hg (fun k e => by have := hr _ e; omega)⟩
theorem SeB.below {c : Cra} {m : Mom} {w wr w1 : World} (h : SeB c m w wr) (hb : Below wr.heap.size wr w1) : SeB c m w w1 := h.grown (grown_of_below hb none) (fun k e => by cases e)
theorem SeB.drewN {c : Cra} {m : Mom} {w wr : World} (h : SeB c m w wr) (q : Nat) : SeB c m w (wr.drewN q) := h.below (below_drewN (Below.refl _ _) q)
theorem SeB.set {c : Cra} {m : Mom} {w wr : World} (h : SeB c m w wr) (p : Addr) (v : Value) (hp : w.heap.size + 3 ≤ p.block) : SeB c m w (wr.setCell p v) := h.grown (grown_set wr p v) (fun k e => by injection e with e; omega)
theorem named {P : World → Prop} {w : World} (h : P w) : ∃ W, W = w ∧ P W := ⟨w, rfl, h⟩
/-- the state of the loop: the input's box at H, both lists at N or behind it -/
structure SeL (c : Cra) (m : Mom) (comp : Int) (w : World) (H N : Nat) (RL : List Rep) (AL : List Bool) (v1 v2 : Value) (wr : World) : Prop where
  bx : SeB c m w wr
  S : Has wr H (seC c comp m.se m.sn m.th m.st m.s0 m.s1 v1)
  o1 : Ow Rep.cells 8 49 N RL v1 wr
  o2 : Ow oneB 1 4 N AL v2 wr
  ne : ∀ k, v1.ownBlock = some k → v2.ownBlock ≠ some k
  hH : w.heap.size + 3 ≤ H
  hN : H < N
  hS : N ≤ wr.heap.size
section
variable {c : Cra} {m : Mom} {comp : Int} {w : World} {H N : Nat} {RL : List Rep} {AL : List Bool} {v1 v2 : Value} {wr wa w1 : World}
theorem SeL.below (h : SeL c m comp w H N RL AL v1 v2 wr) (hb : Below wr.heap.size wr w1) : SeL c m comp w H N RL AL v1 v2 w1 :=
  ⟨h.bx.below hb, h.S.below hb, h.o1.below hb, h.o2.below hb, h.ne, h.hH, h.hN, Nat.le_trans h.hS hb.size⟩
theorem SeL.drewN (h : SeL c m comp w H N RL AL v1 v2 wr) (q : Nat) : SeL c m comp w H N RL AL v1 v2 (wr.drewN q) := h.below (below_drewN (Below.refl _ _) q)
theorem SeL.alloc (h : SeL c m comp w H N RL AL v1 v2 wr) (o : Obj) : SeL c m comp w H N RL AL v1 v2 (wr.alloc o) := h.below (below_alloc1 _ _)
theorem SeL.set (h : SeL c m comp w H N RL AL v1 v2 wr) (p : Addr) (v : Value) (hp : w.heap.size + 3 ≤ p.block) (hp2 : p.block < N) (hp3 : p.block ≠ H) : SeL c m comp w H N RL AL v1 v2 (wr.setCell p v) :=
  ⟨h.bx.set p v hp, h.S.grown (grown_set wr p v) (fun e => hp3 (by injection e with e; exact e.symm)), h.o1.set p v hp2, h.o2.set p v hp2, h.ne, h.hH, h.hN, by simpa [World.setCell] using h.hS⟩
theorem SeL.grownS (h : SeL c m comp w H N RL AL v1 v2 wr) (hg : wr.grownBy w1 v1.ownBlock) : Has w1 H (seC c comp m.se m.sn m.th m.st m.s0 m.s1 v1) :=
  h.S.grown hg (fun e => by have := (h.o1.lt e.symm).1; have := h.hN; omega)
theorem SeL.grownB (h : SeL c m comp w H N RL AL v1 v2 wr) {b : Nat} {cs : List Value} (hh : Has wa b cs) (hb : wr.heap.size ≤ b) (hg : wa.grownBy w1 v1.ownBlock) (x : Value) : Has (w1.setCell ⟨H, 1, none⟩ x) b cs :=
  (hh.grown hg (fun e => by have := (h.o1.lt e.symm).2; omega)).other H 1 x (by have := h.hS; have := h.hN; omega)
theorem SeL.app1 {v' : Value} {r : Rep} (h : SeL c m comp w H N RL AL v1 v2 wr) (hb : Below wr.heap.size wr wa) (hown : w1.ownsRow N 49 8 v' (RL.length + 1) (RL.flatMap Rep.cells ++ r.cells)) (hg : wa.grownBy w1 v1.ownBlock)
    (hat : v'.ownBlock = v1.ownBlock ∨ v'.ownBlock = some wa.heap.size) : SeL c m comp w H N (RL ++ [r]) AL v' v2 (w1.setCell ⟨H, 1, none⟩ v') := by
  have ha := h.below hb
  have hl : ∀ k, v1.ownBlock = some k → N ≤ k := fun k e => (h.o1.lt e).1
  have h1 := h.hH
  have h2 := h.hN
  refine ⟨(ha.bx.grown hg (fun k e => by have := hl k e; omega)).set ⟨H, 1, none⟩ _ h.hH, (ha.S.grown hg (fun e => by have := hl H e.symm; omega)).set 1 v' (by simp [seC]), (Ow.next hown).set ⟨H, 1, none⟩ _ h.hN, (ha.o2.grown hg ?_).set ⟨H, 1, none⟩ _ h.hN, ?_, h.hH, h.hN, ?_⟩
  · cases hv : v2.ownBlock with
    | none => exact .inl rfl
    | some k => exact .inr fun e => h.ne k e.symm hv
  · intro k hk
    rcases hat with e | e
    · exact h.ne k (e ▸ hk)
    · intro e2
      have := (ha.o2.lt e2).2
      rw [e] at hk
      injection hk with hk
      omega
  · have := ha.hS
    have := hg.size
    simp [World.setCell]
    omega
theorem SeL.app2 {v' : Value} {b : Bool} (h : SeL c m comp w H N RL AL v1 v2 wr) (hb : Below wr.heap.size wr wa) (hown : w1.ownsRow N 4 1 v' (AL.length + 1) (AL.flatMap oneB ++ oneB b)) (hg : wa.grownBy w1 v2.ownBlock)
    (hat : v'.ownBlock = v2.ownBlock ∨ v'.ownBlock = some wa.heap.size) : SeL c m comp w H N RL (AL ++ [b]) v1 v' w1 := by
  have ha := h.below hb
  have hl : ∀ k, v2.ownBlock = some k → N ≤ k := fun k e => (h.o2.lt e).1
  have h1 := h.hH
  have h2 := h.hN
  refine ⟨ha.bx.grown hg (fun k e => by have := hl k e; omega), ha.S.grown hg (fun e => by have := hl H e.symm; omega), ha.o1.grown hg ?_, Ow.next hown, ?_, h.hH, h.hN, ?_⟩
  · cases hv : v1.ownBlock with
    | none => exact .inl rfl
    | some k => exact .inr fun e => h.ne k hv e.symm
  · intro k hk e2
    rcases hat with e | e
    · exact h.ne k hk (e ▸ e2)
    · have := (ha.o1.lt hk).2
      rw [e] at e2
      injection e2 with e2
      omega
  · have := ha.hS
    have := hg.size
    omega
end
end Go.Proofs.Ytkomooeohlcnaaa

/- Layer 59: what the law Senses compares. -/
import Derived.Test.YtkomooeohlcnaaaSeR
import Derived.Deep.QuietTactic
import Derived.BigQuiet
namespace Go.Proofs.Ytkomooeohlcnaaa
set_option linter.unusedSimpArgs false
set_option linter.unusedVariables false
open Go.RowKit
structure SeZ where
  tk : Int
  ve : Int
  vn : Int
  dr : Int
  al : Int
  vs : Int
  ca : Int
  fu : Int
  gr : Bool
  th : Bool
  st : Bool
  cm : ByteArray
def SeZ.cells (z : SeZ) (v : Value) : List Value := [.int .i64 z.tk, v, .int .i64 z.ve, .int .i64 z.vn, .int .i64 z.dr, .int .i64 z.al, .int .i64 z.vs, .int .i64 z.ca, .int .i64 z.fu, .bool z.gr, .bool z.th, .bool z.st, .string z.cm]
def seQ (c : Cra) (l : List Sns) (comp : Int) (m : Mom) (er : List (Int × Int)) : SeZ :=
  if seE c l comp m.we m.wn m.se m.sn er m.s0 m.s1 = 0 then ⟨c.tk, vlV (c.ve + m.se), vlV (c.vn + m.sn), 20, c.al, c.vs, c.ca, c.fu, c.gr, m.th, m.st, seCmd comp m.s0 m.s1⟩ else ⟨0, 0, 0, 0, 0, 0, 0, 0, false, false, false, ⟨#[]⟩⟩
noncomputable def seRL (c : Cra) (l : List Sns) (comp : Int) (m : Mom) (er : List (Int × Int)) : List Rep := if seE c l comp m.we m.wn m.se m.sn er m.s0 m.s1 = 0 then seR c comp m.si er l l.length else []
/-- what Sense hands back, in one form -/
def SeU (c : Cra) (l : List Sns) (comp : Int) (m : Mom) (er : List (Int × Int)) (w : World) (e : Ending) (w' : World) : Prop :=
  ∃ (A1 A2 : Option Addr) (c1 c2 q : Nat), e = .returned (.tuple #[.agg ((seQ c l comp m er).cells (.slice A1 q c1)).toArray, .slice A2 q c2, .int .i64 (seE c l comp m.we m.wn m.se m.sn er m.s0 m.s1)]) ∧
    Recs Rep.cells 8 w' A1 q (seRL c l comp m er) ∧ Recs oneB 1 w' A2 q ((seRL c l comp m er).map (agR c)) ∧ Below w.heap.size w w' ∧ q ≤ 8 ∧ (∀ a, A1 = some a → w.heap.size ≤ a.block) ∧ ∀ a, A2 = some a → w.heap.size ≤ a.block
theorem se_u {c : Cra} {l : List Sns} {comp : Int} {m : Mom} {er : List (Int × Int)} {w w' : World} {e : Ending} (h : SePost c l comp m er w e w') : SeU c l comp m er w e w' := by
  unfold SePost at h
  unfold SeU seQ seRL
  by_cases h0 : seE c l comp m.we m.wn m.se m.sn er m.s0 m.s1 = 0
  · obtain ⟨A1, A2, c1, c2, q, he, h1, h2, h3, h8, h9⟩ := h.2 h0
    rw [if_pos h0, if_pos h0, h0]
    have hq : q ≤ 8 := by
      have h4 := h1.len
      have h5 := seR_len c comp m.si er l l.length
      have h6 : csE l = 0 := by
        unfold seE at h0
        by_cases g1 : c.E = 0
        · rw [if_neg (by simpa using g1)] at h0
          by_cases g2 : csE l = 0
          · exact g2
          · rw [if_pos g2] at h0; exact absurd h0 g2
        · rw [if_pos g1] at h0; exact absurd h0 g1
      have := cs_n8 h6 rfl
      omega
    exact ⟨A1, A2, c1, c2, q, he, h1, h2, h3, hq, h8, h9⟩
  · obtain ⟨he, hb⟩ := h.1 h0
    rw [if_neg h0, if_neg h0]
    exact ⟨none, none, 0, 0, 0, he, Recs.nil _ _ _, Recs.nil _ _ _, hb, by decide, fun a h => by (cases h), fun a h => by (cases h)⟩
def SmRel (z : SeZ) (A1 A2 : Option Addr) (q c1 c2 : Nat) (w : World) (t : Value) (wr : World) : Prop :=
  ∃ k : Nat, k ≤ q ∧ t = .int .i64 k ∧ Has wr w.heap.size (z.cells (.slice A1 q c1)) ∧ Has wr (w.heap.size + 1) (z.cells (.slice A2 q c2)) ∧ Below w.heap.size w wr
end Go.Proofs.Ytkomooeohlcnaaa

/- Layer 31: the tests of tables of the reference. -/
import Derived.Test.YtcmdpfdhmbpahaaPeU
namespace Go.Proofs.Ytcmdpfdhmbpahaa
set_option linter.unusedSimpArgs false
set_option linter.unusedVariables false
open Go.RowKit
/-- entry e of a row is in order with the one ahead of it and the one above it -/
def upAt (T : List (List Int)) (k e : Nat) : Prop := (0 < k → g2 T k e ≤ g2 T (k - 1) e) ∧ (0 < e → g2 T k (e - 1) ≤ g2 T k e)
def clAt (al : List Int) (T : List (List Int)) (k e : Nat) : Prop := (0 < k → g2 T k e ≤ g2 T (k - 1) e ∧ g2 T (k - 1) e - g2 T k e ≤ al.getD k 0 - al.getD (k - 1) 0) ∧ (0 < e → g2 T k e ≤ g2 T k (e - 1))
theorem lnUp_iff {T : List (List Int)} : lnUp T = true ↔ ∀ k, k < T.length → ∀ e, e < (T.getD k []).length → upAt T k e := by
  unfold lnUp
  rw [decide_eq_true_eq]
  constructor
  · intro h k hk e he
    obtain ⟨h1, h2⟩ := h k hk
    refine ⟨fun h0 => h2 h0 e he, fun h0 => ?_⟩
    have := h1 (e - 1) (by omega)
    rw [show e - 1 + 1 = e by omega] at this
    exact this
  · intro h k hk
    refine ⟨fun i hi => ?_, fun h0 j hj => (h k hk j hj).1 h0⟩
    have := (h k hk (i + 1) hi).2 (by omega)
    rwa [Nat.add_sub_cancel] at this
theorem cl_iff {al : List Int} {T : List (List Int)} (hl : T.length = al.length) : (lnDn T && gnB al T) = true ↔ ∀ k, k < T.length → ∀ e, e < (T.getD k []).length → clAt al T k e := by
  unfold lnDn gnB
  rw [Bool.and_eq_true, decide_eq_true_eq, decide_eq_true_eq]
  constructor
  · rintro ⟨h, hg⟩ k hk e he
    obtain ⟨h1, h2⟩ := h k hk
    refine ⟨fun h0 => ⟨h2 h0 e he, hg k (by omega) h0 e he⟩, fun h0 => ?_⟩
    have := h1 (e - 1) (by omega)
    rw [show e - 1 + 1 = e by omega] at this
    exact this
  · intro h
    refine ⟨fun k hk => ⟨fun i hi => ?_, fun h0 j hj => ((h k hk j hj).1 h0).1⟩, fun k hk h0 j hj => ((h k (by omega) j hj).1 h0).2⟩
    have := (h k hk (i + 1) hi).2 (by omega)
    rwa [Nat.add_sub_cancel] at this
end Go.Proofs.Ytcmdpfdhmbpahaa

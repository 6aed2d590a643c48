/- Plain arithmetic of layer 34 (no program in sight): if a level is reached anywhere, there is a greatest distance of it. -/
import Derived.Test.YtgmpaffoajmmmaaWhPlain
namespace Go.Proofs.Pf
set_option linter.unusedSimpArgs false
set_option linter.unusedVariables false

theorem wh_max {v d : List Int} {lv : Int} : ∀ (j : Nat) (t : Int), d.sum - t ≤ j → t ≤ d.sum → 0 ≤ t → lv ≤ btw v d t → ∃ s, WhP v d lv s
  | 0, t, h, ht, h0, h1 => ⟨t, h0, ht, h1, fun u h2 h3 => by omega⟩
  | j + 1, t, h, ht, h0, h1 => by
    by_cases hx : ∃ u, t < u ∧ u ≤ d.sum ∧ lv ≤ btw v d u
    · obtain ⟨u, hu, hu2, hu3⟩ := hx
      exact wh_max j u (by omega) hu2 (by omega) hu3
    · refine ⟨t, h0, ht, h1, fun u h2 h3 => ?_⟩
      rcases Int.lt_or_le (btw v d u) lv with hh | hh
      · exact hh
      · exact absurd ⟨u, h2, h3, hh⟩ hx
theorem wh_exists {v d : List Int} {lv t : Int} (h0 : 0 ≤ t) (h1 : t ≤ d.sum) (h : lv ≤ btw v d t) : ∃ s, WhP v d lv s := wh_max (d.sum - t).toNat t (by omega) h1 h0 h
end Go.Proofs.Pf

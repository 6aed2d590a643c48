/- The compacted list of a sorted one. -/
import Derived.Test.YtkomooeohlcnaaaFrame
import Derived.Lib.RowBridge
namespace Go.Proofs.Ytkomooeohlcnaaa
set_option linter.unusedSimpArgs false
set_option linter.unusedVariables false
open Go.Lib
theorem comp_inv (d : Array Int) (hs : ∀ i j, i ≤ j → j < d.size → d[i]! ≤ d[j]!) (m : Nat) (hm : m ≤ d.size) :
    (compactUpTo d m).Pairwise (· < ·) ∧ ∀ x, x ∈ compactUpTo d m ↔ ∃ j, j < m ∧ d[j]! = x := by
  induction m with
  | zero => exact ⟨List.Pairwise.nil, fun x => ⟨fun h => (by cases h), fun ⟨j, h, _⟩ => absurd h (Nat.not_lt_zero j)⟩⟩
  | succ k ih =>
    obtain ⟨h1, h2⟩ := ih (by omega)
    rw [compactUpTo_succ]
    by_cases hk : 0 < k ∧ d[k]! = d[k - 1]!
    · rw [keeps_neg hk.1 hk.2, if_neg (by decide), List.append_nil]
      refine ⟨h1, fun x => ⟨fun h => ?_, fun ⟨j, hj, e⟩ => ?_⟩⟩
      · obtain ⟨j, hj, e⟩ := (h2 x).1 h; exact ⟨j, by omega, e⟩
      · by_cases hjk : j = k
        · subst hjk; exact (h2 x).2 ⟨j - 1, by omega, by rw [← hk.2]; exact e⟩
        · exact (h2 x).2 ⟨j, by omega, e⟩
    · have hkeep : keeps d k = true := by
        by_cases h0 : 0 < k
        · exact keeps_pos (fun e => hk ⟨h0, e⟩)
        · exact keeps_lt_one d k (by omega)
      rw [hkeep, if_pos rfl]
      refine ⟨List.pairwise_append.2 ⟨h1, List.pairwise_singleton _ _, fun x hx y hy => ?_⟩, fun x => ?_⟩
      · have hy' : y = d[k]! := by simpa using hy
        subst hy'
        obtain ⟨j, hj, e⟩ := (h2 x).1 hx
        have g1 := hs j (k - 1) (by omega) (by omega)
        have g2 := hs (k - 1) k (by omega) (by omega)
        have g3 : d[k]! ≠ d[k - 1]! := fun e => hk ⟨by omega, e⟩
        omega
      · rw [List.mem_append, h2]
        constructor
        · rintro (⟨j, hj, e⟩ | h)
          · exact ⟨j, by omega, e⟩
          · exact ⟨k, by omega, by simpa using (List.mem_singleton.1 h).symm⟩
        · rintro ⟨j, hj, e⟩
          by_cases hjk : j = k
          · subst hjk; exact .inr (List.mem_singleton.2 e.symm)
          · exact .inl ⟨j, by omega, e⟩
theorem compact_sorted (L : List Int) : (compact (L.mergeSort fun x y => decide (x ≤ y))).Pairwise (· < ·) ∧ ∀ x, x ∈ compact (L.mergeSort fun x y => decide (x ≤ y)) ↔ x ∈ L := by
  have hp : (L.mergeSort fun x y => decide (x ≤ y)).Pairwise (fun x y => decide (x ≤ y) = true) := List.pairwise_mergeSort (fun a b c h1 h2 => by simp at *; omega) (fun a b => by simp; omega) L
  have hm : ∀ x, x ∈ (L.mergeSort fun x y => decide (x ≤ y)) ↔ x ∈ L := fun x => List.mem_mergeSort
  generalize (L.mergeSort fun x y => decide (x ≤ y)) = S at *
  have hget : ∀ j (hj : j < S.length), S.toArray[j]! = S[j] := fun j hj => by simp [hj]
  have hs : ∀ i j, i ≤ j → j < S.toArray.size → S.toArray[i]! ≤ S.toArray[j]! := fun i j hij hj => by
    have hj' : j < S.length := by simpa using hj
    rw [hget i (by omega), hget j hj']
    rcases Nat.lt_or_eq_of_le hij with h | h
    · have := (List.pairwise_iff_getElem.1 hp) i j (by omega) hj' h
      simpa using this
    · subst h; exact Int.le_refl _
  obtain ⟨h1, h2⟩ := comp_inv S.toArray hs S.length (by simp)
  refine ⟨h1, fun x => (h2 x).trans ?_⟩
  rw [← hm x]
  constructor
  · rintro ⟨j, hj, e⟩
    rw [hget j hj] at e
    exact e ▸ List.getElem_mem hj
  · intro h
    obtain ⟨j, hj, e⟩ := List.getElem_of_mem h
    exact ⟨j, hj, by rw [hget j hj]; exact e⟩
end Go.Proofs.Ytkomooeohlcnaaa

/- Plain lists of layer 33 (no program in sight): all smallest conflicts, in order. -/
import Derived.Test.YtgplpapphmaafaaCsMeet
namespace Go.Proofs.Cs
set_option linter.unusedSimpArgs false
set_option linter.unusedVariables false

def sgl (ws st : Wins) (i : Nat) : Wins := if 0 < exc ws st i i then [((i : Int), (i : Int))] else []
def row (ws st : Wins) (i j : Nat) : Wins := if i < j ∧ 0 < exc ws st i j then [((i : Int), (j : Int))] else []
def sU (ws st : Wins) (i : Nat) : Wins := (List.range i).flatMap (sgl ws st)
def rU (ws st : Wins) (i j : Nat) : Wins := (List.range j).flatMap (row ws st i)
def pU (ws st : Wins) (n i : Nat) : Wins := (List.range i).flatMap fun i => rU ws st i n
def confL (ws st : Wins) : Wins := sU ws st ws.length ++ pU ws st ws.length ws.length
theorem sU_succ (ws st : Wins) (i : Nat) : sU ws st (i + 1) = sU ws st i ++ sgl ws st i := by unfold sU; rw [List.range_succ, List.flatMap_append]; simp
theorem rU_succ (ws st : Wins) (i j : Nat) : rU ws st i (j + 1) = rU ws st i j ++ row ws st i j := by unfold rU; rw [List.range_succ, List.flatMap_append]; simp
theorem pU_succ (ws st : Wins) (n i : Nat) : pU ws st n (i + 1) = pU ws st n i ++ rU ws st i n := by unfold pU; rw [List.range_succ, List.flatMap_append]; simp
theorem rU_nil (ws st : Wins) (i : Nat) : ∀ j, j ≤ i + 1 → rU ws st i j = []
  | 0, _ => rfl
  | j + 1, h => by
    rw [rU_succ, rU_nil ws st i j (by omega)]
    unfold row
    rw [if_neg (by omega)]
    rfl
theorem sgl_len (ws st : Wins) (i : Nat) : (sgl ws st i).length ≤ 1 := by unfold sgl; split <;> simp
theorem row_len (ws st : Wins) (i j : Nat) : (row ws st i j).length ≤ 1 := by unfold row; split <;> simp
theorem sU_len (ws st : Wins) : ∀ i, (sU ws st i).length ≤ i
  | 0 => by simp [sU]
  | i + 1 => by
    rw [sU_succ, List.length_append]
    have := sU_len ws st i
    have := sgl_len ws st i
    omega
theorem rU_len (ws st : Wins) (i : Nat) : ∀ j, (rU ws st i j).length ≤ j
  | 0 => by simp [rU]
  | j + 1 => by
    rw [rU_succ, List.length_append]
    have := rU_len ws st i j
    have := row_len ws st i j
    omega
theorem pU_len (ws st : Wins) (n : Nat) : ∀ i, (pU ws st n i).length ≤ n * i
  | 0 => by simp [pU]
  | i + 1 => by
    rw [pU_succ, List.length_append, Nat.mul_succ]
    have := pU_len ws st n i
    have := rU_len ws st i n
    omega
theorem mem_sU {ws st : Wins} {n : Nat} {p : Int × Int} : p ∈ sU ws st n ↔ ∃ i, i < n ∧ 0 < exc ws st i i ∧ p = ((i : Int), (i : Int)) := by
  unfold sU sgl
  simp only [List.mem_flatMap, List.mem_range]
  constructor
  · rintro ⟨i, hi, h⟩
    split at h
    · rename_i hc
      exact ⟨i, hi, hc, by simpa using h⟩
    · simp at h
  · rintro ⟨i, hi, hc, rfl⟩
    exact ⟨i, hi, by rw [if_pos hc]; simp⟩
theorem mem_pU {ws st : Wins} {n m : Nat} {p : Int × Int} : p ∈ pU ws st n m ↔ ∃ i j, i < m ∧ j < n ∧ i < j ∧ 0 < exc ws st i j ∧ p = ((i : Int), (j : Int)) := by
  unfold pU rU row
  simp only [List.mem_flatMap, List.mem_range]
  constructor
  · rintro ⟨i, hi, j, hj, h⟩
    split at h
    · rename_i hc
      exact ⟨i, j, hi, hj, hc.1, hc.2, by simpa using h⟩
    · simp at h
  · rintro ⟨i, j, hi, hj, hij, hc, rfl⟩
    exact ⟨i, hi, j, hj, by rw [if_pos ⟨hij, hc⟩]; simp⟩
/-- a listed conflict is one -/
theorem mem_confL {ws st : Wins} {p : Int × Int} (h : p ∈ confL ws st) : ∃ i j : Nat, p = ((i : Int), (j : Int)) ∧ i ≤ j ∧ j < ws.length ∧ 0 < exc ws st i j := by
  unfold confL at h
  rw [List.mem_append] at h
  rcases h with h | h
  · obtain ⟨i, hi, hc, rfl⟩ := mem_sU.1 h
    exact ⟨i, i, rfl, Nat.le_refl _, hi, hc⟩
  · obtain ⟨i, j, hi, hj, hij, hc, rfl⟩ := mem_pU.1 h
    exact ⟨i, j, rfl, by omega, hj, hc⟩
theorem confL_nil {ws st : Wins} : confL ws st = [] ↔ NoConf ws st := by
  constructor
  · intro h i j hij hj
    by_cases hc : 0 < exc ws st i j
    · exfalso
      have : ((i : Int), (j : Int)) ∈ confL ws st := by
        unfold confL
        rw [List.mem_append]
        rcases Nat.lt_or_ge i j with hl | hl
        · exact .inr (mem_pU.2 ⟨i, j, by omega, hj, hl, hc, rfl⟩)
        · obtain rfl : i = j := by omega
          exact .inl (mem_sU.2 ⟨i, hj, hc, rfl⟩)
      rw [h] at this
      simp at this
    · omega
  · intro h
    rcases hl : confL ws st with _ | ⟨p, t⟩
    · rfl
    · exfalso
      obtain ⟨i, j, _, hij, hj, hc⟩ := mem_confL (show p ∈ confL ws st by rw [hl]; simp)
      have := h i j hij hj
      omega
end Go.Proofs.Cs

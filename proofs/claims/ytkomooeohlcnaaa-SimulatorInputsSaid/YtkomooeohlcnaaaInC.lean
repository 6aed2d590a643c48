/- Layer 59 in plain words: which sources are bad, and how many. -/
import Derived.Test.YtkomooeohlcnaaaFrame
namespace Go.Proofs.Ytkomooeohlcnaaa
set_option linter.unusedSimpArgs false
set_option linter.unusedVariables false
open Go.RowKit
def bdB (L : List Int) (i : Nat) : Bool := decide ((i : Int) ∈ L)
def bdC (L : List Int) : List Value := (List.range 9).map fun i => .bool (bdB L i)
def bdN (L : List Int) : Nat := ((List.range 9).filter (bdB L)).length
theorem bdC_get {L : List Int} {i : Nat} (h : i < 9) : (bdC L)[i]? = some (.bool (bdB L i)) := by
  unfold bdC
  rw [List.getElem?_map, List.getElem?_range h]; rfl
theorem bd_congr {L M : List Int} (h : ∀ x, x ∈ L ↔ x ∈ M) : bdB L = bdB M := by
  funext i
  unfold bdB
  rw [Bool.eq_iff_iff]
  simp [h]
theorem bd_len (L : List Int) : (bdC L).length = 9 := by simp [bdC]
theorem cnt_add : ∀ (R : List Nat) (a : Nat) (p : Nat → Bool), R.Nodup → a ∈ R → p a = false → (R.filter fun i => p i || i == a).length = (R.filter p).length + 1
  | [], a, p, _, h, _ => by cases h
  | b :: t, a, p, hn, ha, hp => by
    obtain ⟨h1, h2⟩ := List.nodup_cons.1 hn
    by_cases e : b = a
    · subst e
      have ht : (t.filter fun i => p i || i == b) = t.filter p := List.filter_congr (fun i hi => by
        have : i ≠ b := fun e => h1 (e ▸ hi)
        simp [this])
      rw [List.filter_cons, List.filter_cons, ht, hp]
      simp
    · have ha' : a ∈ t := by
        rcases List.mem_cons.1 ha with h | h
        · exact absurd h.symm e
        · exact h
      have ih := cnt_add t a p h2 ha' hp
      rw [List.filter_cons, List.filter_cons]
      have e2 : (b == a) = false := by simpa using e
      rw [e2, Bool.or_false]
      cases p b <;> simp [ih]
theorem bd_old {L : List Int} {x : Int} (h0 : 0 ≤ x) (h : bdB L x.toNat = true) : bdB (L ++ [x]) = bdB L := bd_congr fun y => by
  have hx : x ∈ L := by
    unfold bdB at h
    rw [Int.toNat_of_nonneg h0] at h
    exact of_decide_eq_true h
  rw [List.mem_append, List.mem_singleton]
  constructor
  · rintro (h | rfl)
    · exact h
    · exact hx
  · exact .inl
theorem bd_new {L : List Int} {x : Int} (h0 : 0 ≤ x) (h8 : x ≤ 8) (h : bdB L x.toNat = false) : bdC (L ++ [x]) = (bdC L).set x.toNat (.bool true) ∧ bdN (L ++ [x]) = bdN L + 1 := by
  have hb : bdB (L ++ [x]) = fun i => bdB L i || i == x.toNat := by
    funext i
    unfold bdB
    rw [Bool.eq_iff_iff]
    simp only [List.mem_append, List.mem_singleton, decide_eq_true_eq, Bool.or_eq_true, beq_iff_eq]
    constructor
    · rintro (h | h)
      · exact .inl h
      · exact .inr (by omega)
    · rintro (h | h)
      · exact .inl h
      · exact .inr (by omega)
  constructor
  · apply List.ext_getElem?
    intro i
    by_cases hi : i < 9
    · rw [bdC_get hi, hb]
      by_cases e : x.toNat = i
      · subst e
        rw [List.getElem?_set_self (by rw [bd_len]; omega)]
        simp
      · rw [List.getElem?_set_ne e, bdC_get hi]
        have : (i == x.toNat) = false := by simp; omega
        show some (Value.bool (bdB L i || i == x.toNat)) = _
        rw [this, Bool.or_false]
    · rw [List.getElem?_eq_none (by rw [bd_len]; omega), List.getElem?_eq_none (by rw [List.length_set, bd_len]; omega)]
  · unfold bdN
    rw [hb]
    exact cnt_add _ _ _ List.nodup_range (List.mem_range.2 (by omega)) h
theorem bd_same {L M : List Int} (h : bdB L = bdB M) : bdC L = bdC M ∧ bdN L = bdN M := by unfold bdC bdN; rw [h]; exact ⟨rfl, rfl⟩
theorem pw_ext : ∀ (K M : List Int), K.Pairwise (· < ·) → M.Pairwise (· < ·) → (∀ x, x ∈ K ↔ x ∈ M) → K = M
  | [], [], _, _, _ => rfl
  | [], m :: M, _, _, h => absurd ((h m).2 (List.mem_cons_self ..)) (by simp)
  | k :: K, [], _, _, h => absurd ((h k).1 (List.mem_cons_self ..)) (by simp)
  | k :: K, m :: M, hk, hm, h => by
    obtain ⟨k1, k2⟩ := List.pairwise_cons.1 hk
    obtain ⟨m1, m2⟩ := List.pairwise_cons.1 hm
    have e : k = m := by
      rcases List.mem_cons.1 ((h k).1 (List.mem_cons_self ..)) with e | e
      · exact e
      · rcases List.mem_cons.1 ((h m).2 (List.mem_cons_self ..)) with e' | e'
        · exact e'.symm
        · have := m1 k e; have := k1 m e'; omega
    subst e
    rw [pw_ext K M k2 m2 fun x => ⟨fun hx => by
      rcases List.mem_cons.1 ((h x).1 (List.mem_cons_of_mem _ hx)) with e | e
      · have := k1 x hx; omega
      · exact e, fun hx => by
      rcases List.mem_cons.1 ((h x).2 (List.mem_cons_of_mem _ hx)) with e | e
      · have := m1 x hx; omega
      · exact e⟩]
theorem bd_count {L K : List Int} (h1 : K.Pairwise (· < ·)) (h2 : ∀ x, x ∈ K ↔ x ∈ L) (h3 : ∀ x ∈ L, 0 ≤ x ∧ x ≤ 8) : K.length = bdN L := by
  have hM : (((List.range 9).filter (bdB L)).map fun (i : Nat) => (i : Int)).Pairwise (· < ·) := by
    rw [List.pairwise_map]
    exact (List.Pairwise.filter _ List.pairwise_lt_range).imp (fun h => by exact_mod_cast h)
  have e := pw_ext K _ h1 hM fun x => by
    rw [h2]
    simp only [List.mem_map, List.mem_filter, List.mem_range]
    constructor
    · intro hx
      have := h3 x hx
      refine ⟨x.toNat, ⟨by omega, ?_⟩, by omega⟩
      unfold bdB
      rw [Int.toNat_of_nonneg this.1]
      exact decide_eq_true hx
    · rintro ⟨i, ⟨_, hi⟩, rfl⟩
      exact of_decide_eq_true hi
  rw [e, List.length_map]; rfl
end Go.Proofs.Ytkomooeohlcnaaa

/- Plain laws of layer 35 (no walk): the members of the family, what covers, what changes. -/
import Derived.Test.YtgplpapphmaafaaSpPlain
import Derived.Test.YtgplpapphmaafaaCrPlain
namespace Go.Proofs.Ytgplpapphmaafaa
set_option linter.unusedSimpArgs false
set_option linter.unusedVariables false
open Sp

theorem fa_len (zs ys : Cs.Wins) (k : Int) : (faL zs ys k).length = zs.length := by unfold faL; rw [List.length_map, Cs.tight_len]
theorem fa_get {zs ys : Cs.Wins} {k : Int} {i : Nat} (h : i < zs.length) : (faL zs ys k)[i]? = some (min (Cs.tH zs ys i) (Cs.tL zs ys i + k)) := by
  unfold faL
  rw [List.getElem?_map, Cs.tight_get h]; rfl
theorem fa_0 {zs ys : Cs.Wins} (h : rdE zs ys = 0) (ht : Cs.tgE zs ys = 0) : faL zs ys 0 = (Cs.tight zs ys).map fun p => p.1 := by
  refine List.ext_getElem? fun i => ?_
  rcases Nat.lt_or_ge i zs.length with hi | hi
  · have h1 := tight_ok h ht hi
    rw [fa_get hi, List.getElem?_map, Cs.tight_get hi]
    show some _ = some _
    congr 1
    simp only
    omega
  · rw [List.getElem?_eq_none (by rw [fa_len]; exact hi), List.getElem?_eq_none (by rw [List.length_map, Cs.tight_len]; exact hi)]
theorem spM_ge (l : Cs.Wins) : ∀ m : Int, m ≤ spM l m ∧ ∀ p ∈ l, p.2 - p.1 ≤ spM l m := by
  induction l with
  | nil => intro m; exact ⟨Int.le_refl _, fun p hp => by simp at hp⟩
  | cons q l ih =>
    intro m
    have h := ih (max m (q.2 - q.1))
    refine ⟨by show m ≤ spM l (max m (q.2 - q.1)); omega, fun p hp => ?_⟩
    show _ ≤ spM l (max m (q.2 - q.1))
    rcases List.mem_cons.1 hp with rfl | hp
    · omega
    · exact h.2 p hp
theorem spM_is (l : Cs.Wins) : ∀ m : Int, spM l m = m ∨ ∃ p ∈ l, spM l m = p.2 - p.1 := by
  induction l with
  | nil => intro m; exact .inl rfl
  | cons q l ih =>
    intro m
    show spM l (max m (q.2 - q.1)) = m ∨ ∃ p ∈ q :: l, spM l (max m (q.2 - q.1)) = p.2 - p.1
    rcases ih (max m (q.2 - q.1)) with h | ⟨p, hp, h⟩
    · rcases Int.le_total m (q.2 - q.1) with h2 | h2
      · right; exact ⟨q, by simp, by omega⟩
      · left; omega
    · right; exact ⟨p, List.mem_cons_of_mem _ hp, h⟩
theorem spV_ge {zs ys : Cs.Wins} {i : Nat} (h : i < zs.length) : Cs.tH zs ys i - Cs.tL zs ys i ≤ spV zs ys := (spM_ge _ 0).2 _ (List.mem_of_getElem? (Cs.tight_get h))
theorem spV_0 (zs ys : Cs.Wins) : 0 ≤ spV zs ys := (spM_ge _ 0).1
theorem spV_is (zs ys : Cs.Wins) : spV zs ys = 0 ∨ ∃ i, i < zs.length ∧ spV zs ys = Cs.tH zs ys i - Cs.tL zs ys i := by
  rcases spM_is (Cs.tight zs ys) 0 with h | ⟨p, hp, h⟩
  · exact .inl h
  · right
    obtain ⟨i, hi⟩ := List.getElem?_of_mem hp
    have hk := (List.getElem?_eq_some_iff.1 hi).1
    rw [Cs.tight_len] at hk
    rw [Cs.tight_get hk] at hi
    obtain rfl := Option.some.inj hi
    exact ⟨i, hk, h⟩
theorem spV_bd {zs ys : Cs.Wins} (h : rdE zs ys = 0) (ht : Cs.tgE zs ys = 0) : okV (spV zs ys) := by
  unfold okV
  have h0 := spV_0 zs ys
  rcases spV_is zs ys with e | ⟨i, hi, e⟩
  · omega
  · have := tight_ok h ht hi
    unfold okV at this
    omega
theorem fa_top {zs ys : Cs.Wins} : faL zs ys (spV zs ys) = (Cs.tight zs ys).map fun p => p.2 := by
  refine List.ext_getElem? fun i => ?_
  rcases Nat.lt_or_ge i zs.length with hi | hi
  · have h1 := spV_ge (ys := ys) hi
    rw [fa_get hi, List.getElem?_map, Cs.tight_get hi]
    show some _ = some _
    congr 1
    simp only
    omega
  · rw [List.getElem?_eq_none (by rw [fa_len]; exact hi), List.getElem?_eq_none (by rw [List.length_map, Cs.tight_len]; exact hi)]
theorem fa_meet {zs ys : Cs.Wins} {k : Int} (h : rdE zs ys = 0) (ht : Cs.tgE zs ys = 0) (hk : 0 ≤ k) : Meet zs ys (faL zs ys k) := by
  have hc := (rdE_0 h).1
  have hok := Cs.csOk_of hc
  have hnc := Cs.confL_nil.1 (Cs.tgE_0 ht).2
  have sH := Cs.sol_tH hok hnc
  have sL := Cs.sol_tL hok hnc
  refine ⟨hc, fa_len _ _ _, ⟨fun i hi => ?_, fun i hi => ?_⟩⟩
  · have a := sH.win i hi
    have b := sL.win i hi
    have c := Cs.tL_le_tH hok hnc hi
    rw [getD_of (fa_get hi)]
    omega
  · have a := sH.stp i hi
    have b := sL.stp i hi
    rw [getD_of (fa_get (show i < zs.length by omega)), getD_of (fa_get hi)]
    omega
theorem fa_step {zs ys : Cs.Wins} {k : Int} {i : Nat} (hi : i < zs.length) :
    0 ≤ (faL zs ys (k + 1)).getD i 0 - (faL zs ys k).getD i 0 ∧ (faL zs ys (k + 1)).getD i 0 - (faL zs ys k).getD i 0 ≤ 1 ∧ ((faL zs ys (k + 1)).getD i 0 ≠ (faL zs ys k).getD i 0 ↔ k < Cs.tH zs ys i - Cs.tL zs ys i) := by
  rw [getD_of (fa_get hi), getD_of (fa_get hi)]
  omega
/-- some member's node rises from k on exactly if k is below the span -/
theorem fa_rise {zs ys : Cs.Wins} {k : Int} (hk : 0 ≤ k) : (∃ i, i < zs.length ∧ k < Cs.tH zs ys i - Cs.tL zs ys i) ↔ k < spV zs ys := by
  constructor
  · rintro ⟨i, hi, h⟩
    have := spV_ge (ys := ys) hi
    omega
  · intro h
    rcases spV_is zs ys with e | ⟨i, hi, e⟩
    · omega
    · exact ⟨i, hi, by omega⟩
/-- a list that meets is covered -/
theorem fa_cover {zs ys : Cs.Wins} {v : List Int} {k : Int} (hv : Meet zs ys v) (hk : ∀ i, i < zs.length → v.getD i 0 - (faL zs ys 0).getD i 0 ≤ k) (h : rdE zs ys = 0) (ht : Cs.tgE zs ys = 0) {i : Nat} (hi : i < zs.length) :
    (faL zs ys 0).getD i 0 ≤ v.getD i 0 ∧ v.getD i 0 ≤ (faL zs ys k).getD i 0 ∧ (faL zs ys k).getD i 0 ≤ (faL zs ys 0).getD i 0 + k := by
  have h1 := hv.2.2.between hi
  have h2 := hk i hi
  have h3 := tight_ok h ht hi
  rw [getD_of (fa_get hi)] at h2 ⊢
  rw [getD_of (fa_get hi)]
  omega
end Go.Proofs.Ytgplpapphmaafaa

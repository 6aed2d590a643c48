/- Plain arithmetic of layer 34's reference (no program in sight): the nodes' places, and the last node at a distance. -/
import Derived.Test.YtgmpaffoajmmmaaPfPlain
namespace Go.Proofs.Pf
set_option linter.unusedSimpArgs false
set_option linter.unusedVariables false

/-- the distances of the first nodes -/
def plc (d : List Int) (k : Nat) : List Int := (List.range (k + 1)).map fun j => (d.take j).sum
theorem plc_len (d : List Int) (k : Nat) : (plc d k).length = k + 1 := by simp [plc]
theorem plc_get (d : List Int) (k j : Nat) (h : j ≤ k) : (plc d k)[j]? = some (d.take j).sum := by
  unfold plc
  rw [List.getElem?_map, List.getElem?_range (by omega)]
  rfl
theorem plc_succ (d : List Int) (k : Nat) : plc d (k + 1) = plc d k ++ [(d.take (k + 1)).sum] := by
  unfold plc
  rw [List.range_succ, List.map_append]
  rfl
theorem plc_zero (d : List Int) : plc d 0 = [0] := by simp [plc]
/-- k is the last node at a distance of at most s (0 if there is none) -/
def LastP (at_ : List Int) (s : Int) (k : Nat) : Prop := k < at_.length ∧ (k = 0 ∨ ∃ x, at_[k]? = some x ∧ x ≤ s) ∧ ∀ j x, k < j → at_[j]? = some x → s < x
theorem take_mono {d : List Int} (h : ∀ x ∈ d, okD x) {j k : Nat} (hjk : j ≤ k) : (d.take j).sum ≤ (d.take k).sum := by
  have h1 := (sum_take_le (d := d.take k) (fun x hx => h x (List.mem_of_mem_take hx)) j).2.2
  rwa [List.take_take, Nat.min_eq_left hjk] at h1
theorem take_sum_succ {d : List Int} {k : Nat} {x : Int} (h : d[k]? = some x) : (d.take (k + 1)).sum = (d.take k).sum + x := by
  obtain ⟨hk, rfl⟩ := List.getElem?_eq_some_iff.1 h
  rw [List.take_succ_eq_append_getElem hk, sum_snoc]
/-- the value at a distance, seen from a node ahead of it -/
theorem btw_skip {v d : List Int} (hok : ChOk v d) {s : Int} : ∀ k : Nat, k ≤ d.length → (d.take k).sum ≤ s → btw v d s = btw (v.drop k) (d.drop k) (s - (d.take k).sum)
  | 0, _, _ => by simp
  | k + 1, hk, hs => by
    have h2 := hok.two
    obtain ⟨x, hx⟩ : ∃ x, d[k]? = some x := ⟨_, List.getElem?_eq_getElem (by omega)⟩
    obtain ⟨a, ha⟩ : ∃ x, v[k]? = some x := ⟨_, List.getElem?_eq_getElem (by omega)⟩
    obtain ⟨b, hb⟩ : ∃ x, v[k + 1]? = some x := ⟨_, List.getElem?_eq_getElem (by omega)⟩
    have h3 := take_sum_succ hx
    have h4 := take_mono hok.ds (show k ≤ k + 1 by omega)
    rw [btw_skip hok k (by omega) (by omega), btw_step ha hb hx (by omega), h3]
    congr 1
    omega
theorem btw_at {v d : List Int} (hok : ChOk v d) {k : Nat} (hk : k ≤ d.length) {a s : Int} (ha : v[k]? = some a) (hs : (d.take k).sum = s) (hn : ∀ x, d[k]? = some x → 0 < x) : btw v d s = a := by
  rw [btw_skip hok k hk (by omega), hs, Int.sub_self]
  rcases Nat.lt_or_ge k d.length with h | h
  · have h2 := hok.two
    obtain ⟨x, hx⟩ : ∃ x, d[k]? = some x := ⟨_, List.getElem?_eq_getElem (by omega)⟩
    obtain ⟨b, hb⟩ : ∃ x, v[k + 1]? = some x := ⟨_, List.getElem?_eq_getElem (by omega)⟩
    rw [btw_stop ha hb hx (hn x hx)]
    rfl
  · exact btw_end ha h
theorem btw_in {v d : List Int} (hok : ChOk v d) {k : Nat} {a b x s : Int} (ha : v[k]? = some a) (hb : v[k + 1]? = some b) (hx : d[k]? = some x) (hs : (d.take k).sum ≤ s) (hn : s < (d.take k).sum + x) :
    btw v d s = onV a b (s - (d.take k).sum) x := by
  have hk := (List.getElem?_eq_some_iff.1 hx).1
  rw [btw_skip hok k (by omega) hs, btw_stop ha hb hx (by omega)]
end Go.Proofs.Pf

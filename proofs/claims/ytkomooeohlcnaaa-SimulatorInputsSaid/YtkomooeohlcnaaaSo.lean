/- Sorting and compacting a list of integers that lies in a row of its own (over the shelf's contracts). -/
import Derived.Test.YtkomooeohlcnaaaTwo
import Derived.Sort.OwnSortedInts
import Derived.Shelf.Slices.CompactI
import Derived.Lib.RowBridge
namespace Go.Proofs.Ytkomooeohlcnaaa
set_option linter.unusedSimpArgs false
set_option linter.unusedVariables false
open Go.RowKit Go.Sort
theorem flat_oneI (l : List Int) : l.flatMap oneI = l.map (Value.int .i64) := by
  induction l with
  | nil => rfl
  | cons x r ih => rw [List.flatMap_cons, ih]; rfl
theorem sort_own {F : FuncId} {ty : TypeId} (HS : ∀ (blk off cap : Nat) (zs : List Int) (w : World), Holds (Value.int .i64) w blk off zs.toArray → blk < w.heap.size → zs.length < 4611686018427387904 → Calls Try.prog F #[.slice (some ⟨blk, off, none⟩) zs.length cap] w fun e w' =>
      e = .returned (.tuple #[]) ∧ ∃ n os, w' = grow (putRow (Value.int .i64) (Sort.ahead w n) blk off (zs.mergeSort fun x y => decide (x ≤ y)).toArray) os)
    (HN : ∀ (p : Option Addr) (cap : Nat) (w : World), Calls Try.prog F #[.slice p 0 cap] w fun e w' => e = .returned (.tuple #[]) ∧ w' = w)
    {N : Nat} {L : List Int} {v : Value} {wr : World} (h : Ow oneI 1 ty N L v wr) (hl : L.length ≤ 100) :
    Calls Try.prog F #[v] wr fun e w' => e = .returned (.tuple #[]) ∧ Ow oneI 1 ty N (L.mergeSort fun x y => decide (x ≤ y)) v w' ∧ wr.grownBy w' v.ownBlock := by
  have ho := h.own
  rcases ho.2 with ⟨hv, h0⟩ | ⟨g, cap, cur, hv, hg, hh, hnc, hm, hs, ht⟩
  · subst hv
    have hL : L = [] := List.length_eq_zero_iff.1 h0
    subst hL
    refine (HN none 0 wr).mono ?_
    rintro e w' ⟨he, rfl⟩
    exact ⟨he, by rw [List.mergeSort_nil]; exact h, grown_of_below (Below.refl _ _) _⟩
  · subst hv
    have hgl : g < wr.heap.size := (Array.getElem?_eq_some_iff.1 hh).1
    rw [Nat.mul_one, flat_oneI] at ht
    refine (HS g 0 cap L wr (holds_of_blockI hh ht) hgl (by omega)).mono ?_
    rintro e w' ⟨he, n, os, rfl⟩
    have hlen : (L.mergeSort fun x y => decide (x ≤ y)).length = L.length := List.length_mergeSort ..
    refine ⟨he, ⟨?_⟩, grownBy_sortedI _⟩
    have := ownsRow_sortedI (n := n) (os := os) hlen hg hh hnc hm hs
    rw [flat_oneI, hlen]
    exact this
theorem compact_own {F : FuncId} {ty : TypeId} (HS : ∀ (blk off cap : Nat) (zs : List Int) (w : World), Holds (Value.int .i64) w blk off zs.toArray → zs.length ≤ 9223372036854775807 → zs.length ≤ cap → Calls Try.prog F #[.slice (some ⟨blk, off, none⟩) zs.length cap] w fun e w' =>
      e = .returned (.slice (some ⟨blk, off, none⟩) (Lib.compact zs).length cap) ∧ ∃ q, w' = putRow (Value.int .i64) (Sort.ahead w q) blk off (Lib.compact zs ++ List.replicate (zs.length - (Lib.compact zs).length) 0).toArray)
    (HN : ∀ (a : Option Addr) (cap : Nat) (w : World), Calls Try.prog F #[.slice a 0 cap] w fun e w' => e = .returned (.slice a 0 cap) ∧ w' = w)
    {N : Nat} {L : List Int} {v : Value} {wr : World} (h : Ow oneI 1 ty N L v wr) (hl : L.length ≤ 100) :
    Calls Try.prog F #[v] wr fun e w' => ∃ A c, e = .returned (.slice A (Lib.compact L).length c) ∧ Ints w' A (Lib.compact L).length (Lib.compact L) ∧ wr.grownBy w' v.ownBlock := by
  have ho := h.own
  rcases ho.2 with ⟨hv, h0⟩ | ⟨g, cap, cur, hv, hg, hh, hnc, hm, hs, ht⟩
  · subst hv
    have hL : L = [] := List.length_eq_zero_iff.1 h0
    subst hL
    refine (HN none 0 wr).mono ?_
    rintro e w' ⟨he, rfl⟩
    have hc : Lib.compact ([] : List Int) = [] := List.length_eq_zero_iff.1 (Nat.le_zero.1 (Lib.compact_length_le []))
    rw [hc]
    exact ⟨none, 0, he, ⟨rfl, fun hn => absurd hn (by decide)⟩, grown_of_below (Below.refl _ _) _⟩
  · subst hv
    rw [Nat.mul_one, flat_oneI] at ht
    refine (HS g 0 cap L wr (holds_of_blockI hh ht) (by omega) hnc).mono ?_
    rintro e w' ⟨he, n, hw⟩
    have hle := Lib.compact_length_le L
    generalize Lib.compact L = K at *
    have hlen : (K ++ List.replicate (L.length - K.length) 0).length = L.length := by rw [List.length_append, List.length_replicate]; omega
    have hown := ownsRow_sortedI (n := n) (os := #[]) hlen hg hh hnc hm hs
    rw [grow_empty, ← hw] at hown
    have hgr := grownBy_sortedI (w := wr) (g := g) (n := n) (os := #[]) (K ++ List.replicate (L.length - K.length) 0).toArray
    rw [grow_empty, ← hw] at hgr
    refine ⟨some ⟨g, 0, none⟩, cap, he, ⟨rfl, fun hn => ?_⟩, hgr⟩
    have ow : Ow oneI 1 ty N (K ++ List.replicate (L.length - K.length) 0) (.slice (some ⟨g, 0, none⟩) L.length cap) w' := ⟨by rw [flat_oneI, hlen]; exact hown⟩
    obtain ⟨A, c, hA, hi, _⟩ := ow.ints hlen
    injection hA with hA _ _
    subst hA
    obtain ⟨b, off, e1, hb, hc⟩ := hi.cells (by omega)
    exact ⟨b, off, e1, hb, fun k x hx => hc k x (by rw [List.getElem?_append_left (List.getElem?_eq_some_iff.1 hx).1]; exact hx)⟩
end Go.Proofs.Ytkomooeohlcnaaa

/- slices.Sort and slices.Compact of a list that lies in a row of its own: the shelf's contracts laid at this program. -/
import Derived.Test.YtkomooeohlcnaaaShelf
import Derived.Test.YtkomooeohlcnaaaSo
namespace Go.Proofs.Ytkomooeohlcnaaa
set_option linter.unusedSimpArgs false
set_option linter.unusedVariables false
open Go.RowKit Go.Sort
theorem xSortOwn {N : Nat} {L : List Int} {v : Value} {wr : World} (h : Ow oneI 1 3 N L v wr) (hl : L.length ≤ 100) :
    Calls Try.prog 16 #[v] wr fun e w' => e = .returned (.tuple #[]) ∧ Ow oneI 1 3 N (L.mergeSort fun x y => decide (x ≤ y)) v w' ∧ wr.grownBy w' v.ownBlock :=
  sort_own Try.slices_Sort_int Try.slices_Sort_int_none h hl
theorem xCompactOwn {N : Nat} {L : List Int} {v : Value} {wr : World} (h : Ow oneI 1 3 N L v wr) (hl : L.length ≤ 100) :
    Calls Try.prog 17 #[v] wr fun e w' => ∃ A c, e = .returned (.slice A (Lib.compact L).length c) ∧ Ints w' A (Lib.compact L).length (Lib.compact L) ∧ wr.grownBy w' v.ownBlock :=
  compact_own Try.slices_Compact_int Try.slices_Compact_int_empty h hl
end Go.Proofs.Ytkomooeohlcnaaa

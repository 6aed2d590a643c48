/- Layer 29: the reference's tables. -/
import Derived.Test.YtcmdpfdhmbpahaaAtFns
import Derived.Test.YtcmdpfdhmbpahaaFxRootR
import Derived.Test.YtcmdpfdhmbpahaaMem
namespace Go.Proofs.Ytcmdpfdhmbpahaa
set_option linter.unusedSimpArgs false
set_option linter.unusedVariables false
open Go.RowKit

/-- two rows in memory -/
structure ColsAt (w : World) (b c : Nat) (L : List (Int × Int)) : Prop where
  lb : b < w.heap.size
  lc : c < w.heap.size
  cells : ∀ k r, L[k]? = some r → w.cell? ⟨b, k, none⟩ = some (.int .i64 r.1) ∧ w.cell? ⟨c, k, none⟩ = some (.int .i64 r.2)
theorem colsAt_new (w : World) (L : List (Int × Int)) (x y : Array Value) (t u : TypeId) (hx : x.toList = L.map fun r => .int .i64 r.1) (hy : y.toList = L.map fun r => .int .i64 r.2) :
    ColsAt ((w.alloc (.cells x t)).alloc (.cells y u)) w.heap.size (w.heap.size + 1) L := by
  refine ⟨by simp; omega, by simp, fun k r hr => ⟨?_, ?_⟩⟩
  · rw [World.cell?_alloc_lt (w.alloc (.cells x t)) _ ⟨w.heap.size, k, none⟩ (by simp), World.cell?_alloc_new, ← Array.getElem?_toList, hx, List.getElem?_map, hr]; rfl
  · have e : w.heap.size + 1 = (w.alloc (.cells x t)).heap.size := by simp
    rw [e, World.cell?_alloc_new, ← Array.getElem?_toList, hy, List.getElem?_map, hr]; rfl
def rowsPost (L : List (Int × Int)) (n : Nat) (w : World) (e : Ending) (w' : World) : Prop :=
  ∃ b c, e = .returned (.tuple #[.slice (some ⟨b, 0, none⟩) n n, .slice (some ⟨c, 0, none⟩) n n]) ∧ ColsAt w' b c L ∧ Below w.heap.size w w'
def RRel (L : List (Int × Int)) (alt : Int) (v : Value) : Prop := ∃ m : Nat, v = .int .i64 (m : Int) ∧ m + 2 ≤ L.length ∧ ∀ j, 1 ≤ j → j ≤ m → ∀ r, L[j]? = some r → r.1 * 100 < alt

def levRPost (p : Int) (w : World) (e : Ending) (w' : World) : Prop :=
  (p < 70800 → e = .returned (.tuple #[.int .i64 0, .int .i64 2])) ∧ (¬ p < 70800 → ∃ L, e = .returned (.tuple #[.int .i64 L, .int .i64 0]) ∧ At.LevP p L) ∧ Below w.heap.size w w'
def LRel (p : Int) (w : World) (vi vj : Value) (w' : World) : Prop :=
  ∃ i j : Int, vi = .int .i64 i ∧ vj = .int .i64 j ∧ -200000 ≤ i ∧ i ≤ j ∧ j ≤ 6000000 ∧ At.vP j ≤ p ∧ (i = -200000 ∨ p < At.vP (i - 1)) ∧ Below w.heap.size w w'
end Go.Proofs.Ytcmdpfdhmbpahaa

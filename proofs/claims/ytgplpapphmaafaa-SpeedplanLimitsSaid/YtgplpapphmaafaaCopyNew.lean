/- The builtin copy into a slice that make has just made, of elements of any size. -/
import Derived.Test.YtgplpapphmaafaaMem
import Derived.Laws.CopyRow
import Derived.Laws.MakeOwn
namespace Go.Proofs.Ytgplpapphmaafaa
set_option linter.unusedSimpArgs false
set_option linter.unusedVariables false
open Go.RowKit

theorem modify_last {α : Type} (a : Array α) (x : α) (f : α → α) : (a.push x).modify a.size f = a.push (f x) := by
  apply Array.ext
  · simp
  · intro k h1 h2
    rw [Array.getElem_modify]
    by_cases hk : a.size = k
    · subst hk
      simp
    · have hlt : k < a.size := by simp at h2; omega
      rw [if_neg hk, Array.getElem_push_lt hlt, Array.getElem_push_lt hlt]
theorem setRow_new (w : World) (cur cs : Array Value) (t : TypeId) : (w.alloc (.cells cur t)).setRow w.heap.size cs = w.alloc (.cells cs t) := by
  unfold World.setRow World.alloc
  simp only [modify_last]
theorem run_copy_new (P : Program) (w : World) (dT sT ty elem t0 : TypeId) (sz n scap : Nat) (ad : Addr) (cur : Array Value) (cs : List Value)
    (hu : P.underlying dT = some (.slice elem)) (hs : (P.info? elem).map (·.size) = some sz) (hcs : cs.length = n * sz) (hcur : cur.size = n * sz)
    (hsrc : ∀ j v, cs[j]? = some v → w.cell? (ad.add j) = some v) (h1 : ∀ v ∈ cs, v.oneCell' = true) :
    (Builtin.copy_ #[dT, sT] ty #[.slice (some ⟨w.heap.size, 0, none⟩) n n, .slice (some ad) n scap]).run P (w.alloc (.cells cur t0)) = .ok (goInt n) (w.alloc (.cells cs.toArray t0)) := by
  have hsrc2 : ∀ j v, cs[j]? = some v → (w.alloc (.cells cur t0)).cell? (ad.add j) = some v := fun j v hj => by
    rw [World.cell?_alloc_lt _ _ _ (World.block_lt_of_cell? w _ (hsrc j v hj))]
    exact hsrc j v hj
  have hl := run_loadCells_list (P := P) (w.alloc (.cells cur t0)) ad cs hsrc2
  have hst := run_storeCells_at P w.heap.size 0 t0 cs 0 cur (w.alloc (.cells cur t0)) (heap_alloc_new w _) (by omega) h1
  cases hq : P.info? elem with
  | none => simp [hq] at hs
  | some i =>
    have hi : i.size = sz := by simpa [hq] using hs
    have hd : cur.toList.drop cs.length = [] := List.drop_of_length_le (by simp; omega)
    simp [Builtin.copy_, run_underlying hu, Builtin.lenOf, Builtin.firstCells, sizeOf, typeInfo, hq, hi, ← hcs, hl, hst, setRow_new, hd]
theorem run_copy_new0 (P : Program) (w : World) (dT sT ty elem t0 : TypeId) (sz : Nat) (cur : Array Value) (hu : P.underlying dT = some (.slice elem)) (hs : (P.info? elem).map (·.size) = some sz) :
    (Builtin.copy_ #[dT, sT] ty #[.slice (some ⟨w.heap.size, 0, none⟩) 0 0, .slice none 0 0]).run P (w.alloc (.cells cur t0)) = .ok (goInt 0) (w.alloc (.cells cur t0)) :=
  run_copy_nil P (w.alloc (.cells cur t0)) dT sT ty elem _ 0 0 hu (by cases hq : P.info? elem with
    | none => simp [hq] at hs
    | some i => simp)
end Go.Proofs.Ytgplpapphmaafaa

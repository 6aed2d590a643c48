/- Layer 34: Cruise of the program and of the reference (printed by gen_cr.py). -/
import Derived.Test.YtgplpapphmaafaaBl
namespace Go.Proofs.Ytgplpapphmaafaa
set_option linter.unusedSimpArgs false
set_option linter.unusedVariables false
open Go.RowKit

/-- the first and the last place of a value among the first k of a list -/
def scn (l : List Int) (v : Int) : Nat → Int × Int
  | 0 => (-1, -1)
  | k + 1 => if l.getD k 0 = v then (if (scn l v k).1 < 0 then (k : Int) else (scn l v k).1, (k : Int)) else scn l v k
def crV (ws st : Cs.Wins) (level : Int) : List Int := (Cs.tight (Cs.lowL ws (List.replicate ws.length level)) st).map fun p => p.2
def crE (ws st : Cs.Wins) (level : Int) : Int := Cs.belE ws st (List.replicate ws.length level)
def CrPost (ws st : Cs.Wins) (level : Int) (n : Nat) (w : World) (e : Ending) (w' : World) : Prop :=
  (crE ws st level = 0 → ∃ A c, e = .returned (.tuple #[.slice A n c, .int .i64 (scn (crV ws st level) level n).1, .int .i64 (scn (crV ws st level) level n).2, .int .i64 0]) ∧ Ints w' A n (crV ws st level)) ∧
  (crE ws st level ≠ 0 → e = .returned (.tuple #[.slice none 0 0, .int .i64 0, .int .i64 0, .int .i64 (crE ws st level)])) ∧ Below w.heap.size w w'
def CfRel (w : World) (g n : Nat) (level : Int) (t : Value) (wr : World) : Prop := ∃ k : Nat, k ≤ n ∧ t = .int .i64 k ∧ RowI w g n (fillF (List.replicate n level) k) wr
def CsRel (l : List Int) (level : Int) (n : Nat) (f z t : Value) : Prop := ∃ k : Nat, k ≤ n ∧ t = .int .i64 k ∧ f = .int .i64 (scn l level k).1 ∧ z = .int .i64 (scn l level k).2
theorem scn_yes {l : List Int} {v : Int} {k : Nat} (h : l[k]? = some v) : scn l v (k + 1) = (if (scn l v k).1 < 0 then (k : Int) else (scn l v k).1, (k : Int)) := by
  show (if l.getD k 0 = v then _ else _) = _
  rw [if_pos (by rw [List.getD_eq_getElem?_getD, h]; rfl)]
theorem scn_no {l : List Int} {v x : Int} {k : Nat} (h : l[k]? = some x) (hx : x ≠ v) : scn l v (k + 1) = scn l v k := by
  show (if l.getD k 0 = v then _ else _) = _
  rw [if_neg (by rw [List.getD_eq_getElem?_getD, h]; exact hx)]

end Go.Proofs.Ytgplpapphmaafaa

/- What is read of windows and steps among the arguments; lists that are results. -/
import Derived.Test.YtgplpapphmaafaaOpen
import Derived.Test.YtgplpapphmaafaaCs
namespace Go.Proofs.Ytgplpapphmaafaa
set_option linter.unusedSimpArgs false
set_option linter.unusedVariables false
open Go.RowKit Go.ChangeShapes Go.WideShapes Go.Deep

def WinWf (p : Int × Int) : Prop := I64 p.1 ∧ I64 p.2
instance : Inhabited (Int × Int) := ⟨(0, 0)⟩
theorem el_win {H : Type} {enc : TypeId × Value → H} {w : World} {base : Nat} {spare : Nat → Bool} {held : Bool} (n : Nat) (cs : List Value) (y : DataW H × List MemPlace) (h : DataW.trod enc Try.prog w base spare held n 42 cs = some y) : ∃ x, cs = win x ∧ WinWf x := by
  obtain ⟨a, b, rfl, wa, wb⟩ := el_two Try.underlying42 Try.underlying2 rfl rfl rfl rfl (by kernel_rfl) (by kernel_rfl) h
  exact ⟨(a, b), rfl, wf_i64_bd wa, wf_i64_bd wb⟩
theorem el_step {H : Type} {enc : TypeId × Value → H} {w : World} {base : Nat} {spare : Nat → Bool} {held : Bool} (n : Nat) (cs : List Value) (y : DataW H × List MemPlace) (h : DataW.trod enc Try.prog w base spare held n 52 cs = some y) : ∃ x, cs = win x ∧ WinWf x := by
  obtain ⟨a, b, rfl, wa, wb⟩ := el_two Try.underlying52 Try.underlying2 rfl rfl rfl rfl (by kernel_rfl) (by kernel_rfl) h
  exact ⟨(a, b), rfl, wf_i64_bd wa, wf_i64_bd wb⟩
/-- a list as a result, with an error beside it -/
def SlRes (l : List Int) (n : Nat) (E : Int) (w : World) (e : Ending) (w' : World) : Prop := ∃ A c, e = .returned (.tuple #[.slice A n c, .int .i64 E]) ∧ Ints w' A n l ∧ Below w.heap.size w w'
def okN (E : Int) (n : Nat) : Nat := if E = 0 then n else 0
def okL {α : Type} (E : Int) (l : List α) : List α := if E = 0 then l else []
def okI (E : Int) (i : Int) : Int := if E = 0 then i else 0
theorem okN_le {E : Int} {n m : Nat} (h : n ≤ m) : okN E n ≤ m := by unfold okN; split <;> omega
end Go.Proofs.Ytgplpapphmaafaa

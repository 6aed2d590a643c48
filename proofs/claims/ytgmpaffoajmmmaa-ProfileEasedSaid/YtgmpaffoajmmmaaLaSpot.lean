/- Layer 34: what is read of a Spot among the arguments. -/
import Derived.Test.YtgmpaffoajmmmaaLaRes34
namespace Go.Proofs.Ytgmpaffoajmmmaa
set_option linter.unusedSimpArgs false
set_option linter.unusedVariables false
open Go.RowKit Go.ChangeShapes Go.WideShapes Go.Deep

theorem el_spot {H : Type} {enc : TypeId × Value → H} {w : World} {base : Nat} {spare : Nat → Bool} {held : Bool} (n : Nat) (cs : List Value) (y : DataW H × List MemPlace) (h : DataW.trod enc Try.prog w base spare held n 36 cs = some y) : ∃ a b, cs = [.int .i64 a, .int .i64 b] ∧ (Lit.int .i64 a).wf = true ∧ (Lit.int .i64 b).wf = true :=
  el_two Try.underlying36 Try.underlying2 rfl rfl rfl rfl (by kernel_rfl) (by kernel_rfl) h
theorem bw_b {F : FuncId} {args : Array Value} {w : World} {X Y : Int} (h : Calls Try.prog F args w (BwPost X Y w)) : Calls Try.prog F args w (BwB X Y w) :=
  h.mono fun e w' ⟨h1, q, h2⟩ => ⟨h1, by rw [h2]; exact below_drewN (Below.refl _ _) q⟩
end Go.Proofs.Ytgmpaffoajmmmaa

/- The walks of the statements of layer 1. -/
import Derived.Test.YthhegchfmobkaaaLaAw
import Derived.Test.YthhegchfmobkaaaFrame
import Derived.Test.YthhegchfmobkaaaLaVals
namespace Go.Proofs.Ythhegchfmobkaaa
set_option linter.unusedSimpArgs false
set_option linter.unusedVariables false
open Go.RowKit

theorem same_refl (x e : Int) (w : World) : Calls Try.prog 14 #[.int .i64 x, .int .i64 e, .int .i64 x, .int .i64 e] w fun e' w' => e' = .returned (.bool true) ∧ w = w' := by
  go_enter Try.func14, Try.ntmps14
  go_wp2
  go_ret
  exact ⟨rfl, rfl⟩
theorem cval {F : FuncId} {args : Array Value} {w : World} {k l : IntKind} {X Y V E : Int} {R : World → Prop} (h : Calls Try.prog F args w fun e w' => e = .returned (.tuple #[.int k X, .int l Y]) ∧ R w') (hx : X = V) (hy : Y = E) :
    Calls Try.prog F args w fun e w' => e = .returned (.tuple #[.int k V, .int l E]) ∧ R w' := by subst hx hy; exact h
theorem cval1 {F : FuncId} {args : Array Value} {w : World} {k : IntKind} {X V : Int} {R : World → Prop} (h : Calls Try.prog F args w fun e w' => e = .returned (.int k X) ∧ R w') (hx : X = V) :
    Calls Try.prog F args w fun e w' => e = .returned (.int k V) ∧ R w' := by subst hx; exact h
theorem flip {F : FuncId} {args : Array Value} {w : World} {v : Value} (h : Calls Try.prog F args w fun e w' => e = .returned v ∧ w = w') : Calls Try.prog F args w fun e w' => e = .returned v ∧ w' = w :=
  h.mono fun _ _ ⟨h1, h2⟩ => ⟨h1, h2.symm⟩
theorem zero_I64 : I64 0 := ⟨by decide, by decide⟩
end Go.Proofs.Ythhegchfmobkaaa

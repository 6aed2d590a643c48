/- The walks of the statements of layer 1. -/
import Derived.Test.YthhegchfmobkaaaLaAw
import Derived.Test.YthhegchfmobkaaaFrame
import Derived.Test.YthhegchfmobkaaaFxMath
namespace Go.Proofs.Ythhegchfmobkaaa
set_option linter.unusedSimpArgs false
set_option linter.unusedVariables false
open Go.RowKit

theorem same_refl (x e : Int) (w : World) : Calls Try.prog 14 #[.int .i64 x, .int .i64 e, .int .i64 x, .int .i64 e] w fun e' w' => e' = .returned (.bool true) ∧ w = w' := by
  go_enter Try.func14, Try.ntmps14
  go_wp2
  go_ret
  exact ⟨rfl, rfl⟩
end Go.Proofs.Ythhegchfmobkaaa

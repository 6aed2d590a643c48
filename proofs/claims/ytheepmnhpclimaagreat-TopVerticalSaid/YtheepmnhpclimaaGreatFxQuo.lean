
/- The reference of layer 1: quotient computes what the plain words of FxPlain say. -/
import Derived.Test.YtheepmnhpclimaaGreatM17
import Derived.Deep.DeepCutAuto
import Derived.Laws.BitsAllLaws
namespace Go.Proofs.YtheepmnhpclimaaGreat
set_option linter.unusedSimpArgs false
set_option linter.unusedVariables false
open Go.RowKit

end Go.Proofs.YtheepmnhpclimaaGreat

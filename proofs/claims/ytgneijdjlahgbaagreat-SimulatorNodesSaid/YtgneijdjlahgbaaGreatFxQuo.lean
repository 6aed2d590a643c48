
/- The reference of layer 1: quotient computes what the plain words of FxPlain say. -/
import Derived.Test.YtgneijdjlahgbaaGreatM17
import Derived.Deep.DeepCutAuto
import Derived.Laws.BitsAllLaws
namespace Go.Proofs.YtgneijdjlahgbaaGreat
set_option linter.unusedSimpArgs false
set_option linter.unusedVariables false
open Go.RowKit

end Go.Proofs.YtgneijdjlahgbaaGreat

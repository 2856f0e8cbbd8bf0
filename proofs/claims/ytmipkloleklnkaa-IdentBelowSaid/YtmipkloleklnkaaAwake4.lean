
/- The walks of the law's awake and of cell's Of. -/
import Derived.Test.YtmipkloleklnkaaBaseLaw
namespace Go.Proofs.Ytmipkloleklnkaa
open Go.RowKit
set_option linter.unusedSimpArgs false
set_option linter.unusedVariables false
end Go.Proofs.Ytmipkloleklnkaa

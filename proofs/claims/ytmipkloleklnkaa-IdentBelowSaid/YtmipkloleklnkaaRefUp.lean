
/- The walk of the reference's Up. -/
import Derived.Test.YtmipkloleklnkaaWithin
namespace Go.Proofs.Ytmipkloleklnkaa
open Go.RowKit
set_option linter.unusedSimpArgs false
set_option linter.unusedVariables false
end Go.Proofs.Ytmipkloleklnkaa

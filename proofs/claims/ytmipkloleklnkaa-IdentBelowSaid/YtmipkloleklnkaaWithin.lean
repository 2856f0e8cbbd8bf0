
/- The walk of cell's Within. -/
import Derived.Test.YtmipkloleklnkaaCellUps
namespace Go.Proofs.Ytmipkloleklnkaa
open Go.RowKit
set_option linter.unusedSimpArgs false
set_option linter.unusedVariables false
/-- Is a cell another one, or within it? -/
def wthB (r a b s c d : Int) : Bool := okB r a b && okB s c d && decide (s ≤ r) && decide ((zz a b (r - s).toNat).1 = c ∧ (zz a b (r - s).toNat).2 = d)
end Go.Proofs.Ytmipkloleklnkaa

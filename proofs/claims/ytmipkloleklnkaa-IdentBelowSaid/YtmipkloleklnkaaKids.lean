
/- The walks of cell's child and Children. -/
import Derived.Test.YtmipkloleklnkaaSome
namespace Go.Proofs.Ytmipkloleklnkaa
open Go.RowKit
set_option linter.unusedSimpArgs false
set_option linter.unusedVariables false
theorem news3' (w : World) (x y z : Value) (e : TypeId) : ∀ j u, [x, y, z][j]? = some u → (w.alloc (.cells #[x, y, z] e)).cell? ((⟨w.heap.size, 0, none⟩ : Addr).add j) = some u := by
  intro j u hj
  match j, hj with
  | 0, hj => simp at hj; subst hj; simp [go_sem, Addr.add]
  | 1, hj => simp at hj; subst hj; simp [go_sem, Addr.add]
  | 2, hj => simp at hj; subst hj; simp [go_sem, Addr.add]
end Go.Proofs.Ytmipkloleklnkaa

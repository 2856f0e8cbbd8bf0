
/- The walks of num.Mul where both are not below nought and the product fits, and of num.Pow at 7. -/
import Derived.Test.YtmipkloleklnkaaPow
namespace Go.Proofs.Ytmipkloleklnkaa
open Go.RowKit
set_option linter.unusedSimpArgs false
set_option linter.unusedVariables false
def NPowRel (w : World) (B K : Nat) (i : Value) (W : World) : Prop :=
  ∃ j : Nat, j ≤ K ∧ i = .int .i64 ((K : Int) - (j : Int)) ∧ W.cell? ⟨B, 0, none⟩ = some (.int .i64 7) ∧ W.cell? ⟨B + 1, 0, none⟩ = some (.int .i64 (p7 j)) ∧ W.cell? ⟨B + 1 + 1, 0, none⟩ = some (.bool true)
    ∧ W.frozen? ⟨B + 1, 0, none⟩ = false ∧ W.frozen? ⟨B + 1 + 1, 0, none⟩ = false ∧ Below w.heap.size w W
end Go.Proofs.Ytmipkloleklnkaa

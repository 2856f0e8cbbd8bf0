
/- CellUps: going up by sizes one by one, or at once, leads to the same cell. No condition. -/
import Derived.Test.YtmipkloleklnkaaSome
namespace Go.Proofs.Ytmipkloleklnkaa
open Go.RowKit
set_option linter.unusedSimpArgs false
set_option linter.unusedVariables false
/-- What lies above a cell that may be may be. -/
theorem ok_up (r a b s : Int) (n : Nat) (h : okB r a b = true) (hn : r - s = (n : Int)) (hs : 0 ≤ s) : okB s (zz a b n).1 (zz a b n).2 = true := by
  obtain ⟨⟨r1, r2⟩, hz, hb⟩ := okB_true h
  obtain ⟨z1, z2, z3, z4⟩ := zOk_true hz
  obtain ⟨b1, b2, b3, b4⟩ := zz_bd a b 1073741824 (by omega) z1 z2 z3 z4 n
  unfold okB
  rw [show rsB s = true from decide_eq_true (by omega), show zOk (zz a b n).1 (zz a b n).2 = true from decide_eq_true ⟨b1, b2, b3, b4⟩, zz_add, show n + s.toNat = r.toNat by omega]
  exact hb
end Go.Proofs.Ytmipkloleklnkaa

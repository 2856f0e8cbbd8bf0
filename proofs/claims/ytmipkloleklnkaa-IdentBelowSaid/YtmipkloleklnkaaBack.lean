
/- PlaneBack and PlaneStraight: a centre that lies in the world is nearest to itself. No condition. -/
import Derived.Test.YtmipkloleklnkaaRow
import Derived.Test.YtmipkloleklnkaaCentre
namespace Go.Proofs.Ytmipkloleklnkaa
open Go.RowKit
set_option linter.unusedSimpArgs false
set_option linter.unusedVariables false
theorem cj_p7 : ∀ k : Nat, k < 13 → -(2 * p7 k) ≤ cjA k ∧ cjA k ≤ 2 * p7 k ∧ -(2 * p7 k) ≤ cjB k ∧ cjB k ≤ 2 * p7 k := by decide
theorem bt_norm : ∀ k : Nat, k < 13 → (bt k).1 * (bt k).1 + (bt k).1 * (bt k).2 + (bt k).2 * (bt k).2 = p7 k := by decide
theorem quo_le (x d M : Int) (hd : 1 ≤ d) (h1 : -(M * d) ≤ x) (h2 : x ≤ M * d) : -M ≤ x / d ∧ x / d ≤ M :=
  ⟨Int.le_ediv_of_mul_le (by omega) (by rw [Int.neg_mul]; exact h1), Int.ediv_le_of_le_mul (by omega) h2⟩
theorem near_tame (x y : Int) (k : Nat) (hk : k < 13) (h1 : 0 ≤ x) (h2 : x < 1073741824) (h3 : 0 ≤ y) (h4 : y < 1073741824) :
    -140000001 ≤ nearA x y k ∧ nearA x y k ≤ 140000001 ∧ -140000001 ≤ nearB x y k ∧ nearB x y k ≤ 140000001 := by
  obtain ⟨c1, c2, c3, c4⟩ := cj_p7 k hk
  obtain ⟨p1, p2⟩ := p7_small k hk
  have m1 := mul_bd (45 * x - 26 * y) (cjA k) 48318382080 (2 * p7 k) (by omega) (by omega) c1 c2
  have m2 := mul_bd (45 * x - 26 * y) (cjB k) 48318382080 (2 * p7 k) (by omega) (by omega) c3 c4
  have m3 := mul_bd (52 * y) (cjA k) 55834574848 (2 * p7 k) (by omega) (by omega) c1 c2
  have m4 := mul_bd (52 * y) (cjB k) 55834574848 (2 * p7 k) (by omega) (by omega) c3 c4
  have q1 := quo_le (nrX x y k) (2340 * p7 k) 140000000 (by omega) (by unfold nrX; omega) (by unfold nrX; omega)
  have q2 := quo_le (nrY x y k) (2340 * p7 k) 140000000 (by omega) (by unfold nrY; omega) (by unfold nrY; omega)
  have r := rat_bd (nrX x y k % (2340 * p7 k)) (nrY x y k % (2340 * p7 k)) (2340 * p7 k) 3
  unfold nearA nearB rdA rdB
  omega
/-- A centre is nearest to itself. -/
theorem near_centre (a b : Int) (k : Nat) (hk : k < 13) : nearA (ceX a b k) (ceY a b k) k = a ∧ nearB (ceX a b k) (ceY a b k) k = b := by
  have n := bt_norm k hk
  have p := p7_small k hk
  have e1 : nrX (ceX a b k) (ceY a b k) k = 2340 * p7 k * a := by
    rw [← n]; unfold nrX ceX ceY plA plB cjA cjB; grind
  have e2 : nrY (ceX a b k) (ceY a b k) k = 2340 * p7 k * b := by
    rw [← n]; unfold nrY ceX ceY plA plB cjA cjB; grind
  unfold nearA nearB
  rw [e1, e2]
  exact rd_whole (2340 * p7 k) a b (by omega)
/-- A size made of a number. -/
theorem res_of (r : Int) : ∃ K : Nat, K < 13 ∧ (r.tmod 13 + 13).tmod 13 = 12 - (K : Int) := by
  have h := tmod_bd r 13 (by omega)
  have e : (r.tmod 13 + 13).tmod 13 = (r.tmod 13 + 13) % 13 := Int.tmod_eq_emod_of_nonneg (by omega)
  exact ⟨(12 - (r.tmod 13 + 13).tmod 13).toNat, by omega, by omega⟩
end Go.Proofs.Ytmipkloleklnkaa

/- EisenSteps: Steps are a metric: nought just of nought, the same back, never more by a third one; a Unit is one step. No condition. -/
import Derived.Test.YtajojnbpmbkghaaRow
import Derived.Test.YtajojnbpmbkghaaSteps
namespace Go.Proofs.Ytajojnbpmbkghaa
open Go.RowKit
set_option linter.unusedSimpArgs false
set_option linter.unusedVariables false
theorem szI_spec (n : Int) : (0 ≤ n ∧ szI n = n) ∨ (n < 0 ∧ szI n = -n) := by
  by_cases h : n < 0
  · exact .inr ⟨h, szI_neg h⟩
  · exact .inl ⟨by omega, szI_pos h⟩
theorem mx_spec (x y : Int) : x ≤ mx x y ∧ y ≤ mx x y ∧ (mx x y = x ∨ mx x y = y) := by
  unfold mx; split <;> omega
theorem stV_spec (a b : Int) : szI a ≤ stV a b ∧ szI b ≤ stV a b ∧ szI (a + b) ≤ stV a b ∧ (stV a b = szI a ∨ stV a b = szI b ∨ stV a b = szI (a + b)) := by
  have h1 := mx_spec 0 (szI a)
  have h2 := mx_spec (mx 0 (szI a)) (szI b)
  have h3 := mx_spec (mx (mx 0 (szI a)) (szI b)) (szI (a + b))
  have e : stV a b = mx (mx (mx 0 (szI a)) (szI b)) (szI (a + b)) := rfl
  rw [← e] at h3
  have h4 := szI_spec a
  have h5 := szI_spec b
  have h6 := szI_spec (a + b)
  omega
theorem szI_neg' (n : Int) : szI (-n) = szI n := by
  have h1 := szI_spec n
  have h2 := szI_spec (-n)
  omega
theorem szI_add (x y : Int) : szI (x + y) ≤ szI x + szI y := by
  have h1 := szI_spec x
  have h2 := szI_spec y
  have h3 := szI_spec (x + y)
  omega
theorem szI_nonneg (x : Int) : 0 ≤ szI x := by
  have h1 := szI_spec x
  omega
theorem szI_zero (x : Int) (h : szI x = 0) : x = 0 := by
  have h1 := szI_spec x
  omega
theorem szI_bd (x m : Int) (h1 : -m ≤ x) (h2 : x ≤ m) : szI x ≤ m := by
  have h1 := szI_spec x
  omega
theorem stV_neg (a b : Int) : stV (-a) (-b) = stV a b := by
  unfold stV
  rw [szI_neg', szI_neg', show -a + -b = -(a + b) by omega, szI_neg']
theorem stV_nonneg (a b : Int) : 0 ≤ stV a b := by
  have h := stV_spec a b
  have := szI_nonneg a
  omega
theorem stV_tri (a b c d : Int) : stV (a + c) (b + d) ≤ stV a b + stV c d := by
  obtain ⟨p1, p2, p3, _⟩ := stV_spec a b
  obtain ⟨r1, r2, r3, _⟩ := stV_spec c d
  obtain ⟨_, _, _, q⟩ := stV_spec (a + c) (b + d)
  have e1 := szI_add a c
  have e2 := szI_add b d
  have e3 := szI_add (a + b) (c + d)
  rw [show a + b + (c + d) = a + c + (b + d) by omega] at e3
  rcases q with q | q | q <;> omega
theorem stV_bd (a b m : Int) (h1 : -m ≤ a) (h2 : a ≤ m) (h3 : -m ≤ b) (h4 : b ≤ m) : stV a b ≤ 2 * m := by
  obtain ⟨_, _, _, q⟩ := stV_spec a b
  have e1 := szI_bd a m h1 h2
  have e2 := szI_bd b m h3 h4
  have e3 := szI_add a b
  have := szI_nonneg a
  have := szI_nonneg b
  rcases q with q | q | q <;> omega
theorem stV_zero (a b : Int) : (a ≠ 0 ∧ stV a b ≠ 0) ∨ (a = 0 ∧ b ≠ 0 ∧ stV a b ≠ 0) ∨ (a = 0 ∧ b = 0 ∧ stV a b = 0) := by
  obtain ⟨p1, p2, p3, _⟩ := stV_spec a b
  by_cases ha : a = 0
  · by_cases hb : b = 0
    · subst ha hb; exact .inr (.inr ⟨rfl, rfl, by decide⟩)
    · exact .inr (.inl ⟨ha, hb, fun h => hb (szI_zero b (by have := szI_nonneg b; omega))⟩)
  · exact .inl ⟨ha, fun h => ha (szI_zero a (by have := szI_nonneg a; omega))⟩
theorem unit_steps (k : Int) : stV (uA (k % 6)) (uB (k % 6)) = 1 := by
  have hj : k % 6 = 0 ∨ k % 6 = 1 ∨ k % 6 = 2 ∨ k % 6 = 3 ∨ k % 6 = 4 ∨ k % 6 = 5 := by omega
  rcases hj with h | h | h | h | h | h <;> rw [h] <;> decide
theorem unit_bd (k : Int) : -1 ≤ uA (k % 6) ∧ uA (k % 6) ≤ 1 ∧ -1 ≤ uB (k % 6) ∧ uB (k % 6) ≤ 1 := by
  have hj : k % 6 = 0 ∨ k % 6 = 1 ∨ k % 6 = 2 ∨ k % 6 = 3 ∨ k % 6 = 4 ∨ k % 6 = 5 := by omega
  rcases hj with h | h | h | h | h | h <;> rw [h] <;> decide
end Go.Proofs.Ytajojnbpmbkghaa

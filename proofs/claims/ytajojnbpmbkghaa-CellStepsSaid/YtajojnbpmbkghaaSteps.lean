/- The walks of Steps: the program's and the reference's. -/
import Derived.Test.YtajojnbpmbkghaaRefRound
import Derived.Test.YtajojnbpmbkghaaFit
namespace Go.Proofs.Ytajojnbpmbkghaa
open Go.RowKit
set_option linter.unusedSimpArgs false
set_option linter.unusedVariables false
/-- Has a number a size? -/
def szB (n : Int) : Bool := i64B n && decide (n ≠ -9223372036854775808)
def stB (a b : Int) : Bool := szB (a + b) && szB a && szB b
/-- The greater of two, as Go has it. -/
def mx (x y : Int) : Int := if x < y then y else x
def stV (a b : Int) : Int := mx (mx (mx 0 (szI a)) (szI b)) (szI (a + b))
def stA (a b : Int) : Int := if stB a b = true then stV a b else 0
def stn (a b : Int) (k : Nat) : Int := if k = 0 then a else if k = 1 then b else a + b
def stm (a b : Int) : Nat → Int
  | 0 => 0
  | k + 1 => mx (stm a b k) (szI (stn a b k))
theorem st_yes (a b : Int) (ha : -9223372036854775808 ≤ a) (ha' : a ≤ 9223372036854775807) (hb : -9223372036854775808 ≤ b) (hb' : b ≤ 9223372036854775807) (h1 : i64B (a + b) = true) (h : ∀ k, k < 3 → stn a b k ≠ -9223372036854775808) : stB a b = true ∧ stA a b = stm a b 3 := by
  have e0 : a ≠ -9223372036854775808 := h 0 (by omega)
  have e1 : b ≠ -9223372036854775808 := h 1 (by omega)
  have e2 : a + b ≠ -9223372036854775808 := h 2 (by omega)
  have hB : stB a b = true := by
    unfold stB szB
    rw [h1, i64B_mk ha ha', i64B_mk hb hb']
    simp [e0, e1, e2]
  refine ⟨hB, ?_⟩
  unfold stA
  rw [if_pos hB]
  simp [stV, stm, stn]
theorem st_no (a b : Int) (h : i64B (a + b) = false ∨ a = -9223372036854775808 ∨ b = -9223372036854775808 ∨ a + b = -9223372036854775808) : stB a b = false ∧ stA a b = 0 := by
  have hB : stB a b = false := by
    unfold stB szB
    rcases h with h | h | h | h
    · rw [h]; simp
    · simp [h]
    · simp [h]
    · simp [h]
  exact ⟨hB, by unfold stA; rw [hB]; rfl⟩
theorem st_next {a b B F : Int} {k : Nat} (hB : B = stm a b k) (hF : szI (stn a b k) = F) : Value.int .i64 (if B < F then F else B) = .int .i64 (stm a b (k + 1)) := by
  subst hB hF; rfl
theorem st_more {a b : Int} {k : Nat} (h : ∀ j, j < k → stn a b j ≠ -9223372036854775808) (hk : stn a b k ≠ -9223372036854775808) : ∀ j, j < k + 1 → stn a b j ≠ -9223372036854775808 := fun j hj => by
  by_cases e : j = k
  · subst e; exact hk
  · exact h j (by omega)
end Go.Proofs.Ytajojnbpmbkghaa


/- The walks of plane's spot, place and Centre. -/
import Derived.Test.YtmipkloleklnkaaPoint3
namespace Go.Proofs.Ytmipkloleklnkaa
open Go.RowKit
set_option linter.unusedSimpArgs false
set_option linter.unusedVariables false
/-- Is a centre's number in its bounds? -/
def zOk (a b : Int) : Bool := decide (-1073741824 ≤ a ∧ a ≤ 1073741824 ∧ -1073741824 ≤ b ∧ b ≤ 1073741824)
theorem zOk_true {a b : Int} (h : zOk a b = true) : -1073741824 ≤ a ∧ a ≤ 1073741824 ∧ -1073741824 ≤ b ∧ b ≤ 1073741824 := of_decide_eq_true h
/-- A centre's number in the finest lattice. -/
def plA (a b : Int) (k : Nat) : Int := (bt k).1 * a - (bt k).2 * b
def plB (a b : Int) (k : Nat) : Int := (bt k).1 * b + (bt k).2 * a + (bt k).2 * b
theorem pl_bd (a b : Int) (k : Nat) (hk : k < 13) (M : Int) (hM : 0 ≤ M) (h1 : -M ≤ a) (h2 : a ≤ M) (h3 : -M ≤ b) (h4 : b ≤ M) :
    -(1200000 * M) ≤ plA a b k ∧ plA a b k ≤ 1200000 * M ∧ -(1200000 * M) ≤ plB a b k ∧ plB a b k ≤ 1200000 * M := by
  obtain ⟨b1, b2, b3, b4⟩ := bt_small k hk
  have m1 := mul_bd (bt k).1 a 400000 M b1 b2 h1 h2
  have m2 := mul_bd (bt k).2 b 400000 M b3 b4 h3 h4
  have m3 := mul_bd (bt k).1 b 400000 M b1 b2 h3 h4
  have m4 := mul_bd (bt k).2 a 400000 M b3 b4 h1 h2
  unfold plA plB
  omega
theorem pl_times (a b c : Int) (k : Nat) : plA (c * a) (c * b) k = c * plA a b k ∧ plB (c * a) (c * b) k = c * plB a b k := by
  unfold plA plB
  constructor <;> grind
/-- Where a centre lies. -/
def ceX (a b : Int) (k : Nat) : Int := 52 * plA a b k + 26 * plB a b k
def ceY (a b : Int) (k : Nat) : Int := 45 * plB a b k
end Go.Proofs.Ytmipkloleklnkaa

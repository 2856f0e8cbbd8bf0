
/- The walks of plane: Ok, isRes, Axial, Near, spot, place, Centre, Width; the reference's World, conj, Near, Centre; apiarylaw3's Point. -/
import Derived.Test.YtmipkloleklnkaaNumPow
import Derived.Test.YtmipkloleklnkaaFit
import Derived.Test.YtmipkloleklnkaaRefRound
namespace Go.Proofs.Ytmipkloleklnkaa
open Go.RowKit
set_option linter.unusedSimpArgs false
set_option linter.unusedVariables false
/-- Is a point of the world? -/
def wdB (x y : Int) : Bool := decide (0 ≤ x ∧ x < 1073741824 ∧ 0 ≤ y ∧ y < 1073741824)
/-- Is a size? -/
def rsB (r : Int) : Bool := decide (0 ≤ r ∧ r ≤ 12)
set_option maxHeartbeats 400000 in
theorem ref_world (x y : Int) (w : World) : Calls Try.prog 70 #[.int .i64 x, .int .i64 y] w fun e w' => e = .returned (.bool (wdB x y)) ∧ w = w' := by
  by_cases c1 : 0 ≤ x
  · by_cases c2 : x < 1073741824
    · by_cases c3 : 0 ≤ y
      · by_cases c4 : y < 1073741824
        · have E : Hid (wdB x y = true) := Lib.hid (decide_eq_true ⟨c1, c2, c3, c4⟩)
          go_enter Try.func70, Try.ntmps70
          go_wp2
          go_ret
          exact ⟨ret_b E.out.symm, rfl⟩
        · have E : Hid (wdB x y = false) := Lib.hid (decide_eq_false (by omega))
          go_enter Try.func70, Try.ntmps70
          go_wp2
          go_ret
          exact ⟨ret_b E.out.symm, rfl⟩
      · have E : Hid (wdB x y = false) := Lib.hid (decide_eq_false (by omega))
        go_enter Try.func70, Try.ntmps70
        go_wp2
        go_ret
        exact ⟨ret_b E.out.symm, rfl⟩
    · have E : Hid (wdB x y = false) := Lib.hid (decide_eq_false (by omega))
      go_enter Try.func70, Try.ntmps70
      go_wp2
      go_ret
      exact ⟨ret_b E.out.symm, rfl⟩
  · have E : Hid (wdB x y = false) := Lib.hid (decide_eq_false (by omega))
    go_enter Try.func70, Try.ntmps70
    go_wp2
    go_ret
    exact ⟨ret_b E.out.symm, rfl⟩
theorem wdB_true {x y : Int} (h : wdB x y = true) : 0 ≤ x ∧ x < 1073741824 ∧ 0 ≤ y ∧ y < 1073741824 := of_decide_eq_true h
theorem rsB_true {r : Int} (h : rsB r = true) : 0 ≤ r ∧ r ≤ 12 := of_decide_eq_true h
/-- The nearest centre: of the k-th power down from the finest. -/
def cjA (k : Nat) : Int := (bt k).1 + (bt k).2
def cjB (k : Nat) : Int := -(bt k).2
def nrX (x y : Int) (k : Nat) : Int := (45 * x - 26 * y) * cjA k - 52 * y * cjB k
def nrY (x y : Int) (k : Nat) : Int := (45 * x - 26 * y) * cjB k + 52 * y * cjA k + 52 * y * cjB k
def nearA (x y : Int) (k : Nat) : Int := rdA (nrX x y k) (nrY x y k) (2340 * p7 k)
def nearB (x y : Int) (k : Nat) : Int := rdB (nrX x y k) (nrY x y k) (2340 * p7 k)
theorem bt_small : ∀ k : Nat, k < 13 → -400000 ≤ (bt k).1 ∧ (bt k).1 ≤ 400000 ∧ -400000 ≤ (bt k).2 ∧ (bt k).2 ≤ 400000 := by decide
theorem p7_small : ∀ k : Nat, k < 13 → 1 ≤ p7 k ∧ p7 k ≤ 13841287201 := by decide
end Go.Proofs.Ytmipkloleklnkaa

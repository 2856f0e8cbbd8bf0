
/- The plain law: the cell of a point may be, of each size: the coarsest number around it lies within its bounds. -/
import Derived.Test.YtmipkloleklnkaaCellOps
namespace Go.Proofs.Ytmipkloleklnkaa
open Go.RowKit
def qn (a b : Int) : Int := a * a + a * b + b * b
theorem mul_self_nonneg' (x : Int) : 0 ≤ x * x := by
  rcases Int.lt_or_le x 0 with h | h
  · have := Int.mul_nonneg (show 0 ≤ -x by omega) (show 0 ≤ -x by omega)
    rwa [Int.neg_mul_neg] at this
  · exact Int.mul_nonneg h h
theorem qn_young (x y s t : Int) : 50 * qn (x - s) (y - t) ≤ 51 * qn x y + 2550 * qn s t := by
  have h : 0 ≤ (2 * (x + 50 * s) + (y + 50 * t)) * (2 * (x + 50 * s) + (y + 50 * t)) + 3 * ((y + 50 * t) * (y + 50 * t)) := by
    have h1 : 0 ≤ (2 * (x + 50 * s) + (y + 50 * t)) * (2 * (x + 50 * s) + (y + 50 * t)) := mul_self_nonneg' _
    have h2 : 0 ≤ (y + 50 * t) * (y + 50 * t) := mul_self_nonneg' _
    omega
  have e : 4 * (51 * qn x y + 2550 * qn s t - 50 * qn (x - s) (y - t)) = (2 * (x + 50 * s) + (y + 50 * t)) * (2 * (x + 50 * s) + (y + 50 * t)) + 3 * ((y + 50 * t) * (y + 50 * t)) := by
    unfold qn
    grind
  omega
theorem qn_times (a b c d : Int) : qn (a * c - b * d) (a * d + b * c + b * d) = qn a b * qn c d := by
  unfold qn
  grind
theorem qn_seven (a b : Int) : qn (7 * a) (7 * b) = 49 * qn a b := by
  unfold qn
  grind
theorem qn_up (a b : Int) : 2450 * qn (upA a b) (upB a b) ≤ 357 * qn a b + 40800 := by
  have hx := up_hexa a b
  have h3 := hexa_third _ _ _ hx
  have hy := qn_young (3 * a + b) (2 * b - a) (3 * a + b - 7 * upA a b) (2 * b - a - 7 * upB a b)
  have e1 : 3 * a + b - (3 * a + b - 7 * upA a b) = 7 * upA a b := by omega
  have e2 : 2 * b - a - (2 * b - a - 7 * upB a b) = 7 * upB a b := by omega
  rw [e1, e2, qn_seven] at hy
  have e3 : qn (3 * a + b) (2 * b - a) = 7 * qn a b := by unfold qn; grind
  rw [e3] at hy
  have h4 : 3 * qn (3 * a + b - 7 * upA a b) (2 * b - a - 7 * upB a b) ≤ 49 := h3
  omega
/-- How great the norm may be so many steps up. -/
def itB (B : Int) : Nat → Int
  | 0 => B
  | n + 1 => (357 * itB B n + 40800) / 2450
theorem qn_zz (a b B : Int) (h : qn a b ≤ B) (n : Nat) : qn (zz a b n).1 (zz a b n).2 ≤ itB B n := by
  induction n with
  | zero => exact h
  | succ n ih =>
    have hu := qn_up (zz a b n).1 (zz a b n).2
    show qn (upA (zz a b n).1 (zz a b n).2) (upB (zz a b n).1 (zz a b n).2) ≤ (357 * itB B n + 40800) / 2450
    omega
theorem qn_part (a b : Int) (h : qn a b ≤ 195840) : -512 ≤ a ∧ a < 512 ∧ -512 ≤ b ∧ b < 512 := by
  have e1 : 4 * qn a b = 3 * (a * a) + (a + 2 * b) * (a + 2 * b) := by unfold qn; grind
  have e2 : 4 * qn a b = 3 * (b * b) + (b + 2 * a) * (b + 2 * a) := by unfold qn; grind
  have p1 := mul_self_nonneg' (a + 2 * b)
  have p2 := mul_self_nonneg' (b + 2 * a)
  have k : ∀ c : Int, c * c ≤ 261120 → -512 < c ∧ c < 512 := by
    intro c hc
    constructor
    · rcases Int.lt_or_le (-512) c with h | h
      · exact h
      · have := Int.mul_le_mul (show (512 : Int) ≤ -c by omega) (show (512 : Int) ≤ -c by omega) (by omega) (by omega)
        rw [Int.neg_mul_neg] at this
        omega
    · rcases Int.lt_or_le c 512 with h | h
      · exact h
      · have := Int.mul_le_mul h h (by omega) (by omega)
        omega
  have k1 := k a (by omega)
  have k2 := k b (by omega)
  omega
theorem nr_qn (x y : Int) (K : Nat) (hK : K < 13) : qn (nrX x y K) (nrY x y K) = (2025 * (x * x) + 2028 * (y * y)) * p7 K := by
  have h0 := bt_norm K hK
  have h1 := qn_times (45 * x - 26 * y) (52 * y) (cjA K) (cjB K)
  have e1 : qn (45 * x - 26 * y) (52 * y) = 2025 * (x * x) + 2028 * (y * y) := by unfold qn; grind
  have e2 : qn (cjA K) (cjB K) = p7 K := by
    rw [← h0]
    unfold qn cjA cjB
    generalize (bt K).1 = t1
    generalize (bt K).2 = t2
    grind
  rw [e1, e2] at h1
  exact h1
def bK (K : Nat) : Int := (153 * (4053 * 1152921504606846976) + 2550 * 5475600 * p7 K) / (150 * 5475600 * p7 K)
theorem near_qn (x y : Int) (K : Nat) (hK : K < 13) (x1 : 0 ≤ x) (x2 : x < 1073741824) (y1 : 0 ≤ y) (y2 : y < 1073741824) : qn (nearA x y K) (nearB x y K) ≤ bK K := by
  obtain ⟨p1, p2⟩ := p7_small K hK
  have hx := rd_hexa (nrX x y K) (nrY x y K) (2340 * p7 K) (by omega)
  have h3 := hexa_third _ _ _ hx
  have hy := qn_young (nrX x y K) (nrY x y K) (nrX x y K - 2340 * p7 K * nearA x y K) (nrY x y K - 2340 * p7 K * nearB x y K)
  rw [show nrX x y K - (nrX x y K - 2340 * p7 K * nearA x y K) = 2340 * p7 K * nearA x y K by omega, show nrY x y K - (nrY x y K - 2340 * p7 K * nearB x y K) = 2340 * p7 K * nearB x y K by omega, nr_qn x y K hK] at hy
  have h4 : 3 * qn (nrX x y K - 2340 * p7 K * nearA x y K) (nrY x y K - 2340 * p7 K * nearB x y K) ≤ 2340 * p7 K * (2340 * p7 K) := h3
  have e1 : qn (2340 * p7 K * nearA x y K) (2340 * p7 K * nearB x y K) = p7 K * (5475600 * p7 K * qn (nearA x y K) (nearB x y K)) := by unfold qn; grind
  have e2 : (2340 * p7 K) * (2340 * p7 K) = p7 K * (5475600 * p7 K) := by grind
  rw [e1] at hy
  rw [e2] at h4
  have hm : 2025 * (x * x) + 2028 * (y * y) ≤ 4053 * 1152921504606846976 := by
    have m1 := Int.mul_le_mul (show x ≤ 1073741824 by omega) (show x ≤ 1073741824 by omega) x1 (by omega)
    have m2 := Int.mul_le_mul (show y ≤ 1073741824 by omega) (show y ≤ 1073741824 by omega) y1 (by omega)
    omega
  have hm' := Int.mul_le_mul_of_nonneg_right hm (show 0 ≤ p7 K by omega)
  have hc : p7 K * (150 * 5475600 * p7 K * qn (nearA x y K) (nearB x y K)) ≤ p7 K * (153 * (4053 * 1152921504606846976) + 2550 * 5475600 * p7 K) := by
    have f1 : p7 K * (150 * 5475600 * p7 K * qn (nearA x y K) (nearB x y K)) = 150 * (p7 K * (5475600 * p7 K * qn (nearA x y K) (nearB x y K))) := by grind
    have f2 : p7 K * (153 * (4053 * 1152921504606846976) + 2550 * 5475600 * p7 K) = 153 * (4053 * 1152921504606846976 * p7 K) + 2550 * (p7 K * (5475600 * p7 K)) := by grind
    rw [f1, f2]
    omega
  have hd := Int.le_of_mul_le_mul_left hc (by omega)
  unfold bK
  refine Int.le_ediv_of_mul_le (by omega) ?_
  rw [Int.mul_comm]
  exact hd
theorem bK_fits : ∀ K : Nat, K < 13 → itB (bK K) (12 - K) ≤ 195840 := by decide
/-- The cell of a point may be. -/
theorem near_ok (x y : Int) (K : Nat) (hK : K < 13) (x1 : 0 ≤ x) (x2 : x < 1073741824) (y1 : 0 ≤ y) (y2 : y < 1073741824) : okB (12 - (K : Int)) (nearA x y K) (nearB x y K) = true := by
  obtain ⟨b1, b2, b3, b4⟩ := near_tame x y K hK x1 x2 y1 y2
  have hq := near_qn x y K hK x1 x2 y1 y2
  have hz := qn_zz _ _ _ hq (12 - K)
  obtain ⟨c1, c2, c3, c4⟩ := qn_part _ _ (Int.le_trans hz (bK_fits K hK))
  unfold okB
  rw [show rsB (12 - (K : Int)) = true from decide_eq_true (by omega), show zOk (nearA x y K) (nearB x y K) = true from decide_eq_true (by omega), show (12 - (K : Int)).toNat = 12 - K by omega]
  unfold baseB inB
  rw [decide_eq_true ⟨c1, c2⟩, decide_eq_true ⟨c3, c4⟩]
  rfl
end Go.Proofs.Ytmipkloleklnkaa

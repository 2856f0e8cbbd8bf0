
/- Small things of the statements of layer 2: tame, masks, bounds of products. -/
import Derived.Test.YtmipkloleklnkaaRoundLaw
import Derived.Test.YtmipkloleklnkaaTail
namespace Go.Proofs.Ytmipkloleklnkaa
open Go.RowKit

theorem i64_mask (d : Int) (k : Nat) (hk : k < 63) : bits .and .i64 d ((2 ^ k - 1 : Nat) : Int) = d % ((2 ^ k : Nat) : Int) := by
  have hp : 2 ^ k ≤ 2 ^ 62 := Nat.pow_le_pow_right (by omega) (by omega)
  have hp0 : 0 < 2 ^ k := Nat.two_pow_pos k
  show IntKind.i64.wrap ((BitVec.ofInt 64 d &&& BitVec.ofInt 64 ((2 ^ k - 1 : Nat) : Int)).toNat : Int) = _
  rw [BitVec.toNat_and, BitVec.toNat_ofInt, BitVec.ofInt_natCast, BitVec.toNat_ofNat, Nat.mod_eq_of_lt (a := 2 ^ k - 1) (by omega), Nat.and_two_pow_sub_one_eq_mod, IntKind.wrap_i64]
  have h1 : ((d % ((2 ^ 64 : Nat) : Int)).toNat : Int) = d % ((2 ^ 64 : Nat) : Int) := Int.toNat_of_nonneg (Int.emod_nonneg _ (by decide))
  have h2 : (((d % ((2 ^ 64 : Nat) : Int)).toNat % 2 ^ k : Nat) : Int) = d % ((2 ^ k : Nat) : Int) := by
    rw [Int.natCast_emod, h1]
    exact Int.emod_emod_of_dvd d (Int.natCast_dvd_natCast.2 (Nat.pow_dvd_pow 2 (by omega)))
  rw [h2]
  have h3 := Int.emod_nonneg d (b := ((2 ^ k : Nat) : Int)) (by omega)
  have h4 := Int.emod_lt_of_pos d (b := ((2 ^ k : Nat) : Int)) (by omega)
  omega
theorem tmod_bd (a m : Int) (hm : 0 < m) : -m < a.tmod m ∧ a.tmod m < m := by
  have h := Int.tmod_eq_emod (a := a) (b := m)
  have h1 := Int.emod_lt_of_pos a hm
  have h2 := Int.emod_nonneg a (b := m) (by omega)
  have h3 : (m.natAbs : Int) = m := by omega
  by_cases c : 0 ≤ a ∨ m ∣ a
  · rw [if_pos c] at h; omega
  · rw [if_neg c, h3] at h
    have : a % m ≠ 0 := fun hh => c (.inr (Int.dvd_of_emod_eq_zero hh))
    omega
theorem mul_bd (a b p q : Int) (h1 : -p ≤ a) (h2 : a ≤ p) (h3 : -q ≤ b) (h4 : b ≤ q) : -(p * q) ≤ a * b ∧ a * b ≤ p * q := by
  have n1 := Int.mul_nonneg (show 0 ≤ p - a by omega) (show 0 ≤ q + b by omega)
  have n2 := Int.mul_nonneg (show 0 ≤ p + a by omega) (show 0 ≤ q - b by omega)
  have n3 := Int.mul_nonneg (show 0 ≤ p - a by omega) (show 0 ≤ q - b by omega)
  have n4 := Int.mul_nonneg (show 0 ≤ p + a by omega) (show 0 ≤ q + b by omega)
  have e1 : (p - a) * (q + b) = p * q + p * b - a * q - a * b := by grind
  have e2 : (p + a) * (q - b) = p * q - p * b + a * q - a * b := by grind
  have e3 : (p - a) * (q - b) = p * q - p * b - a * q + a * b := by grind
  have e4 : (p + a) * (q + b) = p * q + p * b + a * q + a * b := by grind
  omega
/-- Round, its answer under names. -/
theorem eis_round_is (x y d i j : Int) (hx : -1152921504606846976 ≤ x) (hx' : x ≤ 1152921504606846976) (hy : -1152921504606846976 ≤ y) (hy' : y ≤ 1152921504606846976) (hd : 1 ≤ d) (hd' : d ≤ 1125899906842624) (h1 : rdA x y d = i) (h2 : rdB x y d = j) (w : World) :
    Calls Try.prog 79 #[.agg #[.int .i64 x, .int .i64 y], .int .i64 d] w fun e w' => e = .returned (.tuple #[.agg #[.int .i64 i, .int .i64 j], .bool true]) ∧ Below w.heap.size w w' := by
  have h := eis_round x y d hx hx' hy hy' hd hd' w
  rw [h1, h2] at h
  exact h
theorem rd_bd (x y d : Int) (hx : -1152921504606846976 ≤ x) (hx' : x ≤ 1152921504606846976) (hy : -1152921504606846976 ≤ y) (hy' : y ≤ 1152921504606846976) (hd : 1 ≤ d) :
    -1152921504606846976 ≤ rdA x y d ∧ rdA x y d ≤ 1152921504606846977 ∧ -1152921504606846976 ≤ rdB x y d ∧ rdB x y d ≤ 1152921504606846977 := by
  have h1 := quo_bd x d hx hx' hd
  have h2 := quo_bd y d hy hy' hd
  have h3 := rat_bd (x % d) (y % d) d 3
  unfold rdA rdB
  omega
end Go.Proofs.Ytmipkloleklnkaa

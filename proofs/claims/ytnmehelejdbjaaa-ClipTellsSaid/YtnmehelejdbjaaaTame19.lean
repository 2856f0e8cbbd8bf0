
/- A mask of ones is a remainder. -/
import Derived.Test.YtnmehelejdbjaaaRing
namespace Go.Proofs.Ytnmehelejdbjaaa
theorem i64_mask19 (d : Int) (k : Nat) (hk : k < 63) : bits .and .i64 d ((2 ^ k - 1 : Nat) : Int) = d % ((2 ^ k : Nat) : Int) := by
  have hp : 2 ^ k ≤ 2 ^ 62 := Nat.pow_le_pow_right (by omega) (by omega)
  have hp0 : 0 < 2 ^ k := Nat.two_pow_pos k
  show IntKind.i64.wrap ((BitVec.ofInt 64 d &&& BitVec.ofInt 64 ((2 ^ k - 1 : Nat) : Int)).toNat : Int) = _
  rw [BitVec.toNat_and, BitVec.toNat_ofInt, BitVec.ofInt_natCast, BitVec.toNat_ofNat, Nat.mod_eq_of_lt (a := 2 ^ k - 1) (by omega), Nat.and_two_pow_sub_one_eq_mod, IntKind.wrap_i64]
  have h1 : ((d % ((2 ^ 64 : Nat) : Int)).toNat : Int) = d % ((2 ^ 64 : Nat) : Int) := Int.toNat_of_nonneg (Int.emod_nonneg _ (by decide))
  have h2 : (((d % ((2 ^ 64 : Nat) : Int)).toNat % 2 ^ k : Nat) : Int) = d % ((2 ^ k : Nat) : Int) := by
    rw [Int.natCast_emod, h1]
    exact Int.emod_emod_of_dvd d (Int.natCast_dvd_natCast.2 (Nat.pow_dvd_pow 2 (by omega)))
  rw [h2]
  have h3 := Int.emod_nonneg d (b := ((2 ^ k : Nat) : Int)) (by omega)
  have h4 := Int.emod_lt_of_pos d (b := ((2 ^ k : Nat) : Int)) (by omega)
  omega
end Go.Proofs.Ytnmehelejdbjaaa

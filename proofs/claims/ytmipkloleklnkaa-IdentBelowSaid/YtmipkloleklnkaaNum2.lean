
/- The walks of package num: Add, Sub, Neg, Within; math/bits' Mul64, Add64, Sub64. -/
import Derived.Test.YtmipkloleklnkaaBase
import Derived.Shelf.Bits.Mul64
import Derived.Laws.Bits64b
import Derived.Shelf.Spec.BitsCarry
namespace Go.Proofs.Ytmipkloleklnkaa
open Go.RowKit

set_option maxHeartbeats 400000 in
theorem num_add (a b : Int) (ha : -9223372036854775808 ≤ a) (ha' : a ≤ 9223372036854775807) (hb : -9223372036854775808 ≤ b) (hb' : b ≤ 9223372036854775807) (w : World) :
    Calls Try.prog 59 #[.int .i64 a, .int .i64 b] w fun e w' => e = .returned (.tuple #[.int .i64 (okv (a + b)), .bool (i64B (a + b))]) ∧ w = w' := by
  by_cases h : i64B (a + b) = true
  · obtain ⟨h1, h2⟩ := i64B_true h
    have E := Lib.hid h
    clear h
    by_cases hz : 0 < b
    all_goals
      go_enter Try.func59, Try.ntmps59
      go_wp2
      go_ret2
      exact ⟨ret_ib (okv_yes E.out).symm E.out.symm, rfl⟩
  · have hh : i64B (a + b) = false := by simpa using h
    have h1 := i64B_false hh
    have E := Lib.hid hh
    clear h hh
    by_cases hz : 0 < b
    · have h2 : 9223372036854775807 < a + b := by omega
      have e : wrap64 (a + b) = a + b - 18446744073709551616 := by unfold wrap64; omega
      have d1 : decide (a < a + b - 18446744073709551616) = false := decide_eq_false (by omega)
      have d2 : (b != 0) = true := by simp; omega
      clear h1
      go_enter Try.func59, Try.ntmps59
      go_wp2
      go_ret2
      exact ⟨ret_ib (okv_no E.out).symm E.out.symm, rfl⟩
    · have h2 : a + b < -9223372036854775808 := by omega
      have e : wrap64 (a + b) = a + b + 18446744073709551616 := by unfold wrap64; omega
      have d1 : decide (a < a + b + 18446744073709551616) = true := decide_eq_true (by omega)
      have d2 : (b != 0) = true := by simp; omega
      clear h1
      go_enter Try.func59, Try.ntmps59
      go_wp2
      go_ret2
      exact ⟨ret_ib (okv_no E.out).symm E.out.symm, rfl⟩

set_option maxHeartbeats 400000 in
theorem num_sub (a b : Int) (ha : -9223372036854775808 ≤ a) (ha' : a ≤ 9223372036854775807) (hb : -9223372036854775808 ≤ b) (hb' : b ≤ 9223372036854775807) (w : World) :
    Calls Try.prog 88 #[.int .i64 a, .int .i64 b] w fun e w' => e = .returned (.tuple #[.int .i64 (okv (a - b)), .bool (i64B (a - b))]) ∧ w = w' := by
  by_cases h : i64B (a - b) = true
  · obtain ⟨h1, h2⟩ := i64B_true h
    have E := Lib.hid h
    clear h
    by_cases hz : 0 < b
    all_goals
      go_enter Try.func88, Try.ntmps88
      go_wp2
      go_ret2
      exact ⟨ret_ib (okv_yes E.out).symm E.out.symm, rfl⟩
  · have hh : i64B (a - b) = false := by simpa using h
    have h1 := i64B_false hh
    have E := Lib.hid hh
    clear h hh
    by_cases hz : 0 < b
    · have h2 : a - b < -9223372036854775808 := by omega
      have e : wrap64 (a - b) = a - b + 18446744073709551616 := by unfold wrap64; omega
      have d1 : decide (a - b + 18446744073709551616 < a) = false := decide_eq_false (by omega)
      have d2 : (b != 0) = true := by simp; omega
      clear h1
      go_enter Try.func88, Try.ntmps88
      go_wp2
      go_ret2
      exact ⟨ret_ib (okv_no E.out).symm E.out.symm, rfl⟩
    · have h2 : 9223372036854775807 < a - b := by omega
      have e : wrap64 (a - b) = a - b - 18446744073709551616 := by unfold wrap64; omega
      have d1 : decide (a - b - 18446744073709551616 < a) = true := decide_eq_true (by omega)
      have d2 : (b != 0) = true := by simp; omega
      clear h1
      go_enter Try.func88, Try.ntmps88
      go_wp2
      go_ret2
      exact ⟨ret_ib (okv_no E.out).symm E.out.symm, rfl⟩
set_option maxHeartbeats 400000 in
theorem num_neg (b : Int) (hb : -9223372036854775808 ≤ b) (hb' : b ≤ 9223372036854775807) (w : World) :
    Calls Try.prog 86 #[.int .i64 b] w fun e w' => e = .returned (.tuple #[.int .i64 (okv (-b)), .bool (i64B (-b))]) ∧ w = w' := by
  go_enter Try.func86, Try.ntmps86
  go_wp2_with (go_at_call 88; refine (num_sub 0 b (by omega) (by omega) hb hb' _).mono ?_; rintro e w' ⟨rfl, rfl⟩)
  go_ret2
  exact ⟨rfl, rfl⟩

/-- num.Within of a positive bound below 2^62. -/
def withinB (a m : Int) : Bool := decide (-m ≤ a ∧ a ≤ m)
set_option maxHeartbeats 400000 in
theorem num_within (a m : Int) (hm : 0 ≤ m) (hm' : m ≤ 4611686018427387904) (w : World) :
    Calls Try.prog 77 #[.int .i64 a, .int .i64 m] w fun e w' => e = .returned (.bool (withinB a m)) ∧ w = w' := by
  by_cases h1 : -m ≤ a
  · by_cases h2 : a ≤ m
    · have hn : (a != -9223372036854775808) = true := by simp; omega
      have E : Hid (withinB a m = true) := Lib.hid (decide_eq_true ⟨h1, h2⟩)
      go_enter Try.func77, Try.ntmps77
      go_wp2
      go_ret
      exact ⟨ret_b E.out.symm, rfl⟩
    · have E : Hid (withinB a m = false) := Lib.hid (decide_eq_false (by omega))
      go_enter Try.func77, Try.ntmps77
      go_wp2
      go_ret
      exact ⟨ret_b E.out.symm, rfl⟩
  · have E : Hid (withinB a m = false) := Lib.hid (decide_eq_false (by omega))
    go_enter Try.func77, Try.ntmps77
    go_wp2
    go_ret
    exact ⟨ret_b E.out.symm, rfl⟩

open Go.Lib in
set_option maxHeartbeats 1000000 in
theorem bits_mul64 (x y : Nat) (hx : x < 18446744073709551616) (hy : y < 18446744073709551616) (w : World) :
    Calls Try.prog 74 #[.int .u64 x, .int .u64 y] w fun e w' => e = .returned (.tuple #[.int .u64 ((x * y / 18446744073709551616 : Nat) : Int), .int .u64 ((x * y % 18446744073709551616 : Nat) : Int)]) ∧ w = w' := by
  obtain ⟨bd, bt, bw, hhi⟩ := Lib.mul64_hi x y hx hy
  have ba := Lib.half_mul_le (a := x / 4294967296) (b := y / 4294967296) (by omega) (by omega)
  have bb := Lib.half_mul_le (a := x / 4294967296) (b := y % 4294967296) (by omega) (by omega)
  have bc := Lib.half_mul_le (a := x % 4294967296) (b := y / 4294967296) (by omega) (by omega)
  have ba' : x / 4294967296 * (y / 4294967296) < 18446744073709551616 := by omega
  have bb' : x / 4294967296 * (y % 4294967296) < 18446744073709551616 := by omega
  have bc' : x % 4294967296 * (y / 4294967296) < 18446744073709551616 := by omega
  have bh1 : x / 4294967296 * (y / 4294967296) + (x / 4294967296 * (y % 4294967296) + x % 4294967296 * (y % 4294967296) / 4294967296) / 4294967296 < 18446744073709551616 := by omega
  have bh : x / 4294967296 * (y / 4294967296) + (x / 4294967296 * (y % 4294967296) + x % 4294967296 * (y % 4294967296) / 4294967296) / 4294967296 + ((x / 4294967296 * (y % 4294967296) + x % 4294967296 * (y % 4294967296) / 4294967296) % 4294967296 + x % 4294967296 * (y / 4294967296)) / 4294967296 < 18446744073709551616 := by omega
  go_enter Try.func74, Try.ntmps74
  go_wp2
  simp only [Mul64.maskN x hx, Mul64.maskN y hy, Mul64.divN, Mul64.mulN, Mul64.addN, Mul64.wrapN _ bd, Mul64.wrapN _ bb', Mul64.wrapN _ bt, Mul64.maskN _ bt, Mul64.wrapN _ bc', Mul64.wrapN _ bw, Mul64.wrapN _ ba', Mul64.wrapN _ bh1, Mul64.wrapN _ bh, Mul64.wrapM (x * y)]
  rw [hhi]
  go_ret2
  exact ⟨rfl, rfl⟩
theorem bits_add64 (x y : Int) (hx : 0 ≤ x) (hy : 0 ≤ y) (w : World) :
    (callFunc 73 #[.int .u64 x, .int .u64 y, .int .u64 0]).run Try.prog w =
      .ok (.value (.tuple #[.int .u64 ((x + y) % 18446744073709551616), .int .u64 ((x + y) / 18446744073709551616)])) w := by
  rw [run_callFunc_extern Try.func73 (by kernel_rfl) (by kernel_rfl) (by kernel_rfl) (e := add64Entry) (by kernel_rfl), run_add64 x y 0 hx hy (by omega) (by omega)]
  simp [Result.andThen]
theorem bits_sub64 (x y : Nat) (w : World) :
    (callFunc 75 #[.int .u64 x, .int .u64 y, .int .u64 0]).run Try.prog w =
      .ok (.value (.tuple #[.int .u64 (((x + 18446744073709551616 - y) % 18446744073709551616 : Nat) : Int), .int .u64 ((if x < y then 1 else 0 : Nat) : Int)])) w := by
  have h := run_sub64 (P := Try.prog) x y 0 (by omega) w
  rw [run_callFunc_extern Try.func75 (by kernel_rfl) (by kernel_rfl) (by kernel_rfl) (e := sub64Entry) (by kernel_rfl)]
  rw [show (Value.int .u64 0) = .int .u64 ((0 : Nat) : Int) from rfl, h]
  rfl
end Go.Proofs.Ytmipkloleklnkaa

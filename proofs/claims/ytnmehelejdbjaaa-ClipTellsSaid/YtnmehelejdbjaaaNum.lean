
/- The walks of package num's Floor (and the reference's), over any world. No condition. -/
import Derived.Test.YtnmehelejdbjaaaBase
namespace Go.Proofs.Ytnmehelejdbjaaa
open Go.RowKit

theorem fl_neg (a b : Int) (hb : 0 < b) (h : a.tmod b < 0) : a.tdiv b - 1 = a / b ∧ a.tmod b + b = a % b := by
  have h0 : ¬ (0 ≤ a) := fun hh => by have := Int.tmod_nonneg b hh; omega
  have e1 := Int.tdiv_eq_ediv (a := a) (b := b)
  have e2 := Int.tmod_eq_emod (a := a) (b := b)
  have hs : b.sign = 1 := Int.sign_eq_one_of_pos hb
  have hd : ¬ b ∣ a := fun hh => by rw [Int.tmod_eq_zero_of_dvd hh] at h; omega
  rw [if_neg (by intro hh; rcases hh with hh | hh; exact h0 hh; exact hd hh)] at e1 e2
  have hn : (b.natAbs : Int) = b := by omega
  rw [hs] at e1
  omega
theorem fl_pos (a b : Int) (hb : 0 < b) (h : 0 ≤ a.tmod b) : a.tdiv b = a / b ∧ a.tmod b = a % b := by
  have e1 := Int.tdiv_eq_ediv (a := a) (b := b)
  have e2 := Int.tmod_eq_emod (a := a) (b := b)
  have hs : b.sign = 1 := Int.sign_eq_one_of_pos hb
  by_cases hc : 0 ≤ a ∨ b ∣ a
  · rw [if_pos hc] at e1 e2
    omega
  · rw [if_neg hc] at e1 e2
    have := Int.emod_lt_of_pos a hb
    omega
set_option maxHeartbeats 400000 in
theorem num_floor_neg (a b : Int) (hb : b ≤ 0) (w : World) :
    Calls Try.prog 23 #[.int .i64 a, .int .i64 b] w fun e w' => e = .returned (.tuple #[.int .i64 0, .int .i64 0, .bool false]) ∧ w = w' := by
  go_enter Try.func23, Try.ntmps23
  go_wp2
  go_ret3
  exact ⟨rfl, rfl⟩

theorem fl_bd (a b : Int) (hb : 0 < b) (ha : -9223372036854775808 ≤ a) (ha' : a ≤ 9223372036854775807) : -9223372036854775808 ≤ a / b ∧ a / b ≤ 9223372036854775807 := by
  have h1 : a / b * b ≤ a := Int.ediv_mul_le a (by omega)
  have h2 : a < (a / b + 1) * b := Int.lt_ediv_add_one_mul_self a hb
  constructor
  · by_cases h : 0 ≤ a / b
    · omega
    · have : (a / b + 1) * b ≤ (a / b + 1) * 1 := by
        rw [Int.mul_comm, Int.mul_comm (a / b + 1)]
        exact Int.mul_le_mul_of_nonpos_right (by omega) (by omega)
      omega
  · by_cases h : a / b ≤ 0
    · omega
    · have : (a / b) * 1 ≤ a / b * b := Int.mul_le_mul_of_nonneg_left (by omega) (by omega)
      omega
set_option maxHeartbeats 400000 in
theorem num_floor_pos (a b : Int) (hb : 0 < b) (ha : -9223372036854775808 ≤ a) (ha' : a ≤ 9223372036854775807) (hb' : b ≤ 9223372036854775807) (w : World) :
    Calls Try.prog 23 #[.int .i64 a, .int .i64 b] w fun e w' => e = .returned (.tuple #[.int .i64 (a / b), .int .i64 (a % b), .bool true]) ∧ ∃ n, w.drewN n = w' := by
  obtain ⟨q0, q1⟩ := fl_bd a b hb ha ha'
  have r0 := Int.emod_lt_of_pos a hb
  have r1 := Int.emod_nonneg a (b := b) (by omega)
  by_cases h : a.tmod b < 0
  · obtain ⟨e1, e2⟩ := fl_neg a b hb h
    have t0 : -9223372036854775808 ≤ a.tdiv b - 1 := by omega
    have t1 : a.tdiv b ≤ 9223372036854775807 := by
      by_cases h0 : 0 ≤ a
      · have := Int.tmod_nonneg b h0; omega
      · have := Int.ediv_neg_of_neg_of_pos (a := a) (b := b) (by omega) hb; omega
    have t2 : 0 ≤ a.tmod b + b := by omega
    have t3 : a.tmod b + b < b := by omega
    have E1 := Lib.hid e1
    have E2 := Lib.hid e2
    clear e1 e2 r0 r1 q0 q1
    go_enter Try.func23, Try.ntmps23
    go_wp2
    go_quiet (fail)
    go_wp2
    go_ret3
    exact ⟨ret_iib E1.out E2.out rfl, _, rfl⟩
  · obtain ⟨e1, e2⟩ := fl_pos a b hb (by omega)
    have t2 : 0 ≤ a.tmod b := by omega
    have E1 := Lib.hid e1
    have E2 := Lib.hid e2
    clear e1 e2 r0 r1 q0 q1
    go_enter Try.func23, Try.ntmps23
    go_wp2
    go_quiet (fail)
    go_wp2
    go_ret3
    exact ⟨ret_iib E1.out E2.out rfl, _, rfl⟩
end Go.Proofs.Ytnmehelejdbjaaa

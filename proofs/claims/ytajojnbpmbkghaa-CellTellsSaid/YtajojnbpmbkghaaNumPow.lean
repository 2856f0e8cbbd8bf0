/- The walks of num.Mul where both are not below nought and the product fits, and of num.Pow at 7. -/
import Derived.Test.YtajojnbpmbkghaaPow
namespace Go.Proofs.Ytajojnbpmbkghaa
open Go.RowKit
set_option linter.unusedSimpArgs false
set_option linter.unusedVariables false
theorem num_size_pos (n : Int) (h : 0 ≤ n) (h' : n ≤ 9223372036854775807) (w : World) :
    Calls Try.prog 87 #[.int .i64 n] w fun e w' => e = .returned (.int .u64 n) ∧ w = w' := by
  have ea : IntKind.u64.wrap n = n := by rw [IntKind.wrap_u64]; omega
  go_enter Try.func87, Try.ntmps87
  go_wp2
  go_ret
  exact ⟨rfl, rfl⟩
set_option maxHeartbeats 400000 in
theorem num_mul_pos (a b p : Int) (ha : 0 ≤ a) (ha' : a ≤ 9223372036854775807) (hb : 0 ≤ b) (hb' : b ≤ 9223372036854775807) (hp : a * b = p) (hp0 : 0 ≤ p) (hp' : p ≤ 9223372036854775807) (w : World) :
    Calls Try.prog 76 #[.int .i64 a, .int .i64 b] w fun e w' => e = .returned (.tuple #[.int .i64 p, .bool true]) ∧ w = w' := by
  have M := bits_mul64_int a b ha (by omega) hb (by omega)
  rw [hp, show p / 18446744073709551616 = 0 by omega, show p % 18446744073709551616 = p by omega] at M
  have HM := Lib.hid M
  have SA := Lib.hid (num_size_pos a ha ha')
  have SB := Lib.hid (num_size_pos b hb hb')
  have da : decide (a < 0) = false := decide_eq_false (by omega)
  have db : decide (b < 0) = false := decide_eq_false (by omega)
  have dp : decide (9223372036854775808 < p) = false := decide_eq_false (by omega)
  have de : (p == 9223372036854775808) = false := by simp; omega
  clear M hp
  go_enter Try.func76, Try.ntmps76
  go_wp2_with fail
  refine (SA.out _).mono ?_
  rintro e w1 ⟨rfl, rfl⟩
  go_wp2_with fail
  refine (SB.out _).mono ?_
  rintro e w1 ⟨rfl, rfl⟩
  go_wp2_with fail
  refine (HM.out _).mono ?_
  rintro e w1 ⟨rfl, rfl⟩
  go_wp2_with fail
  go_ret2
  exact ⟨ret_ib (by first | rfl | exact wrap64_id (by omega) (by omega)) rfl, rfl⟩
theorem num_pow_step (n : Int) (h : 0 ≤ n) (h' : n ≤ 1000000000000000000) (o a k : Addr) (x : Value) (w : World) (ho : w.cell? o = some (.int .i64 n)) (ha : w.cell? a = some (.int .i64 7)) (hk : w.cell? k = some x)
    (fo : w.frozen? o = false) (fk : w.frozen? k = false) (hne : o ≠ k) :
    Calls Try.prog 75 #[.pointer (some o), .pointer (some a), .pointer (some k)] w fun e w' => e = .returned (.tuple #[]) ∧ w' = (w.setCell o (.int .i64 (n * 7))).setCell k (.bool true) := by
  have M := Lib.hid (num_mul_pos n 7 (n * 7) h (by omega) (by omega) (by omega) rfl (by omega) (by omega))
  have hk2 : (w.setCell o (.int .i64 (n * 7))).cell? k = some x := by rw [World.cell?_setCell_other _ _ _ _ hne]; exact hk
  go_enter Try.func75, Try.ntmps75
  go_wp2_with fail
  refine (M.out _).mono ?_
  rintro e w1 ⟨rfl, rfl⟩
  go_wp2_with fail
  go_end0
  exact ⟨rfl, rfl⟩
def NPowRel (w : World) (B K : Nat) (i : Value) (W : World) : Prop :=
  ∃ j : Nat, j ≤ K ∧ i = .int .i64 ((K : Int) - (j : Int)) ∧ W.cell? ⟨B, 0, none⟩ = some (.int .i64 7) ∧ W.cell? ⟨B + 1, 0, none⟩ = some (.int .i64 (p7 j)) ∧ W.cell? ⟨B + 1 + 1, 0, none⟩ = some (.bool true)
    ∧ W.frozen? ⟨B + 1, 0, none⟩ = false ∧ W.frozen? ⟨B + 1 + 1, 0, none⟩ = false ∧ Below w.heap.size w W
set_option maxHeartbeats 800000 in
theorem num_pow7 (K : Nat) (hK : K < 21) (w : World) :
    Calls Try.prog 52 #[.int .i64 7, .int .i64 (K : Int)] w fun e w' => e = .returned (.tuple #[.int .i64 (p7 K), .bool true]) ∧ Below w.heap.size w w' := by
  have hmf : ∀ (fn : Fn) (first cap : Array Value) (w : World), (Instr.makeFunc fn first cap).run Try.prog w = .ok (.func fn first cap) w := fun _ _ _ _ => rfl
  have d1 : decide ((K : Int) < 0) = false := decide_eq_false (by omega)
  go_enter Try.func52, Try.ntmps52
  go_wp2_with fail
  go_loopw [1] (fun i W => NPowRel w w.heap.size K i W) (fun i _ => (intOf i).toNat)
  case atStart => exact ⟨0, Nat.zero_le _, by simp, by simp [go_sem], by simp [go_sem, p7], by simp [go_sem], by simp [go_sem], by simp [go_sem], by repeat (first | with_reducible exact Below.refl _ _ | with_reducible refine bl_alloc ?_ _ | with_reducible refine bl_drewN ?_ _ | with_reducible refine bl_drew ?_ | (with_reducible refine bl_set ?_ ?_ _; rotate_left; focus (first | (simp; done) | (simp; omega) | omega)) | with_reducible refine below_step ?_ (Bw.below _) | with_reducible refine below_step ?_ (by assumption))⟩
  case round =>
    obtain ⟨j, hj, rfl, c1, c2, c3, f2, f3, hb⟩ := hrel
    obtain ⟨b1, b2⟩ := p7_bd j (by omega)
    by_cases hlt : j < K
    · have b3 := p7_bd (j + 1) (by omega)
      have e7 : p7 (j + 1) = p7 j * 7 := rfl
      have hs : (0 : Int) < (K : Int) - (j : Int) := by omega
      have ST := Lib.hid (num_pow_step (p7 j) (by omega) (by omega) ⟨w.heap.size + 1, 0, none⟩ ⟨w.heap.size, 0, none⟩ ⟨w.heap.size + 1 + 1, 0, none⟩ (.bool true) wr c2 c1 c3 f2 f3 (by simp))
      have E7 := Lib.hid e7
      clear e7
      go_wp2_with fail
      refine (ST.out).mono ?_
      rintro e w1 ⟨rfl, rfl⟩
      go_wp2_with fail
      go_roundw
      case rel => exact ⟨j + 1, by omega, by rw [Value.int.injEq]; exact ⟨rfl, by omega⟩, by simp [go_sem, c1], by rw [E7.out]; simp [go_sem, c2], by simp [go_sem, c3], by simp [go_sem, f2], by simp [go_sem, f3], by repeat (first | with_reducible exact Below.refl _ _ | with_reducible refine bl_alloc ?_ _ | with_reducible refine bl_drewN ?_ _ | with_reducible refine bl_drew ?_ | (with_reducible refine bl_set ?_ ?_ _; rotate_left; focus (first | (simp; done) | (simp; omega) | omega)) | with_reducible refine below_step ?_ (Bw.below _) | with_reducible refine below_step ?_ (by assumption))⟩
      case measure => simp [intOf]; omega
    · obtain rfl : j = K := by omega
      go_wp2_with fail
      go_quiet (fail)
      go_wp2_with fail
      go_ret2
      exact ⟨rfl, bl_drewN hb _⟩
end Go.Proofs.Ytajojnbpmbkghaa

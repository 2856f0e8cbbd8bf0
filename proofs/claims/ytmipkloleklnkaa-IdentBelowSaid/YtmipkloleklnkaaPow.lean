
/- The walks of the reference's Pow at 7, and Seven. -/
import Derived.Test.YtmipkloleklnkaaRef2
import Derived.Test.YtmipkloleklnkaaBeta
namespace Go.Proofs.Ytmipkloleklnkaa
open Go.RowKit
set_option linter.unusedSimpArgs false
set_option linter.unusedVariables false
def p7 : Nat → Int
  | 0 => 1
  | n + 1 => p7 n * 7
theorem p7_bd : ∀ n : Nat, n < 21 → 1 ≤ p7 n ∧ p7 n ≤ 79792266297612001 := by decide
theorem p7_two : ∀ n : Nat, n < 21 → n ≠ 0 → p7 n ≠ 1 := by decide
def PowRel (w : World) (K : Nat) (n i : Value) (W : World) : Prop := ∃ k : Nat, k ≤ K ∧ i = .int .i64 k ∧ n = .int .i64 (p7 k) ∧ Below w.heap.size w W
set_option maxHeartbeats 800000 in
theorem ref_pow7 (K : Nat) (hK : K < 21) (w : World) :
    Calls Try.prog 81 #[.int .i64 7, .int .i64 (K : Int)] w fun e w' => e = .returned (.tuple #[.int .i64 (p7 K), .bool true]) ∧ Below w.heap.size w w' := by
  have d1 : decide ((K : Int) < 0) = false := decide_eq_false (by omega)
  go_enter Try.func81, Try.ntmps81
  go_wp2_with fail
  go_loopw [6, 7] (fun n i W => PowRel w K n i W) (fun _ i _ => K - (intOf i).toNat)
  case atStart => exact ⟨0, Nat.zero_le _, rfl, rfl, Below.refl _ _⟩
  case round =>
    obtain ⟨k, hk, rfl, rfl, hb⟩ := hrel
    obtain ⟨b1, b2⟩ := p7_bd k (by omega)
    have z0 : (p7 k == 0) = false := by simp; omega
    by_cases hlt : k < K
    · have T := ref_times (p7 k) 7 (by omega) (by omega) (by omega) (by omega)
      have S := ref_small (p7 k * 7) (by omega) (by omega)
      rw [okv_yes (i64B_mk (by omega) (by omega)), i64B_mk (by omega) (by omega)] at S
      have HT := Lib.hid T
      have HS := Lib.hid S
      have HK : Hid (p7 (k + 1) = p7 k * 7) := Lib.hid rfl
      clear T S
      by_cases hk0 : k = 0
      · subst hk0
        have e1 : p7 0 = 1 := rfl
        rw [e1] at *
        clear e1
        go_wp2_with fail
        refine (HT.out _).mono ?_
        rintro e w1 ⟨rfl, hb1⟩
        go_wp2_with fail
        refine (HS.out _).mono ?_
        rintro e w2 ⟨rfl, hb2⟩
        go_wp2_with fail
        go_roundw
        case rel => exact ⟨1, by omega, rfl, rfl, below_step (below_step hb hb1) hb2⟩
        case measure => simp [intOf]; omega
      · have z1 : (p7 k == 1) = false := by simpa using p7_two k (by omega) hk0
        go_wp2_with fail
        refine (HT.out _).mono ?_
        rintro e w1 ⟨rfl, hb1⟩
        go_wp2_with fail
        refine (HS.out _).mono ?_
        rintro e w2 ⟨rfl, hb2⟩
        go_wp2_with fail
        go_roundw
        case rel => exact ⟨k + 1, by omega, by go_num, rfl, below_step (below_step hb hb1) hb2⟩
        case measure => simp [intOf]; omega
    · obtain rfl : k = K := by omega
      go_wp2_with fail
      go_ret2
      exact ⟨rfl, hb⟩
theorem ref_seven (K : Nat) (hK : K < 21) (w : World) :
    Calls Try.prog 68 #[.int .i64 (K : Int)] w fun e w' => e = .returned (.int .i64 (p7 K)) ∧ Below w.heap.size w w' := by
  go_enter Try.func68, Try.ntmps68
  go_wp2_with fail
  refine (ref_pow7 K hK _).mono ?_
  rintro e w1 ⟨rfl, hb1⟩
  go_wp2_with fail
  go_ret
  exact ⟨rfl, hb1⟩
end Go.Proofs.Ytmipkloleklnkaa

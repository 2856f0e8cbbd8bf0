
/- The walks of Beta: the program's and the reference's. -/
import Derived.Test.YtmipkloleklnkaaRef2
namespace Go.Proofs.Ytmipkloleklnkaa
open Go.RowKit

/-- The powers of (2, 1). -/
def bt : Nat → Int × Int
  | 0 => (1, 0)
  | n + 1 => (2 * (bt n).1 - (bt n).2, (bt n).1 + 3 * (bt n).2)
theorem bt_bd : ∀ n : Nat, n < 21 → -1000000000 ≤ (bt n).1 ∧ (bt n).1 ≤ 1000000000 ∧ -1000000000 ≤ (bt n).2 ∧ (bt n).2 ≤ 1000000000 := by decide
theorem eB_yes {a b : Int} (h1 : -9223372036854775808 ≤ a) (h2 : a ≤ 9223372036854775807) (h3 : -9223372036854775808 ≤ b) (h4 : b ≤ 9223372036854775807) : eB a b = true := by
  unfold eB; rw [i64B_mk h1 h2, i64B_mk h3 h4]; rfl
theorem eA_yes {a b x : Int} (h : eB a b = true) : eA a b x = x := if_pos h
theorem eA_no {a b x : Int} (h : eB a b = false) : eA a b x = 0 := if_neg (by rw [h]; decide)
/-- A product whose parts fit. -/
theorem eis_mul_fit (a b c d x y : Int) (ha : -9223372036854775808 ≤ a) (ha' : a ≤ 9223372036854775807) (hb : -9223372036854775808 ≤ b) (hb' : b ≤ 9223372036854775807) (hc : -9223372036854775808 ≤ c) (hc' : c ≤ 9223372036854775807) (hd : -9223372036854775808 ≤ d) (hd' : d ≤ 9223372036854775807) (hx : -9223372036854775808 ≤ x) (hx' : x ≤ 9223372036854775807) (hy : -9223372036854775808 ≤ y) (hy' : y ≤ 9223372036854775807) (ex : a * c - b * d = x) (ey : a * d + b * c + b * d = y) (w : World) :
    Calls Try.prog 32 #[.agg #[.int .i64 a, .int .i64 b], .agg #[.int .i64 c, .int .i64 d]] w fun e w' => e = .returned (.tuple #[.agg #[.int .i64 x, .int .i64 y], .bool true]) ∧ Below w.heap.size w w' := by
  have h := eis_mul a b c d ha ha' hb hb' hc hc' hd hd' w
  rw [ex, ey, eA_yes (eB_yes hx hx' hy hy'), eA_yes (eB_yes hx hx' hy hy'), eB_yes hx hx' hy hy'] at h
  exact h
theorem ref_mul_fit (a b c d x y : Int) (ha : -9223372036854775808 ≤ a) (ha' : a ≤ 9223372036854775807) (hb : -9223372036854775808 ≤ b) (hb' : b ≤ 9223372036854775807) (hc : -9223372036854775808 ≤ c) (hc' : c ≤ 9223372036854775807) (hd : -9223372036854775808 ≤ d) (hd' : d ≤ 9223372036854775807) (hx : -9223372036854775808 ≤ x) (hx' : x ≤ 9223372036854775807) (hy : -9223372036854775808 ≤ y) (hy' : y ≤ 9223372036854775807) (ex : a * c - b * d = x) (ey : a * d + b * c + b * d = y) (w : World) :
    Calls Try.prog 36 #[.agg #[.int .i64 a, .int .i64 b], .agg #[.int .i64 c, .int .i64 d]] w fun e w' => e = .returned (.tuple #[.agg #[.int .i64 x, .int .i64 y], .bool true]) ∧ Below w.heap.size w w' := by
  have h := ref_mul a b c d ha ha' hb hb' hc hc' hd hd' w
  rw [ex, ey, eA_yes (eB_yes hx hx' hy hy'), eA_yes (eB_yes hx hx' hy hy'), eB_yes hx hx' hy hy'] at h
  exact h
theorem bt_step (n : Nat) (hn : n < 20) (w : World) :
    Calls Try.prog 32 #[.agg #[.int .i64 (bt n).1, .int .i64 (bt n).2], .agg #[.int .i64 2, .int .i64 1]] w fun e w' => e = .returned (.tuple #[.agg #[.int .i64 (bt (n + 1)).1, .int .i64 (bt (n + 1)).2], .bool true]) ∧ Below w.heap.size w w' := by
  obtain ⟨a1, a2, a3, a4⟩ := bt_bd n (by omega)
  obtain ⟨b1, b2, b3, b4⟩ := bt_bd (n + 1) (by omega)
  exact eis_mul_fit _ _ _ _ _ _ (by omega) (by omega) (by omega) (by omega) (by omega) (by omega) (by omega) (by omega) (by omega) (by omega) (by omega) (by omega) (by show _ = 2 * (bt n).1 - (bt n).2; omega) (by show _ = (bt n).1 + 3 * (bt n).2; omega) w
theorem bt_step' (n : Nat) (hn : n < 20) (w : World) :
    Calls Try.prog 36 #[.agg #[.int .i64 (bt n).1, .int .i64 (bt n).2], .agg #[.int .i64 2, .int .i64 1]] w fun e w' => e = .returned (.tuple #[.agg #[.int .i64 (bt (n + 1)).1, .int .i64 (bt (n + 1)).2], .bool true]) ∧ Below w.heap.size w w' := by
  obtain ⟨a1, a2, a3, a4⟩ := bt_bd n (by omega)
  obtain ⟨b1, b2, b3, b4⟩ := bt_bd (n + 1) (by omega)
  exact ref_mul_fit _ _ _ _ _ _ (by omega) (by omega) (by omega) (by omega) (by omega) (by omega) (by omega) (by omega) (by omega) (by omega) (by omega) (by omega) (by show _ = 2 * (bt n).1 - (bt n).2; omega) (by show _ = (bt n).1 + 3 * (bt n).2; omega) w

set_option maxHeartbeats 400000 in
theorem ref_beta_no (k : Int) (hk : k < 0 ∨ 20 < k) (w : World) :
    Calls Try.prog 84 #[.int .i64 k] w fun e w' => e = .returned (.tuple #[.agg #[.int .i64 0, .int .i64 0], .bool false]) ∧ Below w.heap.size w w' := by
  rcases hk with hk | hk
  · have d1 : decide (k < 0) = true := decide_eq_true hk
    go_enter Try.func84, Try.ntmps84
    go_wp2
    refine bodyPost_ret (v := .tuple #[.agg #[.int .i64 0, .int .i64 0], .bool false]) (by simp [results, Try.results84, go_sem]) rfl ⟨rfl, by repeat (first | exact Below.refl _ _ | refine bl_alloc ?_ _ | refine bl_drewN ?_ _ | refine bl_drew ?_ | refine bl_set ?_ (by first | (simp; done) | (simp; omega) | omega) _ | refine below_step ?_ (by assumption) | refine below_step ?_ (Bw.below _))⟩
  · have d1 : decide (k < 0) = false := decide_eq_false (by omega)
    go_enter Try.func84, Try.ntmps84
    go_wp2
    refine bodyPost_ret (v := .tuple #[.agg #[.int .i64 0, .int .i64 0], .bool false]) (by simp [results, Try.results84, go_sem]) rfl ⟨rfl, by repeat (first | exact Below.refl _ _ | refine bl_alloc ?_ _ | refine bl_drewN ?_ _ | refine bl_drew ?_ | refine bl_set ?_ (by first | (simp; done) | (simp; omega) | omega) _ | refine below_step ?_ (by assumption) | refine below_step ?_ (Bw.below _))⟩

def RBetaRel (w : World) (B K : Nat) (i : Value) (W : World) : Prop :=
  ∃ n : Nat, n ≤ K ∧ i = .int .i64 n ∧ W.cell? ⟨B, 0, none⟩ = some (.int .i64 0) ∧ W.cell? ⟨B, 1, none⟩ = some (.int .i64 0) ∧ W.frozen? ⟨B, 0, none⟩ = false ∧ W.frozen? ⟨B, 1, none⟩ = false
    ∧ W.cell? ⟨B + 1, 0, none⟩ = some (.int .i64 (bt n).1) ∧ W.cell? ⟨B + 1, 1, none⟩ = some (.int .i64 (bt n).2) ∧ W.frozen? ⟨B + 1, 0, none⟩ = false ∧ W.frozen? ⟨B + 1, 1, none⟩ = false ∧ Below w.heap.size w W
set_option maxHeartbeats 400000 in
theorem ref_beta (K : Nat) (hK : K < 21) (w : World) :
    Calls Try.prog 84 #[.int .i64 (K : Int)] w fun e w' => e = .returned (.tuple #[.agg #[.int .i64 (bt K).1, .int .i64 (bt K).2], .bool true]) ∧ Below w.heap.size w w' := by
  have d1 : decide ((K : Int) < 0) = false := decide_eq_false (by omega)
  have d2 : decide (20 < (K : Int)) = false := decide_eq_false (by omega)
  go_enter Try.func84, Try.ntmps84
  go_wp2_with fail
  go_loopw [5] (fun i W => RBetaRel w w.heap.size K i W) (fun i _ => K - (intOf i).toNat)
  case atStart => exact ⟨0, Nat.zero_le _, rfl, by simp [go_sem], by simp [go_sem], by simp [go_sem], by simp [go_sem], by simp [go_sem, bt], by simp [go_sem, bt], by simp [go_sem], by simp [go_sem], by repeat (first | exact Below.refl _ _ | refine bl_alloc ?_ _ | refine bl_drewN ?_ _ | refine bl_drew ?_ | refine bl_set ?_ (by first | (simp; done) | (simp; omega) | omega) _ | refine below_step ?_ (by assumption) | refine below_step ?_ (Bw.below _))⟩
  case round =>
    obtain ⟨n, hn, rfl, c1, c2, f1, f2, c3, c4, f3, f4, hb⟩ := hrel
    by_cases hlt : n < K
    · go_wp2_with fail
      refine (bt_step' n (by omega) _).mono ?_
      rintro e w1 ⟨rfl, hb1⟩
      have c1' := bl_hold hb1 c1
      have c2' := bl_hold hb1 c2
      have f1' := bl_free hb1 c1 f1
      have f2' := bl_free hb1 c2 f2
      have c3' := bl_hold hb1 c3
      have c4' := bl_hold hb1 c4
      have f3' := bl_free hb1 c3 f3
      have f4' := bl_free hb1 c4 f4
      clear c1 c2 f1 f2 c3 c4 f3 f4
      go_wp2
      go_roundw
      case rel => exact ⟨n + 1, by omega, by go_num, by simp [go_sem, c1'], by simp [go_sem, c2'], by simp [go_sem, f1'], by simp [go_sem, f2'], by simp [go_sem, c3'], by simp [go_sem, c4'], by simp [go_sem, f3'], by simp [go_sem, f4'], by repeat (first | exact Below.refl _ _ | refine bl_alloc ?_ _ | refine bl_drewN ?_ _ | refine bl_drew ?_ | refine bl_set ?_ (by first | (simp; done) | (simp; omega) | omega) _ | refine below_step ?_ (by assumption) | refine below_step ?_ (Bw.below _))⟩
      case measure => simp [intOf]; omega
    · obtain rfl : n = K := by omega
      go_wp2
      refine bodyPost_ret (v := .tuple #[.agg #[.int .i64 (bt n).1, .int .i64 (bt n).2], .bool true]) (by simp [results, Try.results84, go_sem, c1, c2]) rfl ⟨rfl, by repeat (first | exact Below.refl _ _ | refine bl_alloc ?_ _ | refine bl_drewN ?_ _ | refine bl_drew ?_ | refine bl_set ?_ (by first | (simp; done) | (simp; omega) | omega) _ | refine below_step ?_ (by assumption) | refine below_step ?_ (Bw.below _))⟩
end Go.Proofs.Ytmipkloleklnkaa

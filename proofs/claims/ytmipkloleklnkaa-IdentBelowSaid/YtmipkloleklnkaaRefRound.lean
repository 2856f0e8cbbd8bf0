
/- The walks of the reference's Floor, size, holds and Round. -/
import Derived.Test.YtmipkloleklnkaaRoundLaw
import Derived.Test.YtmipkloleklnkaaTame
namespace Go.Proofs.Ytmipkloleklnkaa
open Go.RowKit
set_option linter.unusedSimpArgs false
set_option maxHeartbeats 400000 in
theorem ref_floor_neg (a b : Int) (hb : b ≤ 0) (w : World) :
    Calls Try.prog 82 #[.int .i64 a, .int .i64 b] w fun e w' => e = .returned (.tuple #[.int .i64 0, .int .i64 0, .bool false]) ∧ w = w' := by
  go_enter Try.func82, Try.ntmps82
  go_wp2
  go_ret3
  exact ⟨rfl, rfl⟩

set_option maxHeartbeats 400000 in
theorem ref_floor_pos (a b : Int) (hb : 0 < b) (ha : -9223372036854775808 ≤ a) (ha' : a ≤ 9223372036854775807) (hb' : b ≤ 9223372036854775807) (w : World) :
    Calls Try.prog 82 #[.int .i64 a, .int .i64 b] w fun e w' => e = .returned (.tuple #[.int .i64 (a / b), .int .i64 (a % b), .bool true]) ∧ ∃ n, w.drewN n = w' := by
  obtain ⟨q0, q1⟩ := fl_bd a b hb ha ha'
  have r0 := Int.emod_lt_of_pos a hb
  have r1 := Int.emod_nonneg a (b := b) (by omega)
  by_cases h : a.tmod b < 0
  · obtain ⟨e1, e2⟩ := fl_neg a b hb h
    have t0 : -9223372036854775808 ≤ a.tdiv b - 1 := by omega
    have t1 : a.tdiv b ≤ 9223372036854775807 := by
      by_cases h0 : 0 ≤ a
      · have := Int.tmod_nonneg b h0; omega
      · have := Int.ediv_neg_of_neg_of_pos (a := a) (b := b) (by omega) hb; omega
    have t2 : 0 ≤ a.tmod b + b := by omega
    have t3 : a.tmod b + b < b := by omega
    have E1 := Lib.hid e1
    have E2 := Lib.hid e2
    clear e1 e2 r0 r1 q0 q1
    go_enter Try.func82, Try.ntmps82
    go_wp2
    go_quiet (fail)
    go_wp2
    go_ret3
    exact ⟨ret_iib E1.out E2.out rfl, _, rfl⟩
  · obtain ⟨e1, e2⟩ := fl_pos a b hb (by omega)
    have t2 : 0 ≤ a.tmod b := by omega
    have E1 := Lib.hid e1
    have E2 := Lib.hid e2
    clear e1 e2 r0 r1 q0 q1
    go_enter Try.func82, Try.ntmps82
    go_wp2
    go_quiet (fail)
    go_wp2
    go_ret3
    exact ⟨ret_iib E1.out E2.out rfl, _, rfl⟩

/-- A number without its sign. -/
def szI (n : Int) : Int := if n < 0 then -n else n
theorem szI_neg {n : Int} (h : n < 0) : szI n = -n := if_pos h
theorem szI_pos {n : Int} (h : ¬ n < 0) : szI n = n := if_neg h
set_option maxHeartbeats 400000 in
theorem ref_size (n : Int) (h : -9223372036854775808 < n) (h' : n ≤ 9223372036854775807) (w : World) :
    Calls Try.prog 89 #[.int .i64 n] w fun e w' => e = .returned (.int .i64 (szI n)) ∧ w = w' := by
  by_cases c : n < 0
  · have E := Lib.hid (szI_neg c)
    go_enter Try.func89, Try.ntmps89
    go_wp2
    go_ret
    exact ⟨ret_i E.out.symm, rfl⟩
  · have E := Lib.hid (szI_pos c)
    go_enter Try.func89, Try.ntmps89
    go_wp2
    go_ret
    exact ⟨ret_i E.out.symm, rfl⟩
/-- Is a remainder as near to nought as to any Unit? -/
def hexB (s t d : Int) : Bool := decide (szI (2 * s + t) ≤ d) && decide (szI (s + 2 * t) ≤ d) && decide (szI (s - t) ≤ d)
theorem szI_le {n d : Int} : szI n ≤ d ↔ -d ≤ n ∧ n ≤ d := by unfold szI; split <;> omega
theorem hexB_true {s t d : Int} : hexB s t d = true ↔ (-d ≤ 2 * s + t ∧ 2 * s + t ≤ d) ∧ (-d ≤ s + 2 * t ∧ s + 2 * t ≤ d) ∧ -d ≤ s - t ∧ s - t ≤ d := by
  unfold hexB; simp [szI_le, and_assoc]
set_option maxHeartbeats 400000 in
theorem ref_holds (s t d : Int) (hs : -1000000000000000000 ≤ s) (hs' : s ≤ 1000000000000000000) (ht : -1000000000000000000 ≤ t) (ht' : t ≤ 1000000000000000000) (w : World) :
    Calls Try.prog 83 #[.int .i64 s, .int .i64 t, .int .i64 d] w fun e w' => e = .returned (.bool (hexB s t d)) ∧ w = w' := by
  have S1 := Lib.hid (ref_size (2 * s + t) (by omega) (by omega))
  have S2 := Lib.hid (ref_size (s + 2 * t) (by omega) (by omega))
  have S3 := Lib.hid (ref_size (s - t) (by omega) (by omega))
  have E : Hid (hexB s t d = (decide (szI (2 * s + t) ≤ d) && decide (szI (s + 2 * t) ≤ d) && decide (szI (s - t) ≤ d))) := Lib.hid rfl
  by_cases c1 : szI (2 * s + t) ≤ d
  · by_cases c2 : szI (s + 2 * t) ≤ d
    · go_enter Try.func83, Try.ntmps83
      go_wp2_with fail
      refine (S1.out _).mono ?_
      rintro e w' ⟨rfl, rfl⟩
      go_wp2_with fail
      refine (S2.out _).mono ?_
      rintro e w' ⟨rfl, rfl⟩
      go_wp2_with fail
      refine (S3.out _).mono ?_
      rintro e w' ⟨rfl, rfl⟩
      go_wp2_with fail
      go_ret
      exact ⟨ret_b (by rw [E.out]; simp [c1, c2]), rfl⟩
    · have d2 : decide (szI (s + 2 * t) ≤ d) = false := decide_eq_false c2
      go_enter Try.func83, Try.ntmps83
      go_wp2_with fail
      refine (S1.out _).mono ?_
      rintro e w' ⟨rfl, rfl⟩
      go_wp2_with fail
      refine (S2.out _).mono ?_
      rintro e w' ⟨rfl, rfl⟩
      go_wp2_with fail
      go_ret
      exact ⟨ret_b (by rw [E.out]; simp [c1, d2]), rfl⟩
  · have d1 : decide (szI (2 * s + t) ≤ d) = false := decide_eq_false c1
    go_enter Try.func83, Try.ntmps83
    go_wp2_with fail
    refine (S1.out _).mono ?_
    rintro e w' ⟨rfl, rfl⟩
    go_wp2_with fail
    go_ret
    exact ⟨ret_b (by rw [E.out]; simp [d1]), rfl⟩

/-- Where the reference comes first: the best of the four; and nothing ahead of it. -/
theorem first_yes (a b d : Int) (ha : 0 ≤ a) (ha' : a < d) (hb : 0 ≤ b) (hb' : b < d) : hexB (a - ratA a b d 3 * d) (b - ratB a b d 3 * d) d = true := by
  rw [hexB_true]
  rcases rat_hexa a b d ha ha' hb hb' with ⟨p, q, h⟩ | ⟨p, q, h⟩ | ⟨p, q, h⟩ | ⟨p, q, h⟩ <;> rw [p, q] <;> obtain ⟨x1, x2, x3, x4, x5, x6⟩ := h <;> omega
theorem first_no (a b d i k : Int) (ha : 0 ≤ a) (ha' : a < d) (hb : 0 ≤ b) (hb' : b < d) (hi : -1 ≤ i) (hi' : i ≤ 2) (hk : -1 ≤ k) (hk' : k ≤ 2)
    (h : i < ratA a b d 3 ∨ (i = ratA a b d 3 ∧ k < ratB a b d 3)) : hexB (a - i * d) (b - k * d) d = false := by
  rw [← Bool.not_eq_true, hexB_true]
  have hi4 : i = -1 ∨ i = 0 ∨ i = 1 ∨ i = 2 := by omega
  have hk4 : k = -1 ∨ k = 0 ∨ k = 1 ∨ k = 2 := by omega
  rcases rat_hexa a b d ha ha' hb hb' with ⟨p, q, x⟩ | ⟨p, q, x⟩ | ⟨p, q, x⟩ | ⟨p, q, x⟩ <;> rw [p, q] at h <;> obtain ⟨x1, x2, x3, x4, x5, x6⟩ := x <;>
    rcases hi4 with rfl | rfl | rfl | rfl <;> rcases hk4 with rfl | rfl | rfl | rfl <;> omega

set_option maxHeartbeats 800000 in
theorem ref_round (x y d : Int) (hx : -1152921504606846976 ≤ x) (hx' : x ≤ 1152921504606846976) (hy : -1152921504606846976 ≤ y) (hy' : y ≤ 1152921504606846976) (hd : 1 ≤ d) (hd' : d ≤ 1125899906842624) (w : World) :
    Calls Try.prog 69 #[.agg #[.int .i64 x, .int .i64 y], .int .i64 d] w fun e w' => e = .returned (.tuple #[.agg #[.int .i64 (rdA x y d), .int .i64 (rdB x y d)], .bool true]) ∧ Below w.heap.size w w' := by
  have d1 : decide (d < 1) = false := decide_eq_false (by omega)
  have d2 : decide (1125899906842624 < d) = false := decide_eq_false (by omega)
  have d3 : decide (x < -1152921504606846976) = false := decide_eq_false (by omega)
  have d4 : decide (1152921504606846976 < x) = false := decide_eq_false (by omega)
  have d5 : decide (y < -1152921504606846976) = false := decide_eq_false (by omega)
  have d6 : decide (1152921504606846976 < y) = false := decide_eq_false (by omega)
  have F1 := Lib.hid (ref_floor_pos x d (by omega) (by omega) (by omega) (by omega))
  have F2 := Lib.hid (ref_floor_pos y d (by omega) (by omega) (by omega) (by omega))
  have xb := Int.emod_lt_of_pos x (b := d) (by omega)
  have xb0 := Int.emod_nonneg x (b := d) (by omega)
  have yb := Int.emod_lt_of_pos y (b := d) (by omega)
  have yb0 := Int.emod_nonneg y (b := d) (by omega)
  have Y := Lib.hid (first_yes (x % d) (y % d) d xb0 xb yb0 yb)
  have N := Lib.hid (fun i k => first_no (x % d) (y % d) d i k xb0 xb yb0 yb)
  obtain ⟨t1, t2, t3, t4⟩ := rat_bd (x % d) (y % d) d 3
  obtain ⟨t5, t6⟩ := quo_bd x d hx hx' hd
  obtain ⟨t7, t8⟩ := quo_bd y d hy hy' hd
  have e1 : x / d + ratA (x % d) (y % d) d 3 = rdA x y d := rfl
  have e2 : y / d + ratB (x % d) (y % d) d 3 = rdB x y d := rfl
  rw [← e1, ← e2]
  clear e1 e2
  generalize ratA (x % d) (y % d) d 3 = P at *
  generalize ratB (x % d) (y % d) d 3 = Q at *
  generalize hqa : x / d = qa at *
  generalize hra : x % d = ra at *
  generalize hqb : y / d = qb at *
  generalize hrb : y % d = rb at *
  clear hqa hra hqb hrb
  go_enter Try.func69, Try.ntmps69
  go_wp2_with fail
  refine (F1.out _).mono ?_
  rintro e w' ⟨rfl, n1, rfl⟩
  go_wp2_with fail
  refine (F2.out _).mono ?_
  rintro e w' ⟨rfl, n2, rfl⟩
  go_wp2_with fail
  refine wp_start (fun W => W.cell? ⟨w.heap.size + 1, 0, none⟩ = some (.int .i64 0) ∧ W.frozen? ⟨w.heap.size + 1, 0, none⟩ = false ∧ W.cell? ⟨w.heap.size + 1, 1, none⟩ = some (.int .i64 0) ∧ W.frozen? ⟨w.heap.size + 1, 1, none⟩ = false ∧ Below w.heap.size w W) ⟨by first | with_reducible assumption | (simp [go_sem]; done), by first | with_reducible assumption | (simp [go_sem]; done), by first | with_reducible assumption | (simp [go_sem]; done), by first | with_reducible assumption | (simp [go_sem]; done), by repeat (first | with_reducible exact Below.refl _ _ | with_reducible refine bl_alloc ?_ _ | with_reducible refine bl_drewN ?_ _ | with_reducible refine bl_drew ?_ | (with_reducible refine bl_set ?_ ?_ _; rotate_left; focus (first | (simp; done) | (simp; omega) | omega)) | with_reducible refine below_step ?_ (Bw.below _) | with_reducible refine below_step ?_ (by assumption))⟩ ?_
  rintro W ⟨hc1, fc1, hc2, fc2, hWc⟩ gc
  have c1 := Bw.hold hc1
  have cf1 := Bw.free hc1 fc1
  have c2 := Bw.hold hc2
  have cf2 := Bw.free hc2 fc2
  have cz1 := fun g : Bw W => cell_lt (c1 g)
  have cy1 := fun g : Bw W => Nat.le_of_lt (cz1 g)
  clear hc1 fc1 hc2 fc2
  go_loop [12] (fun i => ∃ I : Int, -1 ≤ I ∧ I ≤ P ∧ i = .int .i64 I) (fun i => (3 - intOf i).toNat)
  case atStart => exact ⟨-1, by omega, by omega, rfl⟩
  case round =>
    obtain ⟨I, hI, hI', rfl⟩ := hrel
    have mI := mul_bd I d 1 1125899906842624 (by omega) (by omega) (by omega) (by omega)
    obtain ⟨mI1, mI2⟩ := mI
    go_wp2_with fail
    go_loop [13] (fun k => ∃ K : Int, -1 ≤ K ∧ K ≤ 3 ∧ (I < P ∨ K ≤ Q) ∧ k = .int .i64 K) (fun k => (3 - intOf k).toNat)
    case atStart => exact ⟨-1, by omega, by omega, by omega, rfl⟩
    case round =>
      obtain ⟨K, hK, hK', hIK, rfl⟩ := hrel
      have mK := mul_bd K d 3 1125899906842624 (by omega) (by omega) (by omega) (by omega)
      obtain ⟨mK1, mK2⟩ := mK
      by_cases c : K ≤ 2
      · have H := ref_holds (ra - I * d) (rb - K * d) d (by omega) (by omega) (by omega) (by omega)
        by_cases c2 : I = P ∧ K = Q
        · obtain ⟨rfl, rfl⟩ := c2
          rw [Y.out] at H
          have H' := Lib.hid H
          clear H hIK
          go_wp2_with fail
          refine (H'.out _).mono ?_
          rintro e w' ⟨rfl, rfl⟩
          go_wp2_with fail
          refine bodyPost_ret (v := .tuple #[.agg #[.int .i64 (qa + I), .int .i64 (qb + K)], .bool true]) (by simp [results, Try.results69, go_sem, c1, c2]) rfl ⟨rfl, ?_⟩
          repeat (first | exact Below.refl _ _ | refine bl_alloc ?_ _ | refine bl_drewN ?_ _ | refine bl_drew ?_ | refine bl_set ?_ (by first | (simp; done) | (simp; omega) | omega) _ | refine below_step ?_ (by assumption) | refine below_step ?_ (Bw.below _))
        · have h2 := N.out I K (by omega) (by omega) (by omega) (by omega) (by omega)
          rw [h2] at H
          have H' := Lib.hid H
          have hn : I < P ∨ K + 1 ≤ Q := by omega
          have HN := Lib.hid hn
          clear H h2 c2 hIK hn
          go_wp2_with fail
          refine (H'.out _).mono ?_
          rintro e w' ⟨rfl, rfl⟩
          go_wp2_with fail
          go_round
          case rel => exact ⟨K + 1, by omega, by omega, HN.out, by go_num⟩
          case measure => simp [intOf]; omega
      · have hn : I + 1 ≤ P := by omega
        clear hIK
        go_wp2_with fail
        go_round
        case rel => exact ⟨I + 1, by omega, by omega, by go_num⟩
        case measure => simp [intOf]; omega
end Go.Proofs.Ytmipkloleklnkaa

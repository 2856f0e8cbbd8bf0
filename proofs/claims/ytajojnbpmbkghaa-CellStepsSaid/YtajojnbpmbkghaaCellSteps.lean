/- CellSteps: the cells of one point, of two sizes one behind the other, are near: the parent of the finer one is the coarser one, or one step away. No condition. -/
import Derived.Test.YtajojnbpmbkghaaClimb
import Derived.Test.YtajojnbpmbkghaaRefSteps
namespace Go.Proofs.Ytajojnbpmbkghaa
open Go.RowKit
set_option linter.unusedSimpArgs false
set_option linter.unusedVariables false
theorem nr_next (x y : Int) (K : Nat) : nrX x y (K + 1) = 3 * nrX x y K + nrY x y K ∧ nrY x y (K + 1) = 2 * nrY x y K - nrX x y K := by
  have e1 : (bt (K + 1)).1 = 2 * (bt K).1 - (bt K).2 := rfl
  have e2 : (bt (K + 1)).2 = (bt K).1 + 3 * (bt K).2 := rfl
  unfold nrX nrY cjA cjB
  rw [e1, e2]
  generalize (bt K).1 = t1
  generalize (bt K).2 = t2
  constructor <;> grind
theorem hex_times (s t d k : Int) (hk : 0 ≤ k) (h : Hexa s t d) : -(k * d) ≤ 2 * (k * s) + k * t ∧ 2 * (k * s) + k * t ≤ k * d ∧ -(k * d) ≤ k * s + 2 * (k * t) ∧ k * s + 2 * (k * t) ≤ k * d ∧ -(k * d) ≤ k * s - k * t ∧ k * s - k * t ≤ k * d := by
  obtain ⟨a1, a2, b1, b2, c1, c2⟩ := h
  have m1 := Int.mul_le_mul_of_nonneg_left (show -d ≤ 2 * s + t by omega) hk
  have m2 := Int.mul_le_mul_of_nonneg_left a2 hk
  have m3 := Int.mul_le_mul_of_nonneg_left (show -d ≤ s + 2 * t by omega) hk
  have m4 := Int.mul_le_mul_of_nonneg_left b2 hk
  have m5 := Int.mul_le_mul_of_nonneg_left (show -d ≤ s - t by omega) hk
  have m6 := Int.mul_le_mul_of_nonneg_left c2 hk
  have e1 : k * (2 * s + t) = 2 * (k * s) + k * t := by grind
  have e2 : k * (s + 2 * t) = k * s + 2 * (k * t) := by grind
  have e3 : k * (s - t) = k * s - k * t := by grind
  have e4 : k * -d = -(k * d) := by grind
  rw [e1] at m1 m2
  rw [e2] at m3 m4
  rw [e3] at m5 m6
  rw [e4] at m1 m3 m5
  exact ⟨m1, m2, m3, m4, m5, m6⟩
/-- The parent of a point's cell is the coarser cell of it, or a step away. -/
theorem up_near (x y : Int) (K : Nat) (hK : K + 1 < 13) : stV (upA (nearA x y K) (nearB x y K) - nearA x y (K + 1)) (upB (nearA x y K) (nearB x y K) - nearB x y (K + 1)) ≤ 1 := by
  obtain ⟨p1, _⟩ := p7_small K (by omega)
  have e7 : p7 (K + 1) = p7 K * 7 := rfl
  have h1 : Hexa (nrX x y K - 2340 * p7 K * nearA x y K) (nrY x y K - 2340 * p7 K * nearB x y K) (2340 * p7 K) := rd_hexa (nrX x y K) (nrY x y K) (2340 * p7 K) (by omega)
  have h2 : Hexa (nrX x y (K + 1) - 2340 * p7 (K + 1) * nearA x y (K + 1)) (nrY x y (K + 1) - 2340 * p7 (K + 1) * nearB x y (K + 1)) (2340 * p7 (K + 1)) := rd_hexa (nrX x y (K + 1)) (nrY x y (K + 1)) (2340 * p7 (K + 1)) (by omega)
  rw [(nr_next x y K).1, (nr_next x y K).2, e7] at h2
  have h3 := hex_times _ _ _ (2340 * p7 K) (by omega) (up_hexa (nearA x y K) (nearB x y K))
  generalize nearA x y (K + 1) = ya at *
  generalize nearB x y (K + 1) = yb at *
  generalize nearA x y K = za at *
  generalize nearB x y K = zb at *
  generalize upA za zb = ua at *
  generalize upB za zb = ub at *
  obtain ⟨d, hd⟩ : ∃ d, 2340 * p7 K = d := ⟨_, rfl⟩
  rw [show 2340 * (p7 K * 7) = 7 * d by omega] at h2
  rw [hd] at h1 h3
  have hd0 : 0 < d := by omega
  obtain ⟨a1, a2, a3, a4, a5, a6⟩ := h1
  obtain ⟨b1, b2, b3, b4, b5, b6⟩ := h2
  obtain ⟨c1, c2, c3, c4, c5, c6⟩ := h3
  have f1 : d * (3 * za + zb - 7 * ua) = 3 * (d * za) + d * zb - 7 * (d * ua) := by grind
  have f2 : d * (2 * zb - za - 7 * ub) = 2 * (d * zb) - d * za - 7 * (d * ub) := by grind
  have f3 : 7 * d * ya = 7 * (d * ya) := by grind
  have f4 : 7 * d * yb = 7 * (d * yb) := by grind
  rw [f1, f2] at c1 c2 c3 c4 c5 c6
  rw [f3] at b1 b2 b3 b4 b5 b6
  rw [f4] at b1 b2 b3 b4 b5 b6
  have g1 : d * (2 * (ua - ya) + (ub - yb)) = 2 * (d * ua) - 2 * (d * ya) + d * ub - d * yb := by grind
  have g2 : d * ((ua - ya) + 2 * (ub - yb)) = d * ua - d * ya + 2 * (d * ub) - 2 * (d * yb) := by grind
  have g3 : d * ((ua - ya) - (ub - yb)) = d * ua - d * ya - d * ub + d * yb := by grind
  generalize d * za = A1 at *
  generalize d * zb = A2 at *
  generalize d * ua = A3 at *
  generalize d * ub = A4 at *
  generalize d * ya = A5 at *
  generalize d * yb = A6 at *
  generalize nrX x y K = N1 at *
  generalize nrY x y K = N2 at *
  have small : ∀ v : Int, -(3 * d) < d * v → d * v < 3 * d → -2 ≤ v ∧ v ≤ 2 := by
    intro v l1 l2
    constructor
    · rcases Int.lt_or_le v (-2) with h | h
      · have := Int.mul_le_mul_of_nonneg_left (show v ≤ -3 by omega) (show 0 ≤ d by omega)
        omega
      · exact h
    · rcases Int.lt_or_le 2 v with h | h
      · have := Int.mul_le_mul_of_nonneg_left (show 3 ≤ v by omega) (show 0 ≤ d by omega)
        omega
      · exact h
  have k1 := small (2 * (ua - ya) + (ub - yb)) (by rw [g1]; omega) (by rw [g1]; omega)
  have k2 := small ((ua - ya) + 2 * (ub - yb)) (by rw [g2]; omega) (by rw [g2]; omega)
  have k3 := small ((ua - ya) - (ub - yb)) (by rw [g3]; omega) (by rw [g3]; omega)
  have q := stV_spec (ua - ya) (ub - yb)
  obtain ⟨_, _, _, q⟩ := q
  have s1 := szI_bd (ua - ya) 1 (by omega) (by omega)
  have s2 := szI_bd (ub - yb) 1 (by omega) (by omega)
  have s3 := szI_bd (ua - ya + (ub - yb)) 1 (by omega) (by omega)
  omega
theorem ref_steps_fit (a b : Int) (h1 : -4000000000000 ≤ a) (h2 : a ≤ 4000000000000) (h3 : -4000000000000 ≤ b) (h4 : b ≤ 4000000000000) (w : World) :
    Calls Try.prog 33 #[.agg #[.int .i64 a, .int .i64 b]] w fun e w' => e = .returned (.tuple #[.int .i64 (stV a b), .bool true]) ∧ Below w.heap.size w w' := by
  have h := ref_steps a b (by omega) (by omega) (by omega) (by omega) w
  obtain ⟨e1, e2⟩ := st_yes' a b (by omega) (by omega) (by omega) (by omega) (i64B_mk (by omega) (by omega)) (by omega) (by omega) (by omega)
  rw [e1, e2] at h
  exact h
theorem res12 (r : Int) : ∃ K : Nat, K + 1 < 13 ∧ (r.tmod 12 + 12).tmod 12 = 11 - (K : Int) := by
  have h := tmod_bd r 12 (by omega)
  have e : (r.tmod 12 + 12).tmod 12 = (r.tmod 12 + 12) % 12 := Int.tmod_eq_emod_of_nonneg (by omega)
  exact ⟨(11 - (r.tmod 12 + 12).tmod 12).toNat, by omega, by omega⟩
set_option maxRecDepth 100000 in
set_option maxHeartbeats 4000000 in
theorem cellsteps_walk (x y r : Int) (hx : -9223372036854775808 ≤ x) (hx' : x ≤ 9223372036854775807) (hy : -9223372036854775808 ≤ y) (hy' : y ≤ 9223372036854775807) (hr : -9223372036854775808 ≤ r) (hr' : r ≤ 9223372036854775807) (w : World) : Calls Try.prog 10 #[.int .i64 x, .int .i64 y, .int .i64 r] w fun e w' => e = .returned (.bool true) ∧ Below w.heap.size w w' := by
  have PT := Lib.hid (law3_point x y hx hx' hy hy')
  obtain ⟨K, hK, hr0⟩ := res12 r
  obtain ⟨t1, t2⟩ := tmod_bd r 12 (by omega)
  obtain ⟨R, hR⟩ : ∃ R : Int, R = 11 - (K : Int) := ⟨_, rfl⟩
  obtain ⟨u1, u2⟩ := ptV_bd x
  obtain ⟨u3, u4⟩ := ptV_bd y
  have hok := near_ok (ptV x) (ptV y) K (by omega) u1 u2 u3 u4
  rw [show 12 - (K : Int) = R + 1 by omega] at hok
  have O1 := Lib.hid (cell_of (ptV x) (ptV y) (R + 1) K (by omega) (by omega) (pt_wd x y))
  have O2 := Lib.hid (cell_of (ptV x) (ptV y) R (K + 1) hK (by omega) (pt_wd x y))
  have PA := cell_parent (R + 1) (nearA (ptV x) (ptV y) K) (nearB (ptV x) (ptV y) K) hok (by omega)
  rw [show R + 1 - 1 = R by omega] at PA
  have HP := Lib.hid PA
  obtain ⟨a1, a2, a3, a4⟩ := near_tame (ptV x) (ptV y) K (by omega) u1 u2 u3 u4
  obtain ⟨b1, b2, b3, b4⟩ := near_tame (ptV x) (ptV y) (K + 1) hK u1 u2 u3 u4
  obtain ⟨c1, c2, c3, c4⟩ := up_bd _ _ 140000001 (by omega) a1 a2 a3 a4
  have hs := up_near (ptV x) (ptV y) K hK
  have SS := Lib.hid (ref_steps_fit (upA (nearA (ptV x) (ptV y) K) (nearB (ptV x) (ptV y) K) - nearA (ptV x) (ptV y) (K + 1)) (upB (nearA (ptV x) (ptV y) K) (nearB (ptV x) (ptV y) K) - nearB (ptV x) (ptV y) (K + 1)) (by omega) (by omega) (by omega) (by omega))
  rw [← hR] at hr0
  have r1 : 0 ≤ R := by omega
  have r2 : R ≤ 11 := by omega
  clear hR PA hok a1 a2 a3 a4 hK
  generalize ptV x = X at *
  generalize ptV y = Y at *
  generalize nearA X Y (K + 1) = da at *
  generalize nearB X Y (K + 1) = db at *
  generalize nearA X Y K = za at *
  generalize nearB X Y K = zb at *
  generalize upA za zb = ua at *
  generalize upB za zb = ub at *
  generalize stV (ua - da) (ub - db) = sv at *
  go_enter Try.func10, Try.ntmps10
  go_wp2_with fail
  refine (PT.out _).mono ?_
  rintro e w1 ⟨rfl, rfl⟩
  go_wp2_with fail
  refine calls_start (fun V => Below w.heap.size w V) (by repeat (first | with_reducible exact Below.refl _ _ | with_reducible refine bl_alloc ?_ _ | with_reducible refine bl_drewN ?_ _ | with_reducible refine bl_drew ?_ | (with_reducible refine bl_set ?_ ?_ _; rotate_left; focus (first | (simp; done) | (simp; omega) | omega)) | with_reducible refine below_step ?_ (Bw.below _) | with_reducible refine below_step ?_ (by assumption))) ?_
  rintro V hWc gc
  refine (O1.out _).mono ?_
  rintro e_g2 w_g2 ⟨rfl, hb_g2⟩
  obtain ⟨g2, rfl⟩ := gc.next hb_g2
  clear hb_g2
  go_wp2_with fail
  refine calls_start (fun V2 => V2.cell? ⟨g2.out.heap.size, 0, none⟩ = some (.int .i64 (R + 1)) ∧ V2.cell? ⟨g2.out.heap.size, 1, none⟩ = some (.int .i64 za) ∧ V2.cell? ⟨g2.out.heap.size, 2, none⟩ = some (.int .i64 zb) ∧ Below w.heap.size w V2) ⟨by first | with_reducible assumption | (simp [go_sem]; done), by first | with_reducible assumption | (simp [go_sem]; done), by first | with_reducible assumption | (simp [go_sem]; done), by repeat (first | with_reducible exact Below.refl _ _ | with_reducible refine bl_alloc ?_ _ | with_reducible refine bl_drewN ?_ _ | with_reducible refine bl_drew ?_ | (with_reducible refine bl_set ?_ ?_ _; rotate_left; focus (first | (simp; done) | (simp; omega) | omega)) | with_reducible refine below_step ?_ (Bw.below _) | with_reducible refine below_step ?_ (by assumption))⟩ ?_
  rintro V2 ⟨hd1, hd2, hd3, hWd⟩ gd
  have d1 := Bw.hold hd1
  have d2 := Bw.hold hd2
  have d3 := Bw.hold hd3
  have dz1 := fun g : Bw V2 => cell_lt (d1 g)
  have dy1 := fun g : Bw V2 => Nat.le_of_lt (dz1 g)
  clear hd1 hd2 hd3
  refine (O2.out _).mono ?_
  rintro e_g3 w_g3 ⟨rfl, hb_g3⟩
  obtain ⟨g3, rfl⟩ := gd.next hb_g3
  clear hb_g3
  go_wp2_with fail
  refine calls_start (fun V3 => V3.cell? ⟨g2.out.heap.size, 0, none⟩ = some (.int .i64 (R + 1)) ∧ V3.cell? ⟨g2.out.heap.size, 1, none⟩ = some (.int .i64 za) ∧ V3.cell? ⟨g2.out.heap.size, 2, none⟩ = some (.int .i64 zb) ∧ V3.cell? ⟨g3.out.heap.size, 0, none⟩ = some (.int .i64 R) ∧ V3.cell? ⟨g3.out.heap.size, 1, none⟩ = some (.int .i64 da) ∧ V3.cell? ⟨g3.out.heap.size, 2, none⟩ = some (.int .i64 db) ∧ Below w.heap.size w V3) ⟨by first | with_reducible assumption | (simp [go_sem]; done) | with_reducible exact hold_al d1 _ _ | with_reducible exact hold_al d2 _ _ | with_reducible exact hold_al d3 _ _ | (simp [go_sem, d1, d2, d3, dz1, dy1]; done), by first | with_reducible assumption | (simp [go_sem]; done) | with_reducible exact hold_al d1 _ _ | with_reducible exact hold_al d2 _ _ | with_reducible exact hold_al d3 _ _ | (simp [go_sem, d1, d2, d3, dz1, dy1]; done), by first | with_reducible assumption | (simp [go_sem]; done) | with_reducible exact hold_al d1 _ _ | with_reducible exact hold_al d2 _ _ | with_reducible exact hold_al d3 _ _ | (simp [go_sem, d1, d2, d3, dz1, dy1]; done), by first | with_reducible assumption | (simp [go_sem]; done) | with_reducible exact hold_al d1 _ _ | with_reducible exact hold_al d2 _ _ | with_reducible exact hold_al d3 _ _ | (simp [go_sem, d1, d2, d3, dz1, dy1]; done), by first | with_reducible assumption | (simp [go_sem]; done) | with_reducible exact hold_al d1 _ _ | with_reducible exact hold_al d2 _ _ | with_reducible exact hold_al d3 _ _ | (simp [go_sem, d1, d2, d3, dz1, dy1]; done), by first | with_reducible assumption | (simp [go_sem]; done) | with_reducible exact hold_al d1 _ _ | with_reducible exact hold_al d2 _ _ | with_reducible exact hold_al d3 _ _ | (simp [go_sem, d1, d2, d3, dz1, dy1]; done), by repeat (first | with_reducible exact Below.refl _ _ | with_reducible refine bl_alloc ?_ _ | with_reducible refine bl_drewN ?_ _ | with_reducible refine bl_drew ?_ | (with_reducible refine bl_set ?_ ?_ _; rotate_left; focus (first | (simp; done) | (simp; omega) | omega)) | with_reducible refine below_step ?_ (Bw.below _) | with_reducible refine below_step ?_ (by assumption))⟩ ?_
  rintro V3 ⟨hq1, hq2, hq3, hq4, hq5, hq6, hWq⟩ gq
  have q1 := Bw.hold hq1
  have q2 := Bw.hold hq2
  have q3 := Bw.hold hq3
  have q4 := Bw.hold hq4
  have q5 := Bw.hold hq5
  have q6 := Bw.hold hq6
  have qz1 := fun g : Bw V3 => cell_lt (q1 g)
  have qy1 := fun g : Bw V3 => Nat.le_of_lt (qz1 g)
  have qz4 := fun g : Bw V3 => cell_lt (q4 g)
  have qy4 := fun g : Bw V3 => Nat.le_of_lt (qz4 g)
  clear hq1 hq2 hq3 hq4 hq5 hq6
  clear d1 d2 d3 dz1 dy1
  refine (HP.out _).mono ?_
  rintro e_g4 w_g4 ⟨rfl, hb_g4⟩
  obtain ⟨g4, rfl⟩ := gq.next hb_g4
  clear hb_g4
  go_wp2_with fail
  refine calls_start (fun V4 => V4.cell? ⟨g2.out.heap.size, 0, none⟩ = some (.int .i64 (R + 1)) ∧ V4.cell? ⟨g2.out.heap.size, 1, none⟩ = some (.int .i64 za) ∧ V4.cell? ⟨g2.out.heap.size, 2, none⟩ = some (.int .i64 zb) ∧ V4.cell? ⟨g3.out.heap.size, 0, none⟩ = some (.int .i64 R) ∧ V4.cell? ⟨g3.out.heap.size, 1, none⟩ = some (.int .i64 da) ∧ V4.cell? ⟨g3.out.heap.size, 2, none⟩ = some (.int .i64 db) ∧ V4.cell? ⟨g4.out.heap.size, 0, none⟩ = some (.int .i64 R) ∧ V4.cell? ⟨g4.out.heap.size, 1, none⟩ = some (.int .i64 ua) ∧ V4.cell? ⟨g4.out.heap.size, 2, none⟩ = some (.int .i64 ub) ∧ Below w.heap.size w V4) ⟨by first | with_reducible assumption | (simp [go_sem]; done) | with_reducible exact hold_al q1 _ _ | with_reducible exact hold_al q2 _ _ | with_reducible exact hold_al q3 _ _ | with_reducible exact hold_al q4 _ _ | with_reducible exact hold_al q5 _ _ | with_reducible exact hold_al q6 _ _ | (simp [go_sem, q1, q2, q3, q4, q5, q6, qz1, qy1, qz4, qy4]; done), by first | with_reducible assumption | (simp [go_sem]; done) | with_reducible exact hold_al q1 _ _ | with_reducible exact hold_al q2 _ _ | with_reducible exact hold_al q3 _ _ | with_reducible exact hold_al q4 _ _ | with_reducible exact hold_al q5 _ _ | with_reducible exact hold_al q6 _ _ | (simp [go_sem, q1, q2, q3, q4, q5, q6, qz1, qy1, qz4, qy4]; done), by first | with_reducible assumption | (simp [go_sem]; done) | with_reducible exact hold_al q1 _ _ | with_reducible exact hold_al q2 _ _ | with_reducible exact hold_al q3 _ _ | with_reducible exact hold_al q4 _ _ | with_reducible exact hold_al q5 _ _ | with_reducible exact hold_al q6 _ _ | (simp [go_sem, q1, q2, q3, q4, q5, q6, qz1, qy1, qz4, qy4]; done), by first | with_reducible assumption | (simp [go_sem]; done) | with_reducible exact hold_al q1 _ _ | with_reducible exact hold_al q2 _ _ | with_reducible exact hold_al q3 _ _ | with_reducible exact hold_al q4 _ _ | with_reducible exact hold_al q5 _ _ | with_reducible exact hold_al q6 _ _ | (simp [go_sem, q1, q2, q3, q4, q5, q6, qz1, qy1, qz4, qy4]; done), by first | with_reducible assumption | (simp [go_sem]; done) | with_reducible exact hold_al q1 _ _ | with_reducible exact hold_al q2 _ _ | with_reducible exact hold_al q3 _ _ | with_reducible exact hold_al q4 _ _ | with_reducible exact hold_al q5 _ _ | with_reducible exact hold_al q6 _ _ | (simp [go_sem, q1, q2, q3, q4, q5, q6, qz1, qy1, qz4, qy4]; done), by first | with_reducible assumption | (simp [go_sem]; done) | with_reducible exact hold_al q1 _ _ | with_reducible exact hold_al q2 _ _ | with_reducible exact hold_al q3 _ _ | with_reducible exact hold_al q4 _ _ | with_reducible exact hold_al q5 _ _ | with_reducible exact hold_al q6 _ _ | (simp [go_sem, q1, q2, q3, q4, q5, q6, qz1, qy1, qz4, qy4]; done), by first | with_reducible assumption | (simp [go_sem]; done) | with_reducible exact hold_al q1 _ _ | with_reducible exact hold_al q2 _ _ | with_reducible exact hold_al q3 _ _ | with_reducible exact hold_al q4 _ _ | with_reducible exact hold_al q5 _ _ | with_reducible exact hold_al q6 _ _ | (simp [go_sem, q1, q2, q3, q4, q5, q6, qz1, qy1, qz4, qy4]; done), by first | with_reducible assumption | (simp [go_sem]; done) | with_reducible exact hold_al q1 _ _ | with_reducible exact hold_al q2 _ _ | with_reducible exact hold_al q3 _ _ | with_reducible exact hold_al q4 _ _ | with_reducible exact hold_al q5 _ _ | with_reducible exact hold_al q6 _ _ | (simp [go_sem, q1, q2, q3, q4, q5, q6, qz1, qy1, qz4, qy4]; done), by first | with_reducible assumption | (simp [go_sem]; done) | with_reducible exact hold_al q1 _ _ | with_reducible exact hold_al q2 _ _ | with_reducible exact hold_al q3 _ _ | with_reducible exact hold_al q4 _ _ | with_reducible exact hold_al q5 _ _ | with_reducible exact hold_al q6 _ _ | (simp [go_sem, q1, q2, q3, q4, q5, q6, qz1, qy1, qz4, qy4]; done), by repeat (first | with_reducible exact Below.refl _ _ | with_reducible refine bl_alloc ?_ _ | with_reducible refine bl_drewN ?_ _ | with_reducible refine bl_drew ?_ | (with_reducible refine bl_set ?_ ?_ _; rotate_left; focus (first | (simp; done) | (simp; omega) | omega)) | with_reducible refine below_step ?_ (Bw.below _) | with_reducible refine below_step ?_ (by assumption))⟩ ?_
  rintro V4 ⟨hl1, hl2, hl3, hl4, hl5, hl6, hl7, hl8, hl9, hWl⟩ gl
  have l1 := Bw.hold hl1
  have l2 := Bw.hold hl2
  have l3 := Bw.hold hl3
  have l4 := Bw.hold hl4
  have l5 := Bw.hold hl5
  have l6 := Bw.hold hl6
  have l7 := Bw.hold hl7
  have l8 := Bw.hold hl8
  have l9 := Bw.hold hl9
  have lz1 := fun g : Bw V4 => cell_lt (l1 g)
  have ly1 := fun g : Bw V4 => Nat.le_of_lt (lz1 g)
  have lz4 := fun g : Bw V4 => cell_lt (l4 g)
  have ly4 := fun g : Bw V4 => Nat.le_of_lt (lz4 g)
  have lz7 := fun g : Bw V4 => cell_lt (l7 g)
  have ly7 := fun g : Bw V4 => Nat.le_of_lt (lz7 g)
  clear hl1 hl2 hl3 hl4 hl5 hl6 hl7 hl8 hl9
  clear q1 q2 q3 q4 q5 q6 qz1 qy1 qz4 qy4
  refine (SS.out _).mono ?_
  rintro e_g5 w_g5 ⟨rfl, hb_g5⟩
  obtain ⟨g5, rfl⟩ := gl.next hb_g5
  clear hb_g5
  go_wp2_with fail
  refine (awake4 _).mono ?_
  rintro e_g6 w_g6 ⟨rfl, hb_g6⟩
  obtain ⟨g6, rfl⟩ := g5.next hb_g6
  clear hb_g6
  go_wp2_with fail
  go_ret
  exact ⟨rfl, by repeat (first | with_reducible exact Below.refl _ _ | with_reducible refine bl_alloc ?_ _ | with_reducible refine bl_drewN ?_ _ | with_reducible refine bl_drew ?_ | (with_reducible refine bl_set ?_ ?_ _; rotate_left; focus (first | (simp; done) | (simp; omega) | omega)) | with_reducible refine below_step ?_ (Bw.below _) | with_reducible refine below_step ?_ (by assumption))⟩
/-! THE STATEMENT CellSteps -/
section
open Go.ChangeShapes Go.WideShapes Go.ChangeAt Go.RowKit Go.Joins
set_option linter.unusedVariables false
set_option maxRecDepth 100000 in
theorem cellSteps_lifted (os : Os) (started : os.Started) (H : Type) (enc : TypeId × Value → H) :
    ReturnsInHanded {} Try.checked os 10 .any (Rows.cellStepsSpec.pre6 enc Try.prog Try.f10 Rows.cellStepsRow.domain false) (Rows.cellStepsSpec.post enc Try.prog Try.f10 false true false false) := by
  refine returnsInHanded_of_change (C := Try.checked) (show ownKnob Try.prog.godebug = none by kernel_rfl) started (by kernel_rfl) Try.func10
    (ChangeSpec.witness6 (enc := enc) (C := Try.checked) false ⟨#[], #[.int .i64 0, .int .i64 0, .int .i64 0], []⟩ 8 (by kernel_rfl) (by kernel_rfl) (by kernel_rfl) (by kernel_rfl)) ?_
  intro W base args ds gs before hval0 hW hcnd _
  have hval : ∀ (j : Nat) t v, Try.f10.params[j]? = some t → args[j]? = some v → Value.okWide Try.prog W .any base t v := hval0
  have hW' := hW
  obtain ⟨p, q, hA0, hV, rfl, hfz, hnd⟩ := hW
  have hA : DataW.TrodAll enc Try.prog W 0 (fun _ => true) true Try.f10.params.toList args.toList ds p := hA0
  rw [Try.params10] at hA hval
  obtain ⟨v0, vs0, d0, ds0, p0, q0, hargs, rfl, rfl, h0, r0⟩ := trodAll_cons hA
  obtain ⟨v1, vs1, d1, ds1, p1, q1, rfl, rfl, rfl, h1, r1⟩ := trodAll_cons r0
  obtain ⟨v2, vs2, d2, ds2, p2, q2, rfl, rfl, rfl, h2, r2⟩ := trodAll_cons r1
  obtain ⟨rfl, rfl, rfl⟩ := trodAll_nil r2
  obtain rfl : args = #[v0, v1, v2] := by cases args; simp_all
  obtain ⟨rfl, rfl⟩ := trodVars_none hV
  obtain ⟨x, rfl, rfl, rfl, wf_x⟩ := open_int Try.underlying2 (hval 0 2 v0 rfl rfl) h0
  obtain ⟨y, rfl, rfl, rfl, wf_y⟩ := open_int Try.underlying2 (hval 1 2 v1 rfl rfl) h1
  obtain ⟨r, rfl, rfl, rfl, wf_r⟩ := open_int Try.underlying3 (hval 2 3 v2 rfl rfl) h2
  clear hA0 hval0
  simp only [List.append_nil] at hW'
  refine (cellsteps_walk x y r (wf_i64 wf_x).1 (wf_i64 wf_x).2 (wf_i64 wf_y).1 (wf_i64 wf_y).2 (wf_i64 wf_r).1 (wf_i64 wf_r).2 W).mono fun e W' ⟨he, hb⟩ => ?_
  subst he
  exact ⟨_, rfl, post_of_below (pa := []) (pv := []) hW' (fun _ _ _ => (trodAll_cons_mk (shut_bool Try.underlying4 _) trodAll_mk0)) (fun sp _ => (trodAll_cons_mk (shut_int Try.underlying2 wf_x) (trodAll_cons_mk (shut_int Try.underlying2 wf_y) (trodAll_cons_mk (shut_int Try.underlying3 wf_r) trodAll_mk0)))) (fun _ _ => rfl) rfl hb
    (ok_one (by kernel_rfl) rfl (okWide_bool_mk Try.underlying4 _))⟩
theorem cellSteps_holds : Rows.CellStepsSaid :=
  OpenClaim.holds_of_wide 10 Try.f10 rfl rfl rfl rfl rfl rfl rfl ⟨rfl, rfl, rfl, rfl, rfl⟩ rfl rfl rfl rfl rfl (by kernel_rfl) Try.func10 (by kernel_rfl)
    (of_decide_eq_true (by kernel_rfl)) (by unfold Func.isWrapper; first | (rw [if_pos (by decide +kernel)]; kernel_rfl) | (rw [if_neg (by decide +kernel)]; exact ⟨rfl, rfl⟩))
    (fun os started H enc _ => cellSteps_lifted os started H enc)
end
#print axioms cellSteps_holds
end Go.Proofs.Ytajojnbpmbkghaa

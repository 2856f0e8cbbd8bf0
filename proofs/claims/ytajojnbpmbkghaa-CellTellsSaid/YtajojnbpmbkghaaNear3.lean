/- The walks of Near: the program's and the reference's. -/
import Derived.Test.YtajojnbpmbkghaaPlane
namespace Go.Proofs.Ytajojnbpmbkghaa
open Go.RowKit
set_option linter.unusedSimpArgs false
set_option linter.unusedVariables false
theorem nr_bd (x y : Int) (k : Nat) (hk : k < 13) (h1 : 0 ≤ x) (h2 : x < 1073741824) (h3 : 0 ≤ y) (h4 : y < 1073741824) :
    -1152921504606846976 ≤ nrX x y k ∧ nrX x y k ≤ 1152921504606846976 ∧ -1152921504606846976 ≤ nrY x y k ∧ nrY x y k ≤ 1152921504606846976 := by
  obtain ⟨b1, b2, b3, b4⟩ := bt_small k hk
  have c1 : -800000 ≤ cjA k := by unfold cjA; omega
  have c2 : cjA k ≤ 800000 := by unfold cjA; omega
  have c3 : -800000 ≤ cjB k := by unfold cjB; omega
  have c4 : cjB k ≤ 800000 := by unfold cjB; omega
  have m1 := mul_bd (45 * x - 26 * y) (cjA k) 80000000000 800000 (by omega) (by omega) c1 c2
  have m2 := mul_bd (45 * x - 26 * y) (cjB k) 80000000000 800000 (by omega) (by omega) c3 c4
  have m3 := mul_bd (52 * y) (cjA k) 80000000000 800000 (by omega) (by omega) c1 c2
  have m4 := mul_bd (52 * y) (cjB k) 80000000000 800000 (by omega) (by omega) c3 c4
  unfold nrX nrY
  omega
theorem cj_bd (k : Nat) (hk : k < 13) : -800000 ≤ cjA k ∧ cjA k ≤ 800000 ∧ -400000 ≤ cjB k ∧ cjB k ≤ 400000 := by
  obtain ⟨b1, b2, b3, b4⟩ := bt_small k hk
  unfold cjA cjB
  omega
theorem near_bd (x y : Int) (k : Nat) (hk : k < 13) (h1 : 0 ≤ x) (h2 : x < 1073741824) (h3 : 0 ≤ y) (h4 : y < 1073741824) :
    -1152921504606846976 ≤ nearA x y k ∧ nearA x y k ≤ 1152921504606846977 ∧ -1152921504606846976 ≤ nearB x y k ∧ nearB x y k ≤ 1152921504606846977 := by
  obtain ⟨b1, b2, b3, b4⟩ := nr_bd x y k hk h1 h2 h3 h4
  have p := p7_small k hk
  exact rd_bd _ _ _ b1 b2 b3 b4 (by omega)
set_option maxRecDepth 100000 in
set_option maxHeartbeats 1000000 in
theorem plane_near (x y r : Int) (K : Nat) (hK : K < 13) (hk : 12 - r = (K : Int)) (h : wdB x y = true) (w : World) :
    Calls Try.prog 32 #[.int .i64 x, .int .i64 y, .int .i64 r] w fun e w' => e = .returned (.tuple #[.agg #[.int .i64 (nearA x y K), .int .i64 (nearB x y K)], .bool true]) ∧ Below w.heap.size w w' := by
  obtain ⟨x1, x2, y1, y2⟩ := wdB_true h
  have r1 : 0 ≤ r := by omega
  have r2 : r ≤ 12 := by omega
  obtain ⟨n1, n2, n3, n4⟩ := nr_bd x y K hK x1 x2 y1 y2
  obtain ⟨b1, b2, b3, b4⟩ := bt_small K hK
  obtain ⟨j1, j2, j3, j4⟩ := cj_bd K hK
  obtain ⟨p1, p2⟩ := p7_small K hK
  have AX := Lib.hid (plane_axial_yes x y h)
  have IR := plane_isres r
  rw [show rsB r = true from decide_eq_true ⟨r1, r2⟩] at IR
  have HI := Lib.hid IR
  have BT := Lib.hid (eis_beta K (by omega))
  have CJ := Lib.hid (eis_conj_fit (bt K).1 (bt K).2 (cjA K) (cjB K) (by omega) (by omega) (by omega) (by omega) (by omega) (by omega) (by omega) (by omega) rfl rfl)
  have PW := Lib.hid (num_pow7 K (by omega))
  have ML := Lib.hid (eis_mul_fit (45 * x - 26 * y) (52 * y) (cjA K) (cjB K) (nrX x y K) (nrY x y K) (by omega) (by omega) (by omega) (by omega) (by omega) (by omega) (by omega) (by omega) (by omega) (by omega) (by omega) (by omega) rfl rfl)
  have RD := Lib.hid (eis_round_is (nrX x y K) (nrY x y K) (2340 * p7 K) (nearA x y K) (nearB x y K) n1 n2 n3 n4 (by omega) (by omega) rfl rfl)
  have dd : (2340 : Int) * p7 K ≤ 1125899906842624 := by omega
  clear IR h b1 b2 b3 b4 j1 j2 j3 j4 n1 n2 n3 n4
  generalize (bt K).1 = t1 at *
  generalize (bt K).2 = t2 at *
  generalize cjA K = ca at *
  generalize cjB K = cb at *
  generalize p7 K = p at *
  generalize nrX x y K = nx at *
  generalize nrY x y K = ny at *
  generalize nearA x y K = za at *
  generalize nearB x y K = zb at *
  generalize hux : 45 * x - 26 * y = ux at *
  generalize huy : 52 * y = uy at *
  clear hux huy
  go_enter Try.func32, Try.ntmps32
  go_wp2_with fail
  refine calls_start (fun V => V.cell? ⟨w.heap.size, 0, none⟩ = some (.int .i64 0) ∧ V.frozen? ⟨w.heap.size, 0, none⟩ = false ∧ V.cell? ⟨w.heap.size, 1, none⟩ = some (.int .i64 0) ∧ V.frozen? ⟨w.heap.size, 1, none⟩ = false ∧ Below w.heap.size w V) ⟨by first | with_reducible assumption | (simp [go_sem]; done), by first | with_reducible assumption | (simp [go_sem]; done), by first | with_reducible assumption | (simp [go_sem]; done), by first | with_reducible assumption | (simp [go_sem]; done), by repeat (first | with_reducible exact Below.refl _ _ | with_reducible refine bl_alloc ?_ _ | with_reducible refine bl_drewN ?_ _ | with_reducible refine bl_drew ?_ | (with_reducible refine bl_set ?_ ?_ _; rotate_left; focus (first | (simp; done) | (simp; omega) | omega)) | with_reducible refine below_step ?_ (Bw.below _) | with_reducible refine below_step ?_ (by assumption))⟩ ?_
  rintro V ⟨hc1, fc1, hc2, fc2, hWc⟩ gc
  have c1 := Bw.hold hc1
  have cf1 := Bw.free hc1 fc1
  have c2 := Bw.hold hc2
  have cf2 := Bw.free hc2 fc2
  have cz1 := fun g : Bw V => cell_lt (c1 g)
  have cy1 := fun g : Bw V => Nat.le_of_lt (cz1 g)
  clear hc1 fc1 hc2 fc2
  refine (AX.out _).mono ?_
  rintro e_g2 w_g2 ⟨rfl, hb_g2⟩
  obtain ⟨g2, rfl⟩ := gc.next hb_g2
  clear hb_g2
  go_wp2_with fail
  refine calls_start (fun V2 => V2.cell? ⟨w.heap.size, 0, none⟩ = some (.int .i64 0) ∧ V2.frozen? ⟨w.heap.size, 0, none⟩ = false ∧ V2.cell? ⟨w.heap.size, 1, none⟩ = some (.int .i64 0) ∧ V2.frozen? ⟨w.heap.size, 1, none⟩ = false ∧ V2.cell? ⟨g2.out.heap.size, 0, none⟩ = some (.int .i64 ux) ∧ V2.cell? ⟨g2.out.heap.size, 1, none⟩ = some (.int .i64 uy) ∧ Below w.heap.size w V2) ⟨by first | with_reducible assumption | (simp [go_sem]; done) | with_reducible exact hold_al c1 _ _ | with_reducible exact hold_al c2 _ _ | (simp [go_sem, c1, cf1, c2, cf2, cz1, cy1]; done), by first | with_reducible assumption | (simp [go_sem]; done) | with_reducible exact hold_alF c1 cf1 _ _ | with_reducible exact hold_alF c2 cf2 _ _ | (simp [go_sem, c1, cf1, c2, cf2, cz1, cy1]; done), by first | with_reducible assumption | (simp [go_sem]; done) | with_reducible exact hold_al c1 _ _ | with_reducible exact hold_al c2 _ _ | (simp [go_sem, c1, cf1, c2, cf2, cz1, cy1]; done), by first | with_reducible assumption | (simp [go_sem]; done) | with_reducible exact hold_alF c1 cf1 _ _ | with_reducible exact hold_alF c2 cf2 _ _ | (simp [go_sem, c1, cf1, c2, cf2, cz1, cy1]; done), by first | with_reducible assumption | (simp [go_sem]; done) | with_reducible exact hold_al c1 _ _ | with_reducible exact hold_al c2 _ _ | (simp [go_sem, c1, cf1, c2, cf2, cz1, cy1]; done), by first | with_reducible assumption | (simp [go_sem]; done) | with_reducible exact hold_al c1 _ _ | with_reducible exact hold_al c2 _ _ | (simp [go_sem, c1, cf1, c2, cf2, cz1, cy1]; done), by repeat (first | with_reducible exact Below.refl _ _ | with_reducible refine bl_alloc ?_ _ | with_reducible refine bl_drewN ?_ _ | with_reducible refine bl_drew ?_ | (with_reducible refine bl_set ?_ ?_ _; rotate_left; focus (first | (simp; done) | (simp; omega) | omega)) | with_reducible refine below_step ?_ (Bw.below _) | with_reducible refine below_step ?_ (by assumption))⟩ ?_
  rintro V2 ⟨hd1, fd1, hd2, fd2, hd3, hd4, hWd⟩ gd
  have d1 := Bw.hold hd1
  have df1 := Bw.free hd1 fd1
  have d2 := Bw.hold hd2
  have df2 := Bw.free hd2 fd2
  have d3 := Bw.hold hd3
  have d4 := Bw.hold hd4
  have dz1 := fun g : Bw V2 => cell_lt (d1 g)
  have dy1 := fun g : Bw V2 => Nat.le_of_lt (dz1 g)
  have dz3 := fun g : Bw V2 => cell_lt (d3 g)
  have dy3 := fun g : Bw V2 => Nat.le_of_lt (dz3 g)
  clear hd1 fd1 hd2 fd2 hd3 hd4
  clear c1 cf1 c2 cf2 cz1 cy1
  refine (HI.out _).mono ?_
  rintro e w1 ⟨rfl, rfl⟩
  go_wp2_with fail
  refine (BT.out _).mono ?_
  rintro e_g3 w_g3 ⟨rfl, hb_g3⟩
  obtain ⟨g3, rfl⟩ := gd.next hb_g3
  clear hb_g3
  go_wp2_with fail
  refine calls_start (fun V3 => V3.cell? ⟨w.heap.size, 0, none⟩ = some (.int .i64 0) ∧ V3.frozen? ⟨w.heap.size, 0, none⟩ = false ∧ V3.cell? ⟨w.heap.size, 1, none⟩ = some (.int .i64 0) ∧ V3.frozen? ⟨w.heap.size, 1, none⟩ = false ∧ V3.cell? ⟨g2.out.heap.size, 0, none⟩ = some (.int .i64 ux) ∧ V3.cell? ⟨g2.out.heap.size, 1, none⟩ = some (.int .i64 uy) ∧ V3.cell? ⟨g3.out.heap.size, 0, none⟩ = some (.int .i64 t1) ∧ V3.cell? ⟨g3.out.heap.size, 1, none⟩ = some (.int .i64 t2) ∧ Below w.heap.size w V3) ⟨by first | with_reducible assumption | (simp [go_sem]; done) | with_reducible exact hold_al d1 _ _ | with_reducible exact hold_al d2 _ _ | with_reducible exact hold_al d3 _ _ | with_reducible exact hold_al d4 _ _ | (simp [go_sem, d1, df1, d2, df2, d3, d4, dz1, dy1, dz3, dy3]; done), by first | with_reducible assumption | (simp [go_sem]; done) | with_reducible exact hold_alF d1 df1 _ _ | with_reducible exact hold_alF d2 df2 _ _ | (simp [go_sem, d1, df1, d2, df2, d3, d4, dz1, dy1, dz3, dy3]; done), by first | with_reducible assumption | (simp [go_sem]; done) | with_reducible exact hold_al d1 _ _ | with_reducible exact hold_al d2 _ _ | with_reducible exact hold_al d3 _ _ | with_reducible exact hold_al d4 _ _ | (simp [go_sem, d1, df1, d2, df2, d3, d4, dz1, dy1, dz3, dy3]; done), by first | with_reducible assumption | (simp [go_sem]; done) | with_reducible exact hold_alF d1 df1 _ _ | with_reducible exact hold_alF d2 df2 _ _ | (simp [go_sem, d1, df1, d2, df2, d3, d4, dz1, dy1, dz3, dy3]; done), by first | with_reducible assumption | (simp [go_sem]; done) | with_reducible exact hold_al d1 _ _ | with_reducible exact hold_al d2 _ _ | with_reducible exact hold_al d3 _ _ | with_reducible exact hold_al d4 _ _ | (simp [go_sem, d1, df1, d2, df2, d3, d4, dz1, dy1, dz3, dy3]; done), by first | with_reducible assumption | (simp [go_sem]; done) | with_reducible exact hold_al d1 _ _ | with_reducible exact hold_al d2 _ _ | with_reducible exact hold_al d3 _ _ | with_reducible exact hold_al d4 _ _ | (simp [go_sem, d1, df1, d2, df2, d3, d4, dz1, dy1, dz3, dy3]; done), by first | with_reducible assumption | (simp [go_sem]; done) | with_reducible exact hold_al d1 _ _ | with_reducible exact hold_al d2 _ _ | with_reducible exact hold_al d3 _ _ | with_reducible exact hold_al d4 _ _ | (simp [go_sem, d1, df1, d2, df2, d3, d4, dz1, dy1, dz3, dy3]; done), by first | with_reducible assumption | (simp [go_sem]; done) | with_reducible exact hold_al d1 _ _ | with_reducible exact hold_al d2 _ _ | with_reducible exact hold_al d3 _ _ | with_reducible exact hold_al d4 _ _ | (simp [go_sem, d1, df1, d2, df2, d3, d4, dz1, dy1, dz3, dy3]; done), by repeat (first | with_reducible exact Below.refl _ _ | with_reducible refine bl_alloc ?_ _ | with_reducible refine bl_drewN ?_ _ | with_reducible refine bl_drew ?_ | (with_reducible refine bl_set ?_ ?_ _; rotate_left; focus (first | (simp; done) | (simp; omega) | omega)) | with_reducible refine below_step ?_ (Bw.below _) | with_reducible refine below_step ?_ (by assumption))⟩ ?_
  rintro V3 ⟨hq1, fq1, hq2, fq2, hq3, hq4, hq5, hq6, hWq⟩ gq
  have q1 := Bw.hold hq1
  have qf1 := Bw.free hq1 fq1
  have q2 := Bw.hold hq2
  have qf2 := Bw.free hq2 fq2
  have q3 := Bw.hold hq3
  have q4 := Bw.hold hq4
  have q5 := Bw.hold hq5
  have q6 := Bw.hold hq6
  have qz1 := fun g : Bw V3 => cell_lt (q1 g)
  have qy1 := fun g : Bw V3 => Nat.le_of_lt (qz1 g)
  have qz3 := fun g : Bw V3 => cell_lt (q3 g)
  have qy3 := fun g : Bw V3 => Nat.le_of_lt (qz3 g)
  have qz5 := fun g : Bw V3 => cell_lt (q5 g)
  have qy5 := fun g : Bw V3 => Nat.le_of_lt (qz5 g)
  clear hq1 fq1 hq2 fq2 hq3 hq4 hq5 hq6
  clear d1 df1 d2 df2 d3 d4 dz1 dy1 dz3 dy3
  refine (CJ.out _).mono ?_
  rintro e_g4 w_g4 ⟨rfl, hb_g4⟩
  obtain ⟨g4, rfl⟩ := gq.next hb_g4
  clear hb_g4
  go_wp2_with fail
  refine calls_start (fun V4 => V4.cell? ⟨w.heap.size, 0, none⟩ = some (.int .i64 0) ∧ V4.frozen? ⟨w.heap.size, 0, none⟩ = false ∧ V4.cell? ⟨w.heap.size, 1, none⟩ = some (.int .i64 0) ∧ V4.frozen? ⟨w.heap.size, 1, none⟩ = false ∧ V4.cell? ⟨g2.out.heap.size, 0, none⟩ = some (.int .i64 ux) ∧ V4.cell? ⟨g2.out.heap.size, 1, none⟩ = some (.int .i64 uy) ∧ V4.cell? ⟨g3.out.heap.size, 0, none⟩ = some (.int .i64 t1) ∧ V4.cell? ⟨g3.out.heap.size, 1, none⟩ = some (.int .i64 t2) ∧ V4.cell? ⟨g4.out.heap.size, 0, none⟩ = some (.int .i64 ca) ∧ V4.cell? ⟨g4.out.heap.size, 1, none⟩ = some (.int .i64 cb) ∧ Below w.heap.size w V4) ⟨by first | with_reducible assumption | (simp [go_sem]; done) | with_reducible exact hold_al q1 _ _ | with_reducible exact hold_al q2 _ _ | with_reducible exact hold_al q3 _ _ | with_reducible exact hold_al q4 _ _ | with_reducible exact hold_al q5 _ _ | with_reducible exact hold_al q6 _ _ | (simp [go_sem, q1, qf1, q2, qf2, q3, q4, q5, q6, qz1, qy1, qz3, qy3, qz5, qy5]; done), by first | with_reducible assumption | (simp [go_sem]; done) | with_reducible exact hold_alF q1 qf1 _ _ | with_reducible exact hold_alF q2 qf2 _ _ | (simp [go_sem, q1, qf1, q2, qf2, q3, q4, q5, q6, qz1, qy1, qz3, qy3, qz5, qy5]; done), by first | with_reducible assumption | (simp [go_sem]; done) | with_reducible exact hold_al q1 _ _ | with_reducible exact hold_al q2 _ _ | with_reducible exact hold_al q3 _ _ | with_reducible exact hold_al q4 _ _ | with_reducible exact hold_al q5 _ _ | with_reducible exact hold_al q6 _ _ | (simp [go_sem, q1, qf1, q2, qf2, q3, q4, q5, q6, qz1, qy1, qz3, qy3, qz5, qy5]; done), by first | with_reducible assumption | (simp [go_sem]; done) | with_reducible exact hold_alF q1 qf1 _ _ | with_reducible exact hold_alF q2 qf2 _ _ | (simp [go_sem, q1, qf1, q2, qf2, q3, q4, q5, q6, qz1, qy1, qz3, qy3, qz5, qy5]; done), by first | with_reducible assumption | (simp [go_sem]; done) | with_reducible exact hold_al q1 _ _ | with_reducible exact hold_al q2 _ _ | with_reducible exact hold_al q3 _ _ | with_reducible exact hold_al q4 _ _ | with_reducible exact hold_al q5 _ _ | with_reducible exact hold_al q6 _ _ | (simp [go_sem, q1, qf1, q2, qf2, q3, q4, q5, q6, qz1, qy1, qz3, qy3, qz5, qy5]; done), by first | with_reducible assumption | (simp [go_sem]; done) | with_reducible exact hold_al q1 _ _ | with_reducible exact hold_al q2 _ _ | with_reducible exact hold_al q3 _ _ | with_reducible exact hold_al q4 _ _ | with_reducible exact hold_al q5 _ _ | with_reducible exact hold_al q6 _ _ | (simp [go_sem, q1, qf1, q2, qf2, q3, q4, q5, q6, qz1, qy1, qz3, qy3, qz5, qy5]; done), by first | with_reducible assumption | (simp [go_sem]; done) | with_reducible exact hold_al q1 _ _ | with_reducible exact hold_al q2 _ _ | with_reducible exact hold_al q3 _ _ | with_reducible exact hold_al q4 _ _ | with_reducible exact hold_al q5 _ _ | with_reducible exact hold_al q6 _ _ | (simp [go_sem, q1, qf1, q2, qf2, q3, q4, q5, q6, qz1, qy1, qz3, qy3, qz5, qy5]; done), by first | with_reducible assumption | (simp [go_sem]; done) | with_reducible exact hold_al q1 _ _ | with_reducible exact hold_al q2 _ _ | with_reducible exact hold_al q3 _ _ | with_reducible exact hold_al q4 _ _ | with_reducible exact hold_al q5 _ _ | with_reducible exact hold_al q6 _ _ | (simp [go_sem, q1, qf1, q2, qf2, q3, q4, q5, q6, qz1, qy1, qz3, qy3, qz5, qy5]; done), by first | with_reducible assumption | (simp [go_sem]; done) | with_reducible exact hold_al q1 _ _ | with_reducible exact hold_al q2 _ _ | with_reducible exact hold_al q3 _ _ | with_reducible exact hold_al q4 _ _ | with_reducible exact hold_al q5 _ _ | with_reducible exact hold_al q6 _ _ | (simp [go_sem, q1, qf1, q2, qf2, q3, q4, q5, q6, qz1, qy1, qz3, qy3, qz5, qy5]; done), by first | with_reducible assumption | (simp [go_sem]; done) | with_reducible exact hold_al q1 _ _ | with_reducible exact hold_al q2 _ _ | with_reducible exact hold_al q3 _ _ | with_reducible exact hold_al q4 _ _ | with_reducible exact hold_al q5 _ _ | with_reducible exact hold_al q6 _ _ | (simp [go_sem, q1, qf1, q2, qf2, q3, q4, q5, q6, qz1, qy1, qz3, qy3, qz5, qy5]; done), by repeat (first | with_reducible exact Below.refl _ _ | with_reducible refine bl_alloc ?_ _ | with_reducible refine bl_drewN ?_ _ | with_reducible refine bl_drew ?_ | (with_reducible refine bl_set ?_ ?_ _; rotate_left; focus (first | (simp; done) | (simp; omega) | omega)) | with_reducible refine below_step ?_ (Bw.below _) | with_reducible refine below_step ?_ (by assumption))⟩ ?_
  rintro V4 ⟨hi1, fi1, hi2, fi2, hi3, hi4, hi5, hi6, hi7, hi8, hWi⟩ gi
  have i1 := Bw.hold hi1
  have if1 := Bw.free hi1 fi1
  have i2 := Bw.hold hi2
  have if2 := Bw.free hi2 fi2
  have i3 := Bw.hold hi3
  have i4 := Bw.hold hi4
  have i5 := Bw.hold hi5
  have i6 := Bw.hold hi6
  have i7 := Bw.hold hi7
  have i8 := Bw.hold hi8
  have iz1 := fun g : Bw V4 => cell_lt (i1 g)
  have iy1 := fun g : Bw V4 => Nat.le_of_lt (iz1 g)
  have iz3 := fun g : Bw V4 => cell_lt (i3 g)
  have iy3 := fun g : Bw V4 => Nat.le_of_lt (iz3 g)
  have iz5 := fun g : Bw V4 => cell_lt (i5 g)
  have iy5 := fun g : Bw V4 => Nat.le_of_lt (iz5 g)
  have iz7 := fun g : Bw V4 => cell_lt (i7 g)
  have iy7 := fun g : Bw V4 => Nat.le_of_lt (iz7 g)
  clear hi1 fi1 hi2 fi2 hi3 hi4 hi5 hi6 hi7 hi8
  clear q1 qf1 q2 qf2 q3 q4 q5 q6 qz1 qy1 qz3 qy3 qz5 qy5
  refine (PW.out _).mono ?_
  rintro e_g5 w_g5 ⟨rfl, hb_g5⟩
  obtain ⟨g5, rfl⟩ := gi.next hb_g5
  clear hb_g5
  go_wp2_with fail
  refine (ML.out _).mono ?_
  rintro e_g6 w_g6 ⟨rfl, hb_g6⟩
  obtain ⟨g6, rfl⟩ := g5.next hb_g6
  clear hb_g6
  go_wp2_with fail
  refine calls_start (fun V5 => V5.cell? ⟨w.heap.size, 0, none⟩ = some (.int .i64 0) ∧ V5.frozen? ⟨w.heap.size, 0, none⟩ = false ∧ V5.cell? ⟨w.heap.size, 1, none⟩ = some (.int .i64 0) ∧ V5.frozen? ⟨w.heap.size, 1, none⟩ = false ∧ V5.cell? ⟨g2.out.heap.size, 0, none⟩ = some (.int .i64 ux) ∧ V5.cell? ⟨g2.out.heap.size, 1, none⟩ = some (.int .i64 uy) ∧ V5.cell? ⟨g3.out.heap.size, 0, none⟩ = some (.int .i64 t1) ∧ V5.cell? ⟨g3.out.heap.size, 1, none⟩ = some (.int .i64 t2) ∧ V5.cell? ⟨g4.out.heap.size, 0, none⟩ = some (.int .i64 ca) ∧ V5.cell? ⟨g4.out.heap.size, 1, none⟩ = some (.int .i64 cb) ∧ V5.cell? ⟨g6.out.heap.size, 0, none⟩ = some (.int .i64 nx) ∧ V5.cell? ⟨g6.out.heap.size, 1, none⟩ = some (.int .i64 ny) ∧ Below w.heap.size w V5) ⟨by first | with_reducible assumption | (simp [go_sem]; done) | with_reducible exact hold_al i1 _ _ | with_reducible exact hold_al i2 _ _ | with_reducible exact hold_al i3 _ _ | with_reducible exact hold_al i4 _ _ | with_reducible exact hold_al i5 _ _ | with_reducible exact hold_al i6 _ _ | with_reducible exact hold_al i7 _ _ | with_reducible exact hold_al i8 _ _ | (simp [go_sem, i1, if1, i2, if2, i3, i4, i5, i6, i7, i8, iz1, iy1, iz3, iy3, iz5, iy5, iz7, iy7]; done), by first | with_reducible assumption | (simp [go_sem]; done) | with_reducible exact hold_alF i1 if1 _ _ | with_reducible exact hold_alF i2 if2 _ _ | (simp [go_sem, i1, if1, i2, if2, i3, i4, i5, i6, i7, i8, iz1, iy1, iz3, iy3, iz5, iy5, iz7, iy7]; done), by first | with_reducible assumption | (simp [go_sem]; done) | with_reducible exact hold_al i1 _ _ | with_reducible exact hold_al i2 _ _ | with_reducible exact hold_al i3 _ _ | with_reducible exact hold_al i4 _ _ | with_reducible exact hold_al i5 _ _ | with_reducible exact hold_al i6 _ _ | with_reducible exact hold_al i7 _ _ | with_reducible exact hold_al i8 _ _ | (simp [go_sem, i1, if1, i2, if2, i3, i4, i5, i6, i7, i8, iz1, iy1, iz3, iy3, iz5, iy5, iz7, iy7]; done), by first | with_reducible assumption | (simp [go_sem]; done) | with_reducible exact hold_alF i1 if1 _ _ | with_reducible exact hold_alF i2 if2 _ _ | (simp [go_sem, i1, if1, i2, if2, i3, i4, i5, i6, i7, i8, iz1, iy1, iz3, iy3, iz5, iy5, iz7, iy7]; done), by first | with_reducible assumption | (simp [go_sem]; done) | with_reducible exact hold_al i1 _ _ | with_reducible exact hold_al i2 _ _ | with_reducible exact hold_al i3 _ _ | with_reducible exact hold_al i4 _ _ | with_reducible exact hold_al i5 _ _ | with_reducible exact hold_al i6 _ _ | with_reducible exact hold_al i7 _ _ | with_reducible exact hold_al i8 _ _ | (simp [go_sem, i1, if1, i2, if2, i3, i4, i5, i6, i7, i8, iz1, iy1, iz3, iy3, iz5, iy5, iz7, iy7]; done), by first | with_reducible assumption | (simp [go_sem]; done) | with_reducible exact hold_al i1 _ _ | with_reducible exact hold_al i2 _ _ | with_reducible exact hold_al i3 _ _ | with_reducible exact hold_al i4 _ _ | with_reducible exact hold_al i5 _ _ | with_reducible exact hold_al i6 _ _ | with_reducible exact hold_al i7 _ _ | with_reducible exact hold_al i8 _ _ | (simp [go_sem, i1, if1, i2, if2, i3, i4, i5, i6, i7, i8, iz1, iy1, iz3, iy3, iz5, iy5, iz7, iy7]; done), by first | with_reducible assumption | (simp [go_sem]; done) | with_reducible exact hold_al i1 _ _ | with_reducible exact hold_al i2 _ _ | with_reducible exact hold_al i3 _ _ | with_reducible exact hold_al i4 _ _ | with_reducible exact hold_al i5 _ _ | with_reducible exact hold_al i6 _ _ | with_reducible exact hold_al i7 _ _ | with_reducible exact hold_al i8 _ _ | (simp [go_sem, i1, if1, i2, if2, i3, i4, i5, i6, i7, i8, iz1, iy1, iz3, iy3, iz5, iy5, iz7, iy7]; done), by first | with_reducible assumption | (simp [go_sem]; done) | with_reducible exact hold_al i1 _ _ | with_reducible exact hold_al i2 _ _ | with_reducible exact hold_al i3 _ _ | with_reducible exact hold_al i4 _ _ | with_reducible exact hold_al i5 _ _ | with_reducible exact hold_al i6 _ _ | with_reducible exact hold_al i7 _ _ | with_reducible exact hold_al i8 _ _ | (simp [go_sem, i1, if1, i2, if2, i3, i4, i5, i6, i7, i8, iz1, iy1, iz3, iy3, iz5, iy5, iz7, iy7]; done), by first | with_reducible assumption | (simp [go_sem]; done) | with_reducible exact hold_al i1 _ _ | with_reducible exact hold_al i2 _ _ | with_reducible exact hold_al i3 _ _ | with_reducible exact hold_al i4 _ _ | with_reducible exact hold_al i5 _ _ | with_reducible exact hold_al i6 _ _ | with_reducible exact hold_al i7 _ _ | with_reducible exact hold_al i8 _ _ | (simp [go_sem, i1, if1, i2, if2, i3, i4, i5, i6, i7, i8, iz1, iy1, iz3, iy3, iz5, iy5, iz7, iy7]; done), by first | with_reducible assumption | (simp [go_sem]; done) | with_reducible exact hold_al i1 _ _ | with_reducible exact hold_al i2 _ _ | with_reducible exact hold_al i3 _ _ | with_reducible exact hold_al i4 _ _ | with_reducible exact hold_al i5 _ _ | with_reducible exact hold_al i6 _ _ | with_reducible exact hold_al i7 _ _ | with_reducible exact hold_al i8 _ _ | (simp [go_sem, i1, if1, i2, if2, i3, i4, i5, i6, i7, i8, iz1, iy1, iz3, iy3, iz5, iy5, iz7, iy7]; done), by first | with_reducible assumption | (simp [go_sem]; done) | with_reducible exact hold_al i1 _ _ | with_reducible exact hold_al i2 _ _ | with_reducible exact hold_al i3 _ _ | with_reducible exact hold_al i4 _ _ | with_reducible exact hold_al i5 _ _ | with_reducible exact hold_al i6 _ _ | with_reducible exact hold_al i7 _ _ | with_reducible exact hold_al i8 _ _ | (simp [go_sem, i1, if1, i2, if2, i3, i4, i5, i6, i7, i8, iz1, iy1, iz3, iy3, iz5, iy5, iz7, iy7]; done), by first | with_reducible assumption | (simp [go_sem]; done) | with_reducible exact hold_al i1 _ _ | with_reducible exact hold_al i2 _ _ | with_reducible exact hold_al i3 _ _ | with_reducible exact hold_al i4 _ _ | with_reducible exact hold_al i5 _ _ | with_reducible exact hold_al i6 _ _ | with_reducible exact hold_al i7 _ _ | with_reducible exact hold_al i8 _ _ | (simp [go_sem, i1, if1, i2, if2, i3, i4, i5, i6, i7, i8, iz1, iy1, iz3, iy3, iz5, iy5, iz7, iy7]; done), by repeat (first | with_reducible exact Below.refl _ _ | with_reducible refine bl_alloc ?_ _ | with_reducible refine bl_drewN ?_ _ | with_reducible refine bl_drew ?_ | (with_reducible refine bl_set ?_ ?_ _; rotate_left; focus (first | (simp; done) | (simp; omega) | omega)) | with_reducible refine below_step ?_ (Bw.below _) | with_reducible refine below_step ?_ (by assumption))⟩ ?_
  rintro V5 ⟨hl1, fl1, hl2, fl2, hl3, hl4, hl5, hl6, hl7, hl8, hl9, hl10, hWl⟩ gl
  have l1 := Bw.hold hl1
  have lf1 := Bw.free hl1 fl1
  have l2 := Bw.hold hl2
  have lf2 := Bw.free hl2 fl2
  have l3 := Bw.hold hl3
  have l4 := Bw.hold hl4
  have l5 := Bw.hold hl5
  have l6 := Bw.hold hl6
  have l7 := Bw.hold hl7
  have l8 := Bw.hold hl8
  have l9 := Bw.hold hl9
  have l10 := Bw.hold hl10
  have lz1 := fun g : Bw V5 => cell_lt (l1 g)
  have ly1 := fun g : Bw V5 => Nat.le_of_lt (lz1 g)
  have lz3 := fun g : Bw V5 => cell_lt (l3 g)
  have ly3 := fun g : Bw V5 => Nat.le_of_lt (lz3 g)
  have lz5 := fun g : Bw V5 => cell_lt (l5 g)
  have ly5 := fun g : Bw V5 => Nat.le_of_lt (lz5 g)
  have lz7 := fun g : Bw V5 => cell_lt (l7 g)
  have ly7 := fun g : Bw V5 => Nat.le_of_lt (lz7 g)
  have lz9 := fun g : Bw V5 => cell_lt (l9 g)
  have ly9 := fun g : Bw V5 => Nat.le_of_lt (lz9 g)
  clear hl1 fl1 hl2 fl2 hl3 hl4 hl5 hl6 hl7 hl8 hl9 hl10
  clear i1 if1 i2 if2 i3 i4 i5 i6 i7 i8 iz1 iy1 iz3 iy3 iz5 iy5 iz7 iy7
  refine (RD.out _).mono ?_
  rintro e_g7 w_g7 ⟨rfl, hb_g7⟩
  obtain ⟨g7, rfl⟩ := gl.next hb_g7
  clear hb_g7
  go_wp2_with fail
  refine bodyPost_ret (v := .tuple #[.agg #[.int .i64 za, .int .i64 zb], .bool true]) (by simp [results, Try.results32, go_sem, l1, l2]) rfl ⟨rfl, by repeat (first | with_reducible exact Below.refl _ _ | with_reducible refine bl_alloc ?_ _ | with_reducible refine bl_drewN ?_ _ | with_reducible refine bl_drew ?_ | (with_reducible refine bl_set ?_ ?_ _; rotate_left; focus (first | (simp; done) | (simp; omega) | omega)) | with_reducible refine below_step ?_ (Bw.below _) | with_reducible refine below_step ?_ (by assumption))⟩
set_option maxHeartbeats 1000000 in
theorem plane_near_no (x y r : Int) (h : wdB x y = false ∨ rsB r = false) (w : World) :
    Calls Try.prog 32 #[.int .i64 x, .int .i64 y, .int .i64 r] w fun e w' => e = .returned (.tuple #[.agg #[.int .i64 0, .int .i64 0], .bool false]) ∧ Below w.heap.size w w' := by
  rcases hd : wdB x y with _ | _
  · have AX := Lib.hid (plane_axial_no x y hd)
    clear h hd
    go_enter Try.func32, Try.ntmps32
    go_wp2_with fail
    refine calls_start (fun V => V.cell? ⟨w.heap.size, 0, none⟩ = some (.int .i64 0) ∧ V.frozen? ⟨w.heap.size, 0, none⟩ = false ∧ V.cell? ⟨w.heap.size, 1, none⟩ = some (.int .i64 0) ∧ V.frozen? ⟨w.heap.size, 1, none⟩ = false ∧ Below w.heap.size w V) ⟨by first | with_reducible assumption | (simp [go_sem]; done), by first | with_reducible assumption | (simp [go_sem]; done), by first | with_reducible assumption | (simp [go_sem]; done), by first | with_reducible assumption | (simp [go_sem]; done), by repeat (first | with_reducible exact Below.refl _ _ | with_reducible refine bl_alloc ?_ _ | with_reducible refine bl_drewN ?_ _ | with_reducible refine bl_drew ?_ | (with_reducible refine bl_set ?_ ?_ _; rotate_left; focus (first | (simp; done) | (simp; omega) | omega)) | with_reducible refine below_step ?_ (Bw.below _) | with_reducible refine below_step ?_ (by assumption))⟩ ?_
    rintro V ⟨hc1, fc1, hc2, fc2, hWc⟩ gc
    have c1 := Bw.hold hc1
    have cf1 := Bw.free hc1 fc1
    have c2 := Bw.hold hc2
    have cf2 := Bw.free hc2 fc2
    have cz1 := fun g : Bw V => cell_lt (c1 g)
    have cy1 := fun g : Bw V => Nat.le_of_lt (cz1 g)
    clear hc1 fc1 hc2 fc2
    refine (AX.out _).mono ?_
    rintro e_g2 w_g2 ⟨rfl, hb_g2⟩
    obtain ⟨g2, rfl⟩ := gc.next hb_g2
    clear hb_g2
    go_wp2_with fail
    refine bodyPost_ret (v := .tuple #[.agg #[.int .i64 0, .int .i64 0], .bool false]) (by simp [results, Try.results32, go_sem, c1, c2, cz1]) rfl ⟨rfl, by repeat (first | with_reducible exact Below.refl _ _ | with_reducible refine bl_alloc ?_ _ | with_reducible refine bl_drewN ?_ _ | with_reducible refine bl_drew ?_ | (with_reducible refine bl_set ?_ ?_ _; rotate_left; focus (first | (simp; done) | (simp; omega) | omega)) | with_reducible refine below_step ?_ (Bw.below _) | with_reducible refine below_step ?_ (by assumption))⟩
  · have hr : rsB r = false := by
      rcases h with h | h
      · rw [hd] at h; cases h
      · exact h
    have AX := Lib.hid (plane_axial_yes x y hd)
    have IR := plane_isres r
    rw [hr] at IR
    have HI := Lib.hid IR
    clear h hd hr IR
    generalize 45 * x - 26 * y = ux at *
    generalize 52 * y = uy at *
    go_enter Try.func32, Try.ntmps32
    go_wp2_with fail
    refine calls_start (fun V => V.cell? ⟨w.heap.size, 0, none⟩ = some (.int .i64 0) ∧ V.frozen? ⟨w.heap.size, 0, none⟩ = false ∧ V.cell? ⟨w.heap.size, 1, none⟩ = some (.int .i64 0) ∧ V.frozen? ⟨w.heap.size, 1, none⟩ = false ∧ Below w.heap.size w V) ⟨by first | with_reducible assumption | (simp [go_sem]; done), by first | with_reducible assumption | (simp [go_sem]; done), by first | with_reducible assumption | (simp [go_sem]; done), by first | with_reducible assumption | (simp [go_sem]; done), by repeat (first | with_reducible exact Below.refl _ _ | with_reducible refine bl_alloc ?_ _ | with_reducible refine bl_drewN ?_ _ | with_reducible refine bl_drew ?_ | (with_reducible refine bl_set ?_ ?_ _; rotate_left; focus (first | (simp; done) | (simp; omega) | omega)) | with_reducible refine below_step ?_ (Bw.below _) | with_reducible refine below_step ?_ (by assumption))⟩ ?_
    rintro V ⟨hc1, fc1, hc2, fc2, hWc⟩ gc
    have c1 := Bw.hold hc1
    have cf1 := Bw.free hc1 fc1
    have c2 := Bw.hold hc2
    have cf2 := Bw.free hc2 fc2
    have cz1 := fun g : Bw V => cell_lt (c1 g)
    have cy1 := fun g : Bw V => Nat.le_of_lt (cz1 g)
    clear hc1 fc1 hc2 fc2
    refine (AX.out _).mono ?_
    rintro e_g2 w_g2 ⟨rfl, hb_g2⟩
    obtain ⟨g2, rfl⟩ := gc.next hb_g2
    clear hb_g2
    go_wp2_with fail
    refine calls_start (fun V2 => V2.cell? ⟨w.heap.size, 0, none⟩ = some (.int .i64 0) ∧ V2.frozen? ⟨w.heap.size, 0, none⟩ = false ∧ V2.cell? ⟨w.heap.size, 1, none⟩ = some (.int .i64 0) ∧ V2.frozen? ⟨w.heap.size, 1, none⟩ = false ∧ Below w.heap.size w V2) ⟨by first | with_reducible assumption | (simp [go_sem]; done) | with_reducible exact hold_al c1 _ _ | with_reducible exact hold_al c2 _ _ | (simp [go_sem, c1, cf1, c2, cf2, cz1, cy1]; done), by first | with_reducible assumption | (simp [go_sem]; done) | with_reducible exact hold_alF c1 cf1 _ _ | with_reducible exact hold_alF c2 cf2 _ _ | (simp [go_sem, c1, cf1, c2, cf2, cz1, cy1]; done), by first | with_reducible assumption | (simp [go_sem]; done) | with_reducible exact hold_al c1 _ _ | with_reducible exact hold_al c2 _ _ | (simp [go_sem, c1, cf1, c2, cf2, cz1, cy1]; done), by first | with_reducible assumption | (simp [go_sem]; done) | with_reducible exact hold_alF c1 cf1 _ _ | with_reducible exact hold_alF c2 cf2 _ _ | (simp [go_sem, c1, cf1, c2, cf2, cz1, cy1]; done), by repeat (first | with_reducible exact Below.refl _ _ | with_reducible refine bl_alloc ?_ _ | with_reducible refine bl_drewN ?_ _ | with_reducible refine bl_drew ?_ | (with_reducible refine bl_set ?_ ?_ _; rotate_left; focus (first | (simp; done) | (simp; omega) | omega)) | with_reducible refine below_step ?_ (Bw.below _) | with_reducible refine below_step ?_ (by assumption))⟩ ?_
    rintro V2 ⟨hd1, fd1, hd2, fd2, hWd⟩ gd
    have d1 := Bw.hold hd1
    have df1 := Bw.free hd1 fd1
    have d2 := Bw.hold hd2
    have df2 := Bw.free hd2 fd2
    have dz1 := fun g : Bw V2 => cell_lt (d1 g)
    have dy1 := fun g : Bw V2 => Nat.le_of_lt (dz1 g)
    clear hd1 fd1 hd2 fd2
    clear c1 cf1 c2 cf2 cz1 cy1
    refine (HI.out _).mono ?_
    rintro e w1 ⟨rfl, rfl⟩
    go_wp2_with fail
    refine bodyPost_ret (v := .tuple #[.agg #[.int .i64 0, .int .i64 0], .bool false]) (by simp [results, Try.results32, go_sem, d1, d2]) rfl ⟨rfl, by repeat (first | with_reducible exact Below.refl _ _ | with_reducible refine bl_alloc ?_ _ | with_reducible refine bl_drewN ?_ _ | with_reducible refine bl_drew ?_ | (with_reducible refine bl_set ?_ ?_ _; rotate_left; focus (first | (simp; done) | (simp; omega) | omega)) | with_reducible refine below_step ?_ (Bw.below _) | with_reducible refine below_step ?_ (by assumption))⟩
set_option maxHeartbeats 1000000 in
theorem ref_conj (K : Nat) (hK : K < 13) (w : World) : Calls Try.prog 45 #[.int .i64 (K : Int)] w fun e w' => e = .returned (.agg #[.int .i64 (cjA K), .int .i64 (cjB K)]) ∧ Below w.heap.size w w' := by
  obtain ⟨b1, b2, b3, b4⟩ := bt_small K hK
  have BT := Lib.hid (ref_beta K (by omega))
  have e1 : Hid ((bt K).1 + (bt K).2 = cjA K) := Lib.hid rfl
  have e2 : Hid (-(bt K).2 = cjB K) := Lib.hid rfl
  generalize (bt K).1 = t1 at *
  generalize (bt K).2 = t2 at *
  go_enter Try.func45, Try.ntmps45
  go_wp2_with fail
  refine calls_start (fun V => V.cell? ⟨w.heap.size, 0, none⟩ = some (.int .i64 0) ∧ V.frozen? ⟨w.heap.size, 0, none⟩ = false ∧ V.cell? ⟨w.heap.size, 1, none⟩ = some (.int .i64 0) ∧ V.frozen? ⟨w.heap.size, 1, none⟩ = false ∧ Below w.heap.size w V) ⟨by first | with_reducible assumption | (simp [go_sem]; done), by first | with_reducible assumption | (simp [go_sem]; done), by first | with_reducible assumption | (simp [go_sem]; done), by first | with_reducible assumption | (simp [go_sem]; done), by repeat (first | with_reducible exact Below.refl _ _ | with_reducible refine bl_alloc ?_ _ | with_reducible refine bl_drewN ?_ _ | with_reducible refine bl_drew ?_ | (with_reducible refine bl_set ?_ ?_ _; rotate_left; focus (first | (simp; done) | (simp; omega) | omega)) | with_reducible refine below_step ?_ (Bw.below _) | with_reducible refine below_step ?_ (by assumption))⟩ ?_
  rintro V ⟨hc1, fc1, hc2, fc2, hWc⟩ gc
  have c1 := Bw.hold hc1
  have cf1 := Bw.free hc1 fc1
  have c2 := Bw.hold hc2
  have cf2 := Bw.free hc2 fc2
  have cz1 := fun g : Bw V => cell_lt (c1 g)
  have cy1 := fun g : Bw V => Nat.le_of_lt (cz1 g)
  clear hc1 fc1 hc2 fc2
  refine (BT.out _).mono ?_
  rintro e_g2 w_g2 ⟨rfl, hb_g2⟩
  obtain ⟨g2, rfl⟩ := gc.next hb_g2
  clear hb_g2
  go_wp2_with fail
  refine bodyPost_ret (v := .agg #[.int .i64 (t1 + t2), .int .i64 (-t2)]) (by simp [results, Try.results45, go_sem, c1, c2, cz1]) rfl ⟨by rw [e1.out, e2.out], by repeat (first | with_reducible exact Below.refl _ _ | with_reducible refine bl_alloc ?_ _ | with_reducible refine bl_drewN ?_ _ | with_reducible refine bl_drew ?_ | (with_reducible refine bl_set ?_ ?_ _; rotate_left; focus (first | (simp; done) | (simp; omega) | omega)) | with_reducible refine below_step ?_ (Bw.below _) | with_reducible refine below_step ?_ (by assumption))⟩
set_option maxRecDepth 100000 in
set_option maxHeartbeats 1000000 in
theorem ref_near (x y r : Int) (K : Nat) (hK : K < 13) (hk : 12 - r = (K : Int)) (h : wdB x y = true) (w : World) :
    Calls Try.prog 29 #[.int .i64 x, .int .i64 y, .int .i64 r] w fun e w' => e = .returned (.tuple #[.agg #[.int .i64 (nearA x y K), .int .i64 (nearB x y K)], .bool true]) ∧ Below w.heap.size w w' := by
  obtain ⟨x1, x2, y1, y2⟩ := wdB_true h
  have r1 : 0 ≤ r := by omega
  have r2 : r ≤ 12 := by omega
  have t1 : decide (r < 0) = false := decide_eq_false (by omega)
  have t2 : decide (12 < r) = false := decide_eq_false (by omega)
  obtain ⟨n1, n2, n3, n4⟩ := nr_bd x y K hK x1 x2 y1 y2
  obtain ⟨j1, j2, j3, j4⟩ := cj_bd K hK
  obtain ⟨p1, p2⟩ := p7_small K hK
  have WD := ref_world x y
  rw [h] at WD
  have HW := Lib.hid WD
  have CJ := Lib.hid (ref_conj K hK)
  have SV := Lib.hid (ref_seven K (by omega))
  have ML := Lib.hid (ref_mul_fit (45 * x - 26 * y) (52 * y) (cjA K) (cjB K) (nrX x y K) (nrY x y K) (by omega) (by omega) (by omega) (by omega) (by omega) (by omega) (by omega) (by omega) (by omega) (by omega) (by omega) (by omega) rfl rfl)
  have RR := ref_round (nrX x y K) (nrY x y K) (2340 * p7 K) n1 n2 n3 n4 (by omega) (by omega)
  rw [show rdA (nrX x y K) (nrY x y K) (2340 * p7 K) = nearA x y K from rfl, show rdB (nrX x y K) (nrY x y K) (2340 * p7 K) = nearB x y K from rfl] at RR
  have RD := Lib.hid RR
  have dd : (2340 : Int) * p7 K ≤ 1125899906842624 := by omega
  clear WD RR h j1 j2 j3 j4 n1 n2 n3 n4
  generalize cjA K = ca at *
  generalize cjB K = cb at *
  generalize p7 K = p at *
  generalize nrX x y K = nx at *
  generalize nrY x y K = ny at *
  generalize nearA x y K = za at *
  generalize nearB x y K = zb at *
  go_enter Try.func29, Try.ntmps29
  go_wp2_with fail
  refine calls_start (fun V => V.cell? ⟨w.heap.size, 0, none⟩ = some (.int .i64 0) ∧ V.frozen? ⟨w.heap.size, 0, none⟩ = false ∧ V.cell? ⟨w.heap.size, 1, none⟩ = some (.int .i64 0) ∧ V.frozen? ⟨w.heap.size, 1, none⟩ = false ∧ Below w.heap.size w V) ⟨by first | with_reducible assumption | (simp [go_sem]; done), by first | with_reducible assumption | (simp [go_sem]; done), by first | with_reducible assumption | (simp [go_sem]; done), by first | with_reducible assumption | (simp [go_sem]; done), by repeat (first | with_reducible exact Below.refl _ _ | with_reducible refine bl_alloc ?_ _ | with_reducible refine bl_drewN ?_ _ | with_reducible refine bl_drew ?_ | (with_reducible refine bl_set ?_ ?_ _; rotate_left; focus (first | (simp; done) | (simp; omega) | omega)) | with_reducible refine below_step ?_ (Bw.below _) | with_reducible refine below_step ?_ (by assumption))⟩ ?_
  rintro V ⟨hc1, fc1, hc2, fc2, hWc⟩ gc
  have c1 := Bw.hold hc1
  have cf1 := Bw.free hc1 fc1
  have c2 := Bw.hold hc2
  have cf2 := Bw.free hc2 fc2
  have cz1 := fun g : Bw V => cell_lt (c1 g)
  have cy1 := fun g : Bw V => Nat.le_of_lt (cz1 g)
  clear hc1 fc1 hc2 fc2
  refine (HW.out _).mono ?_
  rintro e w1 ⟨rfl, rfl⟩
  go_wp2_with fail
  refine (CJ.out _).mono ?_
  rintro e_g2 w_g2 ⟨rfl, hb_g2⟩
  obtain ⟨g2, rfl⟩ := gc.next hb_g2
  clear hb_g2
  go_wp2_with fail
  refine (ML.out _).mono ?_
  rintro e_g3 w_g3 ⟨rfl, hb_g3⟩
  obtain ⟨g3, rfl⟩ := g2.next hb_g3
  clear hb_g3
  go_wp2_with fail
  refine wp_start (fun V2 => V2.cell? ⟨w.heap.size, 0, none⟩ = some (.int .i64 0) ∧ V2.frozen? ⟨w.heap.size, 0, none⟩ = false ∧ V2.cell? ⟨w.heap.size, 1, none⟩ = some (.int .i64 0) ∧ V2.frozen? ⟨w.heap.size, 1, none⟩ = false ∧ V2.cell? ⟨g3.out.heap.size, 0, none⟩ = some (.int .i64 nx) ∧ V2.cell? ⟨g3.out.heap.size, 1, none⟩ = some (.int .i64 ny) ∧ Below w.heap.size w V2) ⟨by first | with_reducible assumption | (simp [go_sem]; done) | with_reducible exact hold_al c1 _ _ | with_reducible exact hold_al c2 _ _ | (simp [go_sem, c1, cf1, c2, cf2, cz1, cy1]; done), by first | with_reducible assumption | (simp [go_sem]; done) | with_reducible exact hold_alF c1 cf1 _ _ | with_reducible exact hold_alF c2 cf2 _ _ | (simp [go_sem, c1, cf1, c2, cf2, cz1, cy1]; done), by first | with_reducible assumption | (simp [go_sem]; done) | with_reducible exact hold_al c1 _ _ | with_reducible exact hold_al c2 _ _ | (simp [go_sem, c1, cf1, c2, cf2, cz1, cy1]; done), by first | with_reducible assumption | (simp [go_sem]; done) | with_reducible exact hold_alF c1 cf1 _ _ | with_reducible exact hold_alF c2 cf2 _ _ | (simp [go_sem, c1, cf1, c2, cf2, cz1, cy1]; done), by first | with_reducible assumption | (simp [go_sem]; done) | with_reducible exact hold_al c1 _ _ | with_reducible exact hold_al c2 _ _ | (simp [go_sem, c1, cf1, c2, cf2, cz1, cy1]; done), by first | with_reducible assumption | (simp [go_sem]; done) | with_reducible exact hold_al c1 _ _ | with_reducible exact hold_al c2 _ _ | (simp [go_sem, c1, cf1, c2, cf2, cz1, cy1]; done), by repeat (first | with_reducible exact Below.refl _ _ | with_reducible refine bl_alloc ?_ _ | with_reducible refine bl_drewN ?_ _ | with_reducible refine bl_drew ?_ | (with_reducible refine bl_set ?_ ?_ _; rotate_left; focus (first | (simp; done) | (simp; omega) | omega)) | with_reducible refine below_step ?_ (Bw.below _) | with_reducible refine below_step ?_ (by assumption))⟩ ?_
  rintro V2 ⟨hd1, fd1, hd2, fd2, hd3, hd4, hWd⟩ gd
  have d1 := Bw.hold hd1
  have df1 := Bw.free hd1 fd1
  have d2 := Bw.hold hd2
  have df2 := Bw.free hd2 fd2
  have d3 := Bw.hold hd3
  have d4 := Bw.hold hd4
  have dz1 := fun g : Bw V2 => cell_lt (d1 g)
  have dy1 := fun g : Bw V2 => Nat.le_of_lt (dz1 g)
  have dz3 := fun g : Bw V2 => cell_lt (d3 g)
  have dy3 := fun g : Bw V2 => Nat.le_of_lt (dz3 g)
  clear hd1 fd1 hd2 fd2 hd3 hd4
  clear c1 cf1 c2 cf2 cz1 cy1
  refine wp_region_bw_tail 8 (by kernel_rfl) (by kernel_rfl) gd ?_
  simp only [List.take_succ_cons, List.take_zero, List.drop_succ_cons, List.drop_zero]
  repeat (go_big_quiet_step ((first
    | (go_at_call 47; with_reducible exact bw_call (SV.out _))
    | (go_at_call 46; with_reducible exact bw_call (RD.out _)))))
  refine wpQuiet_nil ?_
  rintro _ ⟨g4, rfl⟩
  go_wp2_with fail
  refine bodyPost_ret (v := .tuple #[.agg #[.int .i64 za, .int .i64 zb], .bool true]) (by simp [results, Try.results29, go_sem, d1, d2]) rfl ⟨rfl, by repeat (first | with_reducible exact Below.refl _ _ | with_reducible refine bl_alloc ?_ _ | with_reducible refine bl_drewN ?_ _ | with_reducible refine bl_drew ?_ | (with_reducible refine bl_set ?_ ?_ _; rotate_left; focus (first | (simp; done) | (simp; omega) | omega)) | with_reducible refine below_step ?_ (Bw.below _) | with_reducible refine below_step ?_ (by assumption))⟩
end Go.Proofs.Ytajojnbpmbkghaa

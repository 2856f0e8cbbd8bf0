
/- The walks of the reference's parent, Ok, Parent, Digit. -/
import Derived.Test.YtmipkloleklnkaaClimb
namespace Go.Proofs.Ytmipkloleklnkaa
open Go.RowKit
set_option linter.unusedSimpArgs false
set_option linter.unusedVariables false
theorem runit_is (n : Nat) (hn : n < 6) (x y : Int) (hx : uA n = x) (hy : uB n = y) (w : World) :
    Calls Try.prog 37 #[.int .i64 (n : Int)] w fun e w' => e = .returned (.agg #[.int .i64 x, .int .i64 y]) ∧ Below w.heap.size w w' := by
  have h := ref_unit (n : Int) w
  rw [show (n : Int) % 6 = n by omega, hx, hy] at h
  exact h
theorem ret_ei {a b a' b' c c' : Int} (h1 : a = a') (h2 : b = b') (h3 : c = c') : Ending.returned (.tuple #[.agg #[.int .i64 a, .int .i64 b], .int .i64 c]) = .returned (.tuple #[.agg #[.int .i64 a', .int .i64 b'], .int .i64 c']) := by rw [h1, h2, h3]
set_option maxRecDepth 100000 in
set_option maxHeartbeats 2000000 in
theorem ref_parent (a b : Int) (h1 : -1073741824 ≤ a) (h2 : a ≤ 1073741824) (h3 : -1073741824 ≤ b) (h4 : b ≤ 1073741824) (w : World) :
    Calls Try.prog 43 #[.agg #[.int .i64 a, .int .i64 b]] w fun e w' => e = .returned (.tuple #[.agg #[.int .i64 (upA a b), .int .i64 (upB a b)], .int .i64 (dgz a b)]) ∧ Below w.heap.size w w' := by
  obtain ⟨u1, u2, u3, u4⟩ := up_bd a b 1073741824 (by omega) h1 h2 h3 h4
  have M1 := Lib.hid (ref_mul_fit a b 3 (-1) (3 * a + b) (2 * b - a) (by omega) (by omega) (by omega) (by omega) (by decide) (by decide) (by decide) (by decide) (by omega) (by omega) (by omega) (by omega) (by omega) (by omega))
  have RD := ref_round (3 * a + b) (2 * b - a) 7 (by omega) (by omega) (by omega) (by omega) (by decide) (by decide)
  rw [show rdA (3 * a + b) (2 * b - a) 7 = upA a b from rfl, show rdB (3 * a + b) (2 * b - a) 7 = upB a b from rfl] at RD
  have RD := Lib.hid RD
  have M2 := Lib.hid (ref_mul_fit (upA a b) (upB a b) 2 1 (2 * upA a b - upB a b) (upA a b + 3 * upB a b) (by omega) (by omega) (by omega) (by omega) (by decide) (by decide) (by decide) (by decide) (by omega) (by omega) (by omega) (by omega) (by omega) (by omega))
  have HLA : Hid (a - (2 * upA a b - upB a b) = lfA a b) := Lib.hid rfl
  have HLB : Hid (b - (upA a b + 3 * upB a b) = lfB a b) := Lib.hid rfl
  have HDG : Hid (dgz a b = dgt (lfA a b) (lfB a b)) := Lib.hid rfl
  have w1 : -9000000000 ≤ 2 * upA a b - upB a b := by omega
  have w2 : 2 * upA a b - upB a b ≤ 9000000000 := by omega
  have w3 : -9000000000 ≤ upA a b + 3 * upB a b := by omega
  have w4 : upA a b + 3 * upB a b ≤ 9000000000 := by omega
  generalize dgz a b = dg at *
  generalize lfA a b = la at *
  generalize lfB a b = lb at *
  generalize 3 * a + b = p at *
  generalize 2 * b - a = s at *
  generalize upA a b = ua at *
  generalize upB a b = ub at *
  generalize 2 * ua - ub = da at *
  generalize ua + 3 * ub = db at *
  go_enter Try.func43, Try.ntmps43
  go_wp2_with fail
  refine calls_start (fun V => V.cell? ⟨w.heap.size, 0, none⟩ = some (.int .i64 a) ∧ V.cell? ⟨w.heap.size, 1, none⟩ = some (.int .i64 b) ∧ V.cell? ⟨w.heap.size + 1, 0, none⟩ = some (.int .i64 0) ∧ V.frozen? ⟨w.heap.size + 1, 0, none⟩ = false ∧ V.cell? ⟨w.heap.size + 1, 1, none⟩ = some (.int .i64 0) ∧ V.frozen? ⟨w.heap.size + 1, 1, none⟩ = false ∧ Below w.heap.size w V) ⟨by first | with_reducible assumption | (simp [go_sem]; done), by first | with_reducible assumption | (simp [go_sem]; done), by first | with_reducible assumption | (simp [go_sem]; done), by first | with_reducible assumption | (simp [go_sem]; done), by first | with_reducible assumption | (simp [go_sem]; done), by first | with_reducible assumption | (simp [go_sem]; done), by repeat (first | with_reducible exact Below.refl _ _ | with_reducible refine bl_alloc ?_ _ | with_reducible refine bl_drewN ?_ _ | with_reducible refine bl_drew ?_ | (with_reducible refine bl_set ?_ ?_ _; rotate_left; focus (first | (simp; done) | (simp; omega) | omega)) | with_reducible refine below_step ?_ (Bw.below _) | with_reducible refine below_step ?_ (by assumption))⟩ ?_
  rintro V ⟨hc1, hc2, hc3, fc3, hc4, fc4, hWc⟩ gc
  have c1 := Bw.hold hc1
  have c2 := Bw.hold hc2
  have c3 := Bw.hold hc3
  have cf3 := Bw.free hc3 fc3
  have c4 := Bw.hold hc4
  have cf4 := Bw.free hc4 fc4
  have cz1 := fun g : Bw V => cell_lt (c1 g)
  have cy1 := fun g : Bw V => Nat.le_of_lt (cz1 g)
  have cz3 := fun g : Bw V => cell_lt (c3 g)
  have cy3 := fun g : Bw V => Nat.le_of_lt (cz3 g)
  clear hc1 hc2 hc3 fc3 hc4 fc4
  refine (M1.out _).mono ?_
  rintro e_g2 w_g2 ⟨rfl, hb_g2⟩
  obtain ⟨g2, rfl⟩ := gc.next hb_g2
  clear hb_g2
  go_wp2_with fail
  refine calls_start (fun V2 => V2.cell? ⟨w.heap.size, 0, none⟩ = some (.int .i64 a) ∧ V2.cell? ⟨w.heap.size, 1, none⟩ = some (.int .i64 b) ∧ V2.cell? ⟨w.heap.size + 1, 0, none⟩ = some (.int .i64 0) ∧ V2.frozen? ⟨w.heap.size + 1, 0, none⟩ = false ∧ V2.cell? ⟨w.heap.size + 1, 1, none⟩ = some (.int .i64 0) ∧ V2.frozen? ⟨w.heap.size + 1, 1, none⟩ = false ∧ V2.cell? ⟨g2.out.heap.size, 0, none⟩ = some (.int .i64 p) ∧ V2.cell? ⟨g2.out.heap.size, 1, none⟩ = some (.int .i64 s) ∧ Below w.heap.size w V2) ⟨by first | with_reducible assumption | (simp [go_sem]; done) | with_reducible exact hold_al c1 _ _ | with_reducible exact hold_al c2 _ _ | with_reducible exact hold_al c3 _ _ | with_reducible exact hold_al c4 _ _ | (simp [go_sem, c1, c2, c3, cf3, c4, cf4, cz1, cy1, cz3, cy3]; done), by first | with_reducible assumption | (simp [go_sem]; done) | with_reducible exact hold_al c1 _ _ | with_reducible exact hold_al c2 _ _ | with_reducible exact hold_al c3 _ _ | with_reducible exact hold_al c4 _ _ | (simp [go_sem, c1, c2, c3, cf3, c4, cf4, cz1, cy1, cz3, cy3]; done), by first | with_reducible assumption | (simp [go_sem]; done) | with_reducible exact hold_al c1 _ _ | with_reducible exact hold_al c2 _ _ | with_reducible exact hold_al c3 _ _ | with_reducible exact hold_al c4 _ _ | (simp [go_sem, c1, c2, c3, cf3, c4, cf4, cz1, cy1, cz3, cy3]; done), by first | with_reducible assumption | (simp [go_sem]; done) | with_reducible exact hold_alF c3 cf3 _ _ | with_reducible exact hold_alF c4 cf4 _ _ | (simp [go_sem, c1, c2, c3, cf3, c4, cf4, cz1, cy1, cz3, cy3]; done), by first | with_reducible assumption | (simp [go_sem]; done) | with_reducible exact hold_al c1 _ _ | with_reducible exact hold_al c2 _ _ | with_reducible exact hold_al c3 _ _ | with_reducible exact hold_al c4 _ _ | (simp [go_sem, c1, c2, c3, cf3, c4, cf4, cz1, cy1, cz3, cy3]; done), by first | with_reducible assumption | (simp [go_sem]; done) | with_reducible exact hold_alF c3 cf3 _ _ | with_reducible exact hold_alF c4 cf4 _ _ | (simp [go_sem, c1, c2, c3, cf3, c4, cf4, cz1, cy1, cz3, cy3]; done), by first | with_reducible assumption | (simp [go_sem]; done) | with_reducible exact hold_al c1 _ _ | with_reducible exact hold_al c2 _ _ | with_reducible exact hold_al c3 _ _ | with_reducible exact hold_al c4 _ _ | (simp [go_sem, c1, c2, c3, cf3, c4, cf4, cz1, cy1, cz3, cy3]; done), by first | with_reducible assumption | (simp [go_sem]; done) | with_reducible exact hold_al c1 _ _ | with_reducible exact hold_al c2 _ _ | with_reducible exact hold_al c3 _ _ | with_reducible exact hold_al c4 _ _ | (simp [go_sem, c1, c2, c3, cf3, c4, cf4, cz1, cy1, cz3, cy3]; done), by repeat (first | with_reducible exact Below.refl _ _ | with_reducible refine bl_alloc ?_ _ | with_reducible refine bl_drewN ?_ _ | with_reducible refine bl_drew ?_ | (with_reducible refine bl_set ?_ ?_ _; rotate_left; focus (first | (simp; done) | (simp; omega) | omega)) | with_reducible refine below_step ?_ (Bw.below _) | with_reducible refine below_step ?_ (by assumption))⟩ ?_
  rintro V2 ⟨hd1, hd2, hd3, fd3, hd4, fd4, hd5, hd6, hWd⟩ gd
  have d1 := Bw.hold hd1
  have d2 := Bw.hold hd2
  have d3 := Bw.hold hd3
  have df3 := Bw.free hd3 fd3
  have d4 := Bw.hold hd4
  have df4 := Bw.free hd4 fd4
  have d5 := Bw.hold hd5
  have d6 := Bw.hold hd6
  have dz1 := fun g : Bw V2 => cell_lt (d1 g)
  have dy1 := fun g : Bw V2 => Nat.le_of_lt (dz1 g)
  have dz3 := fun g : Bw V2 => cell_lt (d3 g)
  have dy3 := fun g : Bw V2 => Nat.le_of_lt (dz3 g)
  have dz5 := fun g : Bw V2 => cell_lt (d5 g)
  have dy5 := fun g : Bw V2 => Nat.le_of_lt (dz5 g)
  clear hd1 hd2 hd3 fd3 hd4 fd4 hd5 hd6
  clear c1 c2 c3 cf3 c4 cf4 cz1 cy1 cz3 cy3
  refine (RD.out _).mono ?_
  rintro e_g3 w_g3 ⟨rfl, hb_g3⟩
  obtain ⟨g3, rfl⟩ := gd.next hb_g3
  clear hb_g3
  go_wp2_with fail
  refine calls_start (fun V3 => V3.cell? ⟨w.heap.size, 0, none⟩ = some (.int .i64 a) ∧ V3.cell? ⟨w.heap.size, 1, none⟩ = some (.int .i64 b) ∧ V3.cell? ⟨w.heap.size + 1, 0, none⟩ = some (.int .i64 0) ∧ V3.frozen? ⟨w.heap.size + 1, 0, none⟩ = false ∧ V3.cell? ⟨w.heap.size + 1, 1, none⟩ = some (.int .i64 0) ∧ V3.frozen? ⟨w.heap.size + 1, 1, none⟩ = false ∧ V3.cell? ⟨g2.out.heap.size, 0, none⟩ = some (.int .i64 p) ∧ V3.cell? ⟨g2.out.heap.size, 1, none⟩ = some (.int .i64 s) ∧ V3.cell? ⟨g3.out.heap.size, 0, none⟩ = some (.int .i64 ua) ∧ V3.cell? ⟨g3.out.heap.size, 1, none⟩ = some (.int .i64 ub) ∧ Below w.heap.size w V3) ⟨by first | with_reducible assumption | (simp [go_sem]; done) | with_reducible exact hold_al d1 _ _ | with_reducible exact hold_al d2 _ _ | with_reducible exact hold_al d3 _ _ | with_reducible exact hold_al d4 _ _ | with_reducible exact hold_al d5 _ _ | with_reducible exact hold_al d6 _ _ | (simp [go_sem, d1, d2, d3, df3, d4, df4, d5, d6, dz1, dy1, dz3, dy3, dz5, dy5]; done), by first | with_reducible assumption | (simp [go_sem]; done) | with_reducible exact hold_al d1 _ _ | with_reducible exact hold_al d2 _ _ | with_reducible exact hold_al d3 _ _ | with_reducible exact hold_al d4 _ _ | with_reducible exact hold_al d5 _ _ | with_reducible exact hold_al d6 _ _ | (simp [go_sem, d1, d2, d3, df3, d4, df4, d5, d6, dz1, dy1, dz3, dy3, dz5, dy5]; done), by first | with_reducible assumption | (simp [go_sem]; done) | with_reducible exact hold_al d1 _ _ | with_reducible exact hold_al d2 _ _ | with_reducible exact hold_al d3 _ _ | with_reducible exact hold_al d4 _ _ | with_reducible exact hold_al d5 _ _ | with_reducible exact hold_al d6 _ _ | (simp [go_sem, d1, d2, d3, df3, d4, df4, d5, d6, dz1, dy1, dz3, dy3, dz5, dy5]; done), by first | with_reducible assumption | (simp [go_sem]; done) | with_reducible exact hold_alF d3 df3 _ _ | with_reducible exact hold_alF d4 df4 _ _ | (simp [go_sem, d1, d2, d3, df3, d4, df4, d5, d6, dz1, dy1, dz3, dy3, dz5, dy5]; done), by first | with_reducible assumption | (simp [go_sem]; done) | with_reducible exact hold_al d1 _ _ | with_reducible exact hold_al d2 _ _ | with_reducible exact hold_al d3 _ _ | with_reducible exact hold_al d4 _ _ | with_reducible exact hold_al d5 _ _ | with_reducible exact hold_al d6 _ _ | (simp [go_sem, d1, d2, d3, df3, d4, df4, d5, d6, dz1, dy1, dz3, dy3, dz5, dy5]; done), by first | with_reducible assumption | (simp [go_sem]; done) | with_reducible exact hold_alF d3 df3 _ _ | with_reducible exact hold_alF d4 df4 _ _ | (simp [go_sem, d1, d2, d3, df3, d4, df4, d5, d6, dz1, dy1, dz3, dy3, dz5, dy5]; done), by first | with_reducible assumption | (simp [go_sem]; done) | with_reducible exact hold_al d1 _ _ | with_reducible exact hold_al d2 _ _ | with_reducible exact hold_al d3 _ _ | with_reducible exact hold_al d4 _ _ | with_reducible exact hold_al d5 _ _ | with_reducible exact hold_al d6 _ _ | (simp [go_sem, d1, d2, d3, df3, d4, df4, d5, d6, dz1, dy1, dz3, dy3, dz5, dy5]; done), by first | with_reducible assumption | (simp [go_sem]; done) | with_reducible exact hold_al d1 _ _ | with_reducible exact hold_al d2 _ _ | with_reducible exact hold_al d3 _ _ | with_reducible exact hold_al d4 _ _ | with_reducible exact hold_al d5 _ _ | with_reducible exact hold_al d6 _ _ | (simp [go_sem, d1, d2, d3, df3, d4, df4, d5, d6, dz1, dy1, dz3, dy3, dz5, dy5]; done), by first | with_reducible assumption | (simp [go_sem]; done) | with_reducible exact hold_al d1 _ _ | with_reducible exact hold_al d2 _ _ | with_reducible exact hold_al d3 _ _ | with_reducible exact hold_al d4 _ _ | with_reducible exact hold_al d5 _ _ | with_reducible exact hold_al d6 _ _ | (simp [go_sem, d1, d2, d3, df3, d4, df4, d5, d6, dz1, dy1, dz3, dy3, dz5, dy5]; done), by first | with_reducible assumption | (simp [go_sem]; done) | with_reducible exact hold_al d1 _ _ | with_reducible exact hold_al d2 _ _ | with_reducible exact hold_al d3 _ _ | with_reducible exact hold_al d4 _ _ | with_reducible exact hold_al d5 _ _ | with_reducible exact hold_al d6 _ _ | (simp [go_sem, d1, d2, d3, df3, d4, df4, d5, d6, dz1, dy1, dz3, dy3, dz5, dy5]; done), by repeat (first | with_reducible exact Below.refl _ _ | with_reducible refine bl_alloc ?_ _ | with_reducible refine bl_drewN ?_ _ | with_reducible refine bl_drew ?_ | (with_reducible refine bl_set ?_ ?_ _; rotate_left; focus (first | (simp; done) | (simp; omega) | omega)) | with_reducible refine below_step ?_ (Bw.below _) | with_reducible refine below_step ?_ (by assumption))⟩ ?_
  rintro V3 ⟨hq1, hq2, hq3, fq3, hq4, fq4, hq5, hq6, hq7, hq8, hWq⟩ gq
  have q1 := Bw.hold hq1
  have q2 := Bw.hold hq2
  have q3 := Bw.hold hq3
  have qf3 := Bw.free hq3 fq3
  have q4 := Bw.hold hq4
  have qf4 := Bw.free hq4 fq4
  have q5 := Bw.hold hq5
  have q6 := Bw.hold hq6
  have q7 := Bw.hold hq7
  have q8 := Bw.hold hq8
  have qz1 := fun g : Bw V3 => cell_lt (q1 g)
  have qy1 := fun g : Bw V3 => Nat.le_of_lt (qz1 g)
  have qz3 := fun g : Bw V3 => cell_lt (q3 g)
  have qy3 := fun g : Bw V3 => Nat.le_of_lt (qz3 g)
  have qz5 := fun g : Bw V3 => cell_lt (q5 g)
  have qy5 := fun g : Bw V3 => Nat.le_of_lt (qz5 g)
  have qz7 := fun g : Bw V3 => cell_lt (q7 g)
  have qy7 := fun g : Bw V3 => Nat.le_of_lt (qz7 g)
  clear hq1 hq2 hq3 fq3 hq4 fq4 hq5 hq6 hq7 hq8
  clear d1 d2 d3 df3 d4 df4 d5 d6 dz1 dy1 dz3 dy3 dz5 dy5
  refine (M2.out _).mono ?_
  rintro e_h w_h ⟨rfl, hb_h⟩
  obtain ⟨g4, rfl⟩ := gq.next hb_h
  clear hb_h
  go_upto_region 5 with fail
  refine wp_start (fun V4 => V4.cell? ⟨w.heap.size + 1, 0, none⟩ = some (.int .i64 0) ∧ V4.frozen? ⟨w.heap.size + 1, 0, none⟩ = false ∧ V4.cell? ⟨w.heap.size + 1, 1, none⟩ = some (.int .i64 0) ∧ V4.frozen? ⟨w.heap.size + 1, 1, none⟩ = false ∧ V4.cell? ⟨g3.out.heap.size, 0, none⟩ = some (.int .i64 ua) ∧ V4.cell? ⟨g3.out.heap.size, 1, none⟩ = some (.int .i64 ub) ∧ V4.cell? ⟨g4.out.heap.size + 1, 0, none⟩ = some (.int .i64 (a - da)) ∧ V4.cell? ⟨g4.out.heap.size + 1, 1, none⟩ = some (.int .i64 (b - db)) ∧ Below w.heap.size w V4) ⟨by first | with_reducible assumption | (simp [go_sem]; done) | with_reducible exact hold_al q1 _ _ | with_reducible exact hold_al q2 _ _ | with_reducible exact hold_al q3 _ _ | with_reducible exact hold_al q4 _ _ | with_reducible exact hold_al q5 _ _ | with_reducible exact hold_al q6 _ _ | with_reducible exact hold_al q7 _ _ | with_reducible exact hold_al q8 _ _ | (simp [go_sem, q1, q2, q3, qf3, q4, qf4, q5, q6, q7, q8, qz1, qy1, qz3, qy3, qz5, qy5, qz7, qy7]; done), by first | with_reducible assumption | (simp [go_sem]; done) | with_reducible exact hold_alF q3 qf3 _ _ | with_reducible exact hold_alF q4 qf4 _ _ | (simp [go_sem, q1, q2, q3, qf3, q4, qf4, q5, q6, q7, q8, qz1, qy1, qz3, qy3, qz5, qy5, qz7, qy7]; done), by first | with_reducible assumption | (simp [go_sem]; done) | with_reducible exact hold_al q1 _ _ | with_reducible exact hold_al q2 _ _ | with_reducible exact hold_al q3 _ _ | with_reducible exact hold_al q4 _ _ | with_reducible exact hold_al q5 _ _ | with_reducible exact hold_al q6 _ _ | with_reducible exact hold_al q7 _ _ | with_reducible exact hold_al q8 _ _ | (simp [go_sem, q1, q2, q3, qf3, q4, qf4, q5, q6, q7, q8, qz1, qy1, qz3, qy3, qz5, qy5, qz7, qy7]; done), by first | with_reducible assumption | (simp [go_sem]; done) | with_reducible exact hold_alF q3 qf3 _ _ | with_reducible exact hold_alF q4 qf4 _ _ | (simp [go_sem, q1, q2, q3, qf3, q4, qf4, q5, q6, q7, q8, qz1, qy1, qz3, qy3, qz5, qy5, qz7, qy7]; done), by first | with_reducible assumption | (simp [go_sem]; done) | with_reducible exact hold_al q1 _ _ | with_reducible exact hold_al q2 _ _ | with_reducible exact hold_al q3 _ _ | with_reducible exact hold_al q4 _ _ | with_reducible exact hold_al q5 _ _ | with_reducible exact hold_al q6 _ _ | with_reducible exact hold_al q7 _ _ | with_reducible exact hold_al q8 _ _ | (simp [go_sem, q1, q2, q3, qf3, q4, qf4, q5, q6, q7, q8, qz1, qy1, qz3, qy3, qz5, qy5, qz7, qy7]; done), by first | with_reducible assumption | (simp [go_sem]; done) | with_reducible exact hold_al q1 _ _ | with_reducible exact hold_al q2 _ _ | with_reducible exact hold_al q3 _ _ | with_reducible exact hold_al q4 _ _ | with_reducible exact hold_al q5 _ _ | with_reducible exact hold_al q6 _ _ | with_reducible exact hold_al q7 _ _ | with_reducible exact hold_al q8 _ _ | (simp [go_sem, q1, q2, q3, qf3, q4, qf4, q5, q6, q7, q8, qz1, qy1, qz3, qy3, qz5, qy5, qz7, qy7]; done), by first | with_reducible assumption | (simp [go_sem]; done) | with_reducible exact hold_al q1 _ _ | with_reducible exact hold_al q2 _ _ | with_reducible exact hold_al q3 _ _ | with_reducible exact hold_al q4 _ _ | with_reducible exact hold_al q5 _ _ | with_reducible exact hold_al q6 _ _ | with_reducible exact hold_al q7 _ _ | with_reducible exact hold_al q8 _ _ | (simp [go_sem, q1, q2, q3, qf3, q4, qf4, q5, q6, q7, q8, qz1, qy1, qz3, qy3, qz5, qy5, qz7, qy7]; done), by first | with_reducible assumption | (simp [go_sem]; done) | with_reducible exact hold_al q1 _ _ | with_reducible exact hold_al q2 _ _ | with_reducible exact hold_al q3 _ _ | with_reducible exact hold_al q4 _ _ | with_reducible exact hold_al q5 _ _ | with_reducible exact hold_al q6 _ _ | with_reducible exact hold_al q7 _ _ | with_reducible exact hold_al q8 _ _ | (simp [go_sem, q1, q2, q3, qf3, q4, qf4, q5, q6, q7, q8, qz1, qy1, qz3, qy3, qz5, qy5, qz7, qy7]; done), by repeat (first | with_reducible exact Below.refl _ _ | with_reducible refine bl_alloc ?_ _ | with_reducible refine bl_drewN ?_ _ | with_reducible refine bl_drew ?_ | (with_reducible refine bl_set ?_ ?_ _; rotate_left; focus (first | (simp; done) | (simp; omega) | omega)) | with_reducible refine below_step ?_ (Bw.below _) | with_reducible refine below_step ?_ (by assumption))⟩ ?_
  rintro V4 ⟨hl1, fl1, hl2, fl2, hl3, hl4, hl5, hl6, hWl⟩ gl
  have l1 := Bw.hold hl1
  have lf1 := Bw.free hl1 fl1
  have l2 := Bw.hold hl2
  have lf2 := Bw.free hl2 fl2
  have l3 := Bw.hold hl3
  have l4 := Bw.hold hl4
  have l5 := Bw.hold hl5
  have l6 := Bw.hold hl6
  have lz1 := fun g : Bw V4 => cell_lt (l1 g)
  have ly1 := fun g : Bw V4 => Nat.le_of_lt (lz1 g)
  have lz3 := fun g : Bw V4 => cell_lt (l3 g)
  have ly3 := fun g : Bw V4 => Nat.le_of_lt (lz3 g)
  have lz5 := fun g : Bw V4 => cell_lt (l5 g)
  have ly5 := fun g : Bw V4 => Nat.le_of_lt (lz5 g)
  clear hl1 fl1 hl2 fl2 hl3 hl4 hl5 hl6
  clear q1 q2 q3 qf3 q4 qf4 q5 q6 q7 q8 qz1 qy1 qz3 qy3 qz5 qy5 qz7 qy7
  rw [HLA.out] at l5
  rw [HLB.out] at l6
  clear M1 RD M2 w1 w2 w3 w4
  go_wp2_with fail
  go_loopw [11] (fun k W => ∃ n : Nat, n ≤ 6 ∧ k = .int .i64 n ∧ dgt la lb = dgF la lb (6 - n) n ∧ Below V4.heap.size V4 W) (fun k _ => 6 - (intOf k).toNat)
  case atStart => exact ⟨0, by omega, rfl, rfl, by repeat (first | with_reducible exact Below.refl _ _ | with_reducible refine bl_alloc ?_ _ | with_reducible refine bl_drewN ?_ _ | with_reducible refine bl_drew ?_ | (with_reducible refine bl_set ?_ ?_ _; rotate_left; focus (first | (simp; done) | (simp; omega) | omega)) | with_reducible refine below_step ?_ (Bw.below _) | with_reducible refine below_step ?_ (by assumption))⟩
  case round =>
    obtain ⟨n, hn, rfl, hd, hb⟩ := hrel
    obtain ⟨g, rfl⟩ := bw_of hb
    by_cases hlt : n < 6
    · rw [show 6 - n = (6 - (n + 1)) + 1 by omega] at hd
      unfold dgF at hd
      have UN := runit_is n hlt _ _ rfl rfl
      have HU := Lib.hid UN
      clear UN
      generalize uA (n : Int) = x at *
      generalize uB (n : Int) = y at *
      by_cases hx : x = la
      · by_cases hy : y = lb
        · rw [if_pos ⟨hx, hy⟩] at hd
          have HD := Lib.hid hd
          have q1 : (x == la) = true := by simp [hx]
          have q2 : (y == lb) = true := by simp [hy]
          clear hd hx hy
          go_wp2_with fail
          refine wp_region_bw (by kernel_rfl) (by kernel_rfl) g ?_
          repeat (go_big_quiet_step ((first
            | (go_at_call 37; with_reducible exact bw_call (HU.out _)))))
          refine wpQuiet_nil ?_
          rintro _ ⟨g5, rfl⟩
          go_wp2_with fail
          refine bodyPost_ret (v := .tuple #[.agg #[.int .i64 ua, .int .i64 ub], .int .i64 ((n : Int) + 1)]) (by simp [results, Try.results43, go_sem, l1, l2, lz1, ly1]) rfl ⟨ret_ei rfl rfl (by rw [HDG.out, HD.out]), by repeat (first | with_reducible exact Below.refl _ _ | with_reducible refine bl_alloc ?_ _ | with_reducible refine bl_drewN ?_ _ | with_reducible refine bl_drew ?_ | (with_reducible refine bl_set ?_ ?_ _; rotate_left; focus (first | (simp; done) | (simp; omega) | omega)) | with_reducible refine below_step ?_ (Bw.below _) | with_reducible refine below_step ?_ (by assumption))⟩
        · rw [if_neg (by omega)] at hd
          have hyf : (y == lb) = false := by simp [hy]
          have HD := Lib.hid hd
          clear hd
          go_wp2_with fail
          refine wp_region_bw (by kernel_rfl) (by kernel_rfl) g ?_
          repeat (go_big_quiet_step ((first
            | (go_at_call 37; with_reducible exact bw_call (HU.out _)))))
          refine wpQuiet_nil ?_
          rintro _ ⟨g5, rfl⟩
          go_wp2_with fail
          go_roundw
          case rel => exact ⟨n + 1, by omega, by go_num, HD.out, by repeat (first | with_reducible exact Below.refl _ _ | with_reducible refine bl_alloc ?_ _ | with_reducible refine bl_drewN ?_ _ | with_reducible refine bl_drew ?_ | (with_reducible refine bl_set ?_ ?_ _; rotate_left; focus (first | (simp; done) | (simp; omega) | omega)) | with_reducible refine below_step ?_ (Bw.below _) | with_reducible refine below_step ?_ (by assumption))⟩
          case measure => simp [intOf]; omega
      · rw [if_neg (by omega)] at hd
        have hxf : (x == la) = false := by simp [hx]
        have HD := Lib.hid hd
        clear hd
        go_wp2_with fail
        refine wp_region_bw (by kernel_rfl) (by kernel_rfl) g ?_
        repeat (go_big_quiet_step ((first
          | (go_at_call 37; with_reducible exact bw_call (HU.out _)))))
        refine wpQuiet_nil ?_
        rintro _ ⟨g5, rfl⟩
        go_wp2_with fail
        go_roundw
        case rel => exact ⟨n + 1, by omega, by go_num, HD.out, by repeat (first | with_reducible exact Below.refl _ _ | with_reducible refine bl_alloc ?_ _ | with_reducible refine bl_drewN ?_ _ | with_reducible refine bl_drew ?_ | (with_reducible refine bl_set ?_ ?_ _; rotate_left; focus (first | (simp; done) | (simp; omega) | omega)) | with_reducible refine below_step ?_ (Bw.below _) | with_reducible refine below_step ?_ (by assumption))⟩
        case measure => simp [intOf]; omega
    · obtain rfl : n = 6 := by omega
      rw [show dgF la lb (6 - 6) 6 = 0 from rfl] at hd
      have HD := Lib.hid hd
      clear hd
      go_wp2_with fail
      refine bodyPost_ret (v := .tuple #[.agg #[.int .i64 ua, .int .i64 ub], .int .i64 0]) (by simp [results, Try.results43, go_sem, l1, l2, lz1, ly1]) rfl ⟨ret_ei rfl rfl (by rw [HDG.out, HD.out]), by repeat (first | with_reducible exact Below.refl _ _ | with_reducible refine bl_alloc ?_ _ | with_reducible refine bl_drewN ?_ _ | with_reducible refine bl_drew ?_ | (with_reducible refine bl_set ?_ ?_ _; rotate_left; focus (first | (simp; done) | (simp; omega) | omega)) | with_reducible refine below_step ?_ (Bw.below _) | with_reducible refine below_step ?_ (by assumption))⟩
set_option maxRecDepth 100000 in
set_option maxHeartbeats 2000000 in
theorem ref_ok_no (r a b : Int) (h : (rsB r && zOk a b) = false) (w : World) :
    Calls Try.prog 35 #[.agg #[.int .i64 r, .int .i64 a, .int .i64 b]] w fun e w' => e = .returned (.bool false) ∧ Below w.heap.size w w' := by
  by_cases h0 : r < 0
  · have d0 : decide (r < 0) = true := decide_eq_true h0
    go_enter Try.func35, Try.ntmps35
    go_wp2_with fail
    go_ret
    exact ⟨rfl, by repeat (first | with_reducible exact Below.refl _ _ | with_reducible refine bl_alloc ?_ _ | with_reducible refine bl_drewN ?_ _ | with_reducible refine bl_drew ?_ | (with_reducible refine bl_set ?_ ?_ _; rotate_left; focus (first | (simp; done) | (simp; omega) | omega)) | with_reducible refine below_step ?_ (Bw.below _) | with_reducible refine below_step ?_ (by assumption))⟩
  have d0 : decide (r < 0) = false := decide_eq_false h0
  by_cases h1 : 12 < r
  · have d1 : decide (12 < r) = true := decide_eq_true h1
    go_enter Try.func35, Try.ntmps35
    go_wp2_with fail
    go_ret
    exact ⟨rfl, by repeat (first | with_reducible exact Below.refl _ _ | with_reducible refine bl_alloc ?_ _ | with_reducible refine bl_drewN ?_ _ | with_reducible refine bl_drew ?_ | (with_reducible refine bl_set ?_ ?_ _; rotate_left; focus (first | (simp; done) | (simp; omega) | omega)) | with_reducible refine below_step ?_ (Bw.below _) | with_reducible refine below_step ?_ (by assumption))⟩
  have d1 : decide (12 < r) = false := decide_eq_false h1
  by_cases h2 : a < -1073741824
  · have d2 : decide (a < -1073741824) = true := decide_eq_true h2
    go_enter Try.func35, Try.ntmps35
    go_wp2_with fail
    go_ret
    exact ⟨rfl, by repeat (first | with_reducible exact Below.refl _ _ | with_reducible refine bl_alloc ?_ _ | with_reducible refine bl_drewN ?_ _ | with_reducible refine bl_drew ?_ | (with_reducible refine bl_set ?_ ?_ _; rotate_left; focus (first | (simp; done) | (simp; omega) | omega)) | with_reducible refine below_step ?_ (Bw.below _) | with_reducible refine below_step ?_ (by assumption))⟩
  have d2 : decide (a < -1073741824) = false := decide_eq_false h2
  by_cases h3 : 1073741824 < a
  · have d3 : decide (1073741824 < a) = true := decide_eq_true h3
    go_enter Try.func35, Try.ntmps35
    go_wp2_with fail
    go_ret
    exact ⟨rfl, by repeat (first | with_reducible exact Below.refl _ _ | with_reducible refine bl_alloc ?_ _ | with_reducible refine bl_drewN ?_ _ | with_reducible refine bl_drew ?_ | (with_reducible refine bl_set ?_ ?_ _; rotate_left; focus (first | (simp; done) | (simp; omega) | omega)) | with_reducible refine below_step ?_ (Bw.below _) | with_reducible refine below_step ?_ (by assumption))⟩
  have d3 : decide (1073741824 < a) = false := decide_eq_false h3
  by_cases h4 : b < -1073741824
  · have d4 : decide (b < -1073741824) = true := decide_eq_true h4
    go_enter Try.func35, Try.ntmps35
    go_wp2_with fail
    go_ret
    exact ⟨rfl, by repeat (first | with_reducible exact Below.refl _ _ | with_reducible refine bl_alloc ?_ _ | with_reducible refine bl_drewN ?_ _ | with_reducible refine bl_drew ?_ | (with_reducible refine bl_set ?_ ?_ _; rotate_left; focus (first | (simp; done) | (simp; omega) | omega)) | with_reducible refine below_step ?_ (Bw.below _) | with_reducible refine below_step ?_ (by assumption))⟩
  have d4 : decide (b < -1073741824) = false := decide_eq_false h4
  by_cases h5 : 1073741824 < b
  · have d5 : decide (1073741824 < b) = true := decide_eq_true h5
    go_enter Try.func35, Try.ntmps35
    go_wp2_with fail
    go_ret
    exact ⟨rfl, by repeat (first | with_reducible exact Below.refl _ _ | with_reducible refine bl_alloc ?_ _ | with_reducible refine bl_drewN ?_ _ | with_reducible refine bl_drew ?_ | (with_reducible refine bl_set ?_ ?_ _; rotate_left; focus (first | (simp; done) | (simp; omega) | omega)) | with_reducible refine below_step ?_ (Bw.below _) | with_reducible refine below_step ?_ (by assumption))⟩
  have d5 : decide (1073741824 < b) = false := decide_eq_false h5
  exact absurd h (by rw [show rsB r = true from decide_eq_true (by omega), show zOk a b = true from decide_eq_true (by omega)]; decide)
set_option maxRecDepth 100000 in
set_option maxHeartbeats 2000000 in
theorem ref_ok_yes (a b : Int) (R : Nat) (hR : R < 13) (hz : zOk a b = true) (w : World) :
    Calls Try.prog 35 #[.agg #[.int .i64 (R : Int), .int .i64 a, .int .i64 b]] w fun e w' => e = .returned (.bool (baseB (zz a b R))) ∧ Below w.heap.size w w' := by
  obtain ⟨h1, h2, h3, h4⟩ := zOk_true hz
  have ZB := Lib.hid (zz_bd a b 1073741824 (by omega) h1 h2 h3 h4)
  have d0 : decide ((R : Int) < 0) = false := decide_eq_false (by omega)
  have d1 : decide (12 < (R : Int)) = false := decide_eq_false (by omega)
  have d2 : decide (a < -1073741824) = false := decide_eq_false (by omega)
  have d3 : decide (1073741824 < a) = false := decide_eq_false (by omega)
  have d4 : decide (b < -1073741824) = false := decide_eq_false (by omega)
  have d5 : decide (1073741824 < b) = false := decide_eq_false (by omega)
  clear hz
  go_enter Try.func35, Try.ntmps35
  go_wp2_with fail
  go_loopw [4] (fun k W => ∃ n : Nat, n ≤ R ∧ k = .int .i64 n ∧ W.cell? ⟨w.heap.size, 0, none⟩ = some (.int .i64 (R : Int))
    ∧ W.cell? ⟨w.heap.size + 1, 0, none⟩ = some (.int .i64 (zz a b n).1) ∧ W.cell? ⟨w.heap.size + 1, 1, none⟩ = some (.int .i64 (zz a b n).2) ∧ W.frozen? ⟨w.heap.size + 1, 0, none⟩ = false ∧ W.frozen? ⟨w.heap.size + 1, 1, none⟩ = false ∧ Below w.heap.size w W) (fun k _ => R - (intOf k).toNat)
  case atStart => exact ⟨0, by omega, rfl, by simp [go_sem], by simp [go_sem, zz], by simp [go_sem, zz], by simp [go_sem], by simp [go_sem], by repeat (first | with_reducible exact Below.refl _ _ | with_reducible refine bl_alloc ?_ _ | with_reducible refine bl_drewN ?_ _ | with_reducible refine bl_drew ?_ | (with_reducible refine bl_set ?_ ?_ _; rotate_left; focus (first | (simp; done) | (simp; omega) | omega)) | with_reducible refine below_step ?_ (Bw.below _) | with_reducible refine below_step ?_ (by assumption))⟩
  case round =>
    obtain ⟨n, hn, rfl, e0, e1, e2, ef1, ef2, hb⟩ := hrel
    by_cases hlt : n < R
    · obtain ⟨z1, z2, z3, z4⟩ := ZB.out n
      have PA := ref_parent (zz a b n).1 (zz a b n).2 z1 z2 z3 z4
      rw [show upA (zz a b n).1 (zz a b n).2 = (zz a b (n + 1)).1 from rfl, show upB (zz a b n).1 (zz a b n).2 = (zz a b (n + 1)).2 from rfl] at PA
      obtain ⟨ua, hua⟩ : ∃ ua, (zz a b (n + 1)).1 = ua := ⟨_, rfl⟩
      obtain ⟨ub, hub⟩ : ∃ ub, (zz a b (n + 1)).2 = ub := ⟨_, rfl⟩
      rw [hua, hub] at PA
      have HUA := Lib.hid hua
      have HUB := Lib.hid hub
      have HPA := Lib.hid PA
      clear hua hub PA z1 z2 z3 z4
      generalize dgz (zz a b n).1 (zz a b n).2 = dg at *
      generalize (zz a b n).1 = p at *
      generalize (zz a b n).2 = q at *
      go_wp2_with fail
      refine calls_start (fun V => V.cell? ⟨w.heap.size, 0, none⟩ = some (.int .i64 (R : Int)) ∧ V.cell? ⟨w.heap.size + 1, 0, none⟩ = some (.int .i64 p) ∧ V.frozen? ⟨w.heap.size + 1, 0, none⟩ = false ∧ V.cell? ⟨w.heap.size + 1, 1, none⟩ = some (.int .i64 q) ∧ V.frozen? ⟨w.heap.size + 1, 1, none⟩ = false ∧ Below w.heap.size w V) ⟨by first | with_reducible assumption | (simp [go_sem]; done), by first | with_reducible assumption | (simp [go_sem]; done), by first | with_reducible assumption | (simp [go_sem]; done), by first | with_reducible assumption | (simp [go_sem]; done), by first | with_reducible assumption | (simp [go_sem]; done), by repeat (first | with_reducible exact Below.refl _ _ | with_reducible refine bl_alloc ?_ _ | with_reducible refine bl_drewN ?_ _ | with_reducible refine bl_drew ?_ | (with_reducible refine bl_set ?_ ?_ _; rotate_left; focus (first | (simp; done) | (simp; omega) | omega)) | with_reducible refine below_step ?_ (Bw.below _) | with_reducible refine below_step ?_ (by assumption))⟩ ?_
      rintro V ⟨hc1, hc2, fc2, hc3, fc3, hWc⟩ gc
      have c1 := Bw.hold hc1
      have c2 := Bw.hold hc2
      have cf2 := Bw.free hc2 fc2
      have c3 := Bw.hold hc3
      have cf3 := Bw.free hc3 fc3
      have cz1 := fun g : Bw V => cell_lt (c1 g)
      have cy1 := fun g : Bw V => Nat.le_of_lt (cz1 g)
      have cz2 := fun g : Bw V => cell_lt (c2 g)
      have cy2 := fun g : Bw V => Nat.le_of_lt (cz2 g)
      clear hc1 hc2 fc2 hc3 fc3
      clear e0 e1 e2 ef1 ef2 hb
      refine (HPA.out _).mono ?_
      rintro e_g2 w_g2 ⟨rfl, hb_g2⟩
      obtain ⟨g2, rfl⟩ := gc.next hb_g2
      clear hb_g2
      go_wp2_with fail
      go_roundw
      case rel => exact ⟨n + 1, by omega, by go_num, by simp [go_sem, c1], by rw [HUA.out]; simp [go_sem, c2, c3], by rw [HUB.out]; simp [go_sem, c2, c3], by first | (simp [go_sem]; done) | (simp [go_sem, cf2, cf3]; done), by first | (simp [go_sem]; done) | (simp [go_sem, cf2, cf3]; done), by repeat (first | with_reducible exact Below.refl _ _ | with_reducible refine bl_alloc ?_ _ | with_reducible refine bl_drewN ?_ _ | with_reducible refine bl_drew ?_ | (with_reducible refine bl_set ?_ ?_ _; rotate_left; focus (first | (simp; done) | (simp; omega) | omega)) | with_reducible refine below_step ?_ (Bw.below _) | with_reducible refine below_step ?_ (by assumption))⟩
      case measure => simp [intOf]; omega
    · obtain rfl : n = R := by omega
      obtain ⟨z1, z2, z3, z4⟩ := ZB.out n
      have hbb : baseB (zz a b n) = (decide (-512 ≤ (zz a b n).1 ∧ (zz a b n).1 < 512) && decide (-512 ≤ (zz a b n).2 ∧ (zz a b n).2 < 512)) := rfl
      have HBB := Lib.hid hbb
      clear hbb ZB
      generalize (zz a b n).1 = p at *
      generalize (zz a b n).2 = q at *
      by_cases k1 : -512 ≤ p
      · by_cases k2 : p ≤ 511
        · by_cases k3 : -512 ≤ q
          · by_cases k4 : q ≤ 511
            · go_wp2_with fail
              go_ret
              exact ⟨ret_b (by rw [HBB.out, decide_eq_true (by omega), decide_eq_true (by omega)]; rfl), by repeat (first | with_reducible exact Below.refl _ _ | with_reducible refine bl_alloc ?_ _ | with_reducible refine bl_drewN ?_ _ | with_reducible refine bl_drew ?_ | (with_reducible refine bl_set ?_ ?_ _; rotate_left; focus (first | (simp; done) | (simp; omega) | omega)) | with_reducible refine below_step ?_ (Bw.below _) | with_reducible refine below_step ?_ (by assumption))⟩
            · go_wp2_with fail
              go_ret
              exact ⟨ret_b (by rw [HBB.out, decide_eq_true (by omega), decide_eq_false (by omega)]; rfl), by repeat (first | with_reducible exact Below.refl _ _ | with_reducible refine bl_alloc ?_ _ | with_reducible refine bl_drewN ?_ _ | with_reducible refine bl_drew ?_ | (with_reducible refine bl_set ?_ ?_ _; rotate_left; focus (first | (simp; done) | (simp; omega) | omega)) | with_reducible refine below_step ?_ (Bw.below _) | with_reducible refine below_step ?_ (by assumption))⟩
          · go_wp2_with fail
            go_ret
            exact ⟨ret_b (by rw [HBB.out, decide_eq_true (by omega), decide_eq_false (by omega)]; rfl), by repeat (first | with_reducible exact Below.refl _ _ | with_reducible refine bl_alloc ?_ _ | with_reducible refine bl_drewN ?_ _ | with_reducible refine bl_drew ?_ | (with_reducible refine bl_set ?_ ?_ _; rotate_left; focus (first | (simp; done) | (simp; omega) | omega)) | with_reducible refine below_step ?_ (Bw.below _) | with_reducible refine below_step ?_ (by assumption))⟩
        · go_wp2_with fail
          go_ret
          exact ⟨ret_b (by rw [HBB.out, decide_eq_false (by omega)]; rfl), by repeat (first | with_reducible exact Below.refl _ _ | with_reducible refine bl_alloc ?_ _ | with_reducible refine bl_drewN ?_ _ | with_reducible refine bl_drew ?_ | (with_reducible refine bl_set ?_ ?_ _; rotate_left; focus (first | (simp; done) | (simp; omega) | omega)) | with_reducible refine below_step ?_ (Bw.below _) | with_reducible refine below_step ?_ (by assumption))⟩
      · go_wp2_with fail
        go_ret
        exact ⟨ret_b (by rw [HBB.out, decide_eq_false (by omega)]; rfl), by repeat (first | with_reducible exact Below.refl _ _ | with_reducible refine bl_alloc ?_ _ | with_reducible refine bl_drewN ?_ _ | with_reducible refine bl_drew ?_ | (with_reducible refine bl_set ?_ ?_ _; rotate_left; focus (first | (simp; done) | (simp; omega) | omega)) | with_reducible refine below_step ?_ (Bw.below _) | with_reducible refine below_step ?_ (by assumption))⟩
theorem ref_ok (r a b : Int) (w : World) :
    Calls Try.prog 35 #[.agg #[.int .i64 r, .int .i64 a, .int .i64 b]] w fun e w' => e = .returned (.bool (okB r a b)) ∧ Below w.heap.size w w' := by
  rcases h : (rsB r && zOk a b) with _ | _
  · have e : okB r a b = false := by unfold okB; rw [h]; rfl
    rw [e]
    exact ref_ok_no r a b h w
  · rw [Bool.and_eq_true] at h
    have hr := rsB_true h.1
    obtain ⟨R, rfl⟩ : ∃ R : Nat, r = (R : Int) := ⟨r.toNat, by omega⟩
    have e : okB (R : Int) a b = baseB (zz a b R) := by unfold okB; rw [h.1, h.2, Int.toNat_natCast]; rfl
    rw [e]
    exact ref_ok_yes a b R (by omega) h.2 w
end Go.Proofs.Ytmipkloleklnkaa

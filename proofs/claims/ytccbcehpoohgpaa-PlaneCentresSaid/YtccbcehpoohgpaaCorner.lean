/- The walks of plane's corner and the reference's Centre. -/
import Derived.Test.YtccbcehpoohgpaaCentre
namespace Go.Proofs.Ytccbcehpoohgpaa
open Go.RowKit
set_option linter.unusedSimpArgs false
set_option linter.unusedVariables false
/-- A corner's number, in thirds of the finest lattice: the centre three times, and beta times a corner's k. -/
def coA (ma mb ka kb : Int) (k : Nat) : Int := ma + plA ka kb k
def coB (ma mb ka kb : Int) (k : Nat) : Int := mb + plB ka kb k
set_option maxRecDepth 100000 in
set_option maxHeartbeats 1000000 in
theorem plane_corner (ma mb ka kb : Int) (K : Nat) (hK : K < 13) (h1 : -10000000000000000 ≤ ma) (h2 : ma ≤ 10000000000000000) (h3 : -10000000000000000 ≤ mb) (h4 : mb ≤ 10000000000000000)
    (k1 : -2 ≤ ka) (k2 : ka ≤ 2) (k3 : -2 ≤ kb) (k4 : kb ≤ 2) (w : World) :
    Calls Try.prog 42 #[.agg #[.int .i64 ma, .int .i64 mb, .int .i64 (bt K).1, .int .i64 (bt K).2], .agg #[.int .i64 ka, .int .i64 kb]] w fun e w' =>
      e = .returned (.agg #[.int .i64 (52 * (ma + plA ka kb K) + 26 * (mb + plB ka kb K)), .int .i64 (45 * (mb + plB ka kb K))]) ∧ Below w.heap.size w w' := by
  obtain ⟨b1, b2, b3, b4⟩ := bt_small K hK
  obtain ⟨l1, l2, l3, l4⟩ := pl_bd ka kb K hK 2 (by omega) k1 k2 k3 k4
  have ML := Lib.hid (eis_mul_fit (bt K).1 (bt K).2 ka kb (plA ka kb K) (plB ka kb K) (by omega) (by omega) (by omega) (by omega) (by omega) (by omega) (by omega) (by omega) (by omega) (by omega) (by omega) (by omega) rfl rfl)
  generalize (bt K).1 = t1 at *
  generalize (bt K).2 = t2 at *
  generalize plA ka kb K = pa at *
  generalize plB ka kb K = pb at *
  have AD := Lib.hid (eis_add_fit ma mb pa pb (ma + pa) (mb + pb) (by omega) (by omega) (by omega) (by omega) (by omega) (by omega) (by omega) (by omega) (by omega) (by omega) (by omega) (by omega) rfl rfl)
  have SP := Lib.hid (plane_spot (ma + pa) (mb + pb) (by omega) (by omega) (by omega) (by omega))
  generalize 52 * (ma + pa) + 26 * (mb + pb) = X at *
  generalize 45 * (mb + pb) = Y at *
  generalize ma + pa = qa at *
  generalize mb + pb = qb at *
  go_enter Try.func42, Try.ntmps42
  go_wp2_with fail
  refine calls_start (fun V => V.cell? ⟨w.heap.size, 0, none⟩ = some (.int .i64 ma) ∧ V.cell? ⟨w.heap.size, 1, none⟩ = some (.int .i64 mb) ∧ V.cell? ⟨w.heap.size + 1 + 1, 0, none⟩ = some (.int .i64 0) ∧ V.frozen? ⟨w.heap.size + 1 + 1, 0, none⟩ = false ∧ V.cell? ⟨w.heap.size + 1 + 1, 1, none⟩ = some (.int .i64 0) ∧ V.frozen? ⟨w.heap.size + 1 + 1, 1, none⟩ = false ∧ Below w.heap.size w V) ⟨by first | (simp [go_sem]; done), by first | (simp [go_sem]; done), by first | (simp [go_sem]; done), by first | (simp [go_sem]; done), by first | (simp [go_sem]; done), by first | (simp [go_sem]; done), by repeat (first | with_reducible exact Below.refl _ _ | with_reducible refine bl_alloc ?_ _ | with_reducible refine bl_drewN ?_ _ | with_reducible refine bl_drew ?_ | (with_reducible refine bl_set ?_ ?_ _; rotate_left; focus (first | (simp; done) | (simp; omega) | omega)) | with_reducible refine below_step ?_ (Bw.below _) | with_reducible refine below_step ?_ (by assumption))⟩ ?_
  rintro V ⟨hc1, hc2, hc3, fc3, hc4, fc4, hWc⟩ gc
  have c1 := Bw.hold hc1
  have c2 := Bw.hold hc2
  have c3 := Bw.hold hc3
  have cf3 := Bw.free hc3 fc3
  have c4 := Bw.hold hc4
  have cf4 := Bw.free hc4 fc4
  have cz1 := fun g : Bw V => cell_lt (c1 g)
  have cy1 := fun g : Bw V => Nat.le_of_lt (cz1 g)
  have cz3 := fun g : Bw V => cell_lt (c3 g)
  have cy3 := fun g : Bw V => Nat.le_of_lt (cz3 g)
  clear hc1 hc2 hc3 fc3 hc4 fc4
  refine (ML.out _).mono ?_
  rintro e_g2 w_g2 ⟨rfl, hb_g2⟩
  obtain ⟨g2, rfl⟩ := gc.next hb_g2
  clear hb_g2
  go_wp2_with fail
  refine calls_start (fun V2 => V2.cell? ⟨w.heap.size, 0, none⟩ = some (.int .i64 ma) ∧ V2.cell? ⟨w.heap.size, 1, none⟩ = some (.int .i64 mb) ∧ V2.cell? ⟨w.heap.size + 1 + 1, 0, none⟩ = some (.int .i64 0) ∧ V2.frozen? ⟨w.heap.size + 1 + 1, 0, none⟩ = false ∧ V2.cell? ⟨w.heap.size + 1 + 1, 1, none⟩ = some (.int .i64 0) ∧ V2.frozen? ⟨w.heap.size + 1 + 1, 1, none⟩ = false ∧ V2.cell? ⟨g2.out.heap.size, 0, none⟩ = some (.int .i64 pa) ∧ V2.cell? ⟨g2.out.heap.size, 1, none⟩ = some (.int .i64 pb) ∧ Below w.heap.size w V2) ⟨by first | (simp [go_sem]; done) | with_reducible exact hold_al c1 _ _ | with_reducible exact hold_al c2 _ _ | with_reducible exact hold_al c3 _ _ | with_reducible exact hold_al c4 _ _ | (simp [go_sem, c1, c2, c3, cf3, c4, cf4, cz1, cy1, cz3, cy3]; done), by first | (simp [go_sem]; done) | with_reducible exact hold_al c1 _ _ | with_reducible exact hold_al c2 _ _ | with_reducible exact hold_al c3 _ _ | with_reducible exact hold_al c4 _ _ | (simp [go_sem, c1, c2, c3, cf3, c4, cf4, cz1, cy1, cz3, cy3]; done), by first | (simp [go_sem]; done) | with_reducible exact hold_al c1 _ _ | with_reducible exact hold_al c2 _ _ | with_reducible exact hold_al c3 _ _ | with_reducible exact hold_al c4 _ _ | (simp [go_sem, c1, c2, c3, cf3, c4, cf4, cz1, cy1, cz3, cy3]; done), by first | (simp [go_sem]; done) | with_reducible exact hold_alF c3 cf3 _ _ | with_reducible exact hold_alF c4 cf4 _ _ | (simp [go_sem, c1, c2, c3, cf3, c4, cf4, cz1, cy1, cz3, cy3]; done), by first | (simp [go_sem]; done) | with_reducible exact hold_al c1 _ _ | with_reducible exact hold_al c2 _ _ | with_reducible exact hold_al c3 _ _ | with_reducible exact hold_al c4 _ _ | (simp [go_sem, c1, c2, c3, cf3, c4, cf4, cz1, cy1, cz3, cy3]; done), by first | (simp [go_sem]; done) | with_reducible exact hold_alF c3 cf3 _ _ | with_reducible exact hold_alF c4 cf4 _ _ | (simp [go_sem, c1, c2, c3, cf3, c4, cf4, cz1, cy1, cz3, cy3]; done), by first | (simp [go_sem]; done) | with_reducible exact hold_al c1 _ _ | with_reducible exact hold_al c2 _ _ | with_reducible exact hold_al c3 _ _ | with_reducible exact hold_al c4 _ _ | (simp [go_sem, c1, c2, c3, cf3, c4, cf4, cz1, cy1, cz3, cy3]; done), by first | (simp [go_sem]; done) | with_reducible exact hold_al c1 _ _ | with_reducible exact hold_al c2 _ _ | with_reducible exact hold_al c3 _ _ | with_reducible exact hold_al c4 _ _ | (simp [go_sem, c1, c2, c3, cf3, c4, cf4, cz1, cy1, cz3, cy3]; done), by repeat (first | with_reducible exact Below.refl _ _ | with_reducible refine bl_alloc ?_ _ | with_reducible refine bl_drewN ?_ _ | with_reducible refine bl_drew ?_ | (with_reducible refine bl_set ?_ ?_ _; rotate_left; focus (first | (simp; done) | (simp; omega) | omega)) | with_reducible refine below_step ?_ (Bw.below _) | with_reducible refine below_step ?_ (by assumption))⟩ ?_
  rintro V2 ⟨hd1, hd2, hd3, fd3, hd4, fd4, hd5, hd6, hWd⟩ gd
  have d1 := Bw.hold hd1
  have d2 := Bw.hold hd2
  have d3 := Bw.hold hd3
  have df3 := Bw.free hd3 fd3
  have d4 := Bw.hold hd4
  have df4 := Bw.free hd4 fd4
  have d5 := Bw.hold hd5
  have d6 := Bw.hold hd6
  have dz1 := fun g : Bw V2 => cell_lt (d1 g)
  have dy1 := fun g : Bw V2 => Nat.le_of_lt (dz1 g)
  have dz3 := fun g : Bw V2 => cell_lt (d3 g)
  have dy3 := fun g : Bw V2 => Nat.le_of_lt (dz3 g)
  have dz5 := fun g : Bw V2 => cell_lt (d5 g)
  have dy5 := fun g : Bw V2 => Nat.le_of_lt (dz5 g)
  clear hd1 hd2 hd3 fd3 hd4 fd4 hd5 hd6
  clear c1 c2 c3 cf3 c4 cf4 cz1 cy1 cz3 cy3
  refine (AD.out _).mono ?_
  rintro e_g3 w_g3 ⟨rfl, hb_g3⟩
  obtain ⟨g3, rfl⟩ := gd.next hb_g3
  clear hb_g3
  go_wp2_with fail
  refine calls_start (fun V3 => V3.cell? ⟨w.heap.size, 0, none⟩ = some (.int .i64 ma) ∧ V3.cell? ⟨w.heap.size, 1, none⟩ = some (.int .i64 mb) ∧ V3.cell? ⟨w.heap.size + 1 + 1, 0, none⟩ = some (.int .i64 0) ∧ V3.frozen? ⟨w.heap.size + 1 + 1, 0, none⟩ = false ∧ V3.cell? ⟨w.heap.size + 1 + 1, 1, none⟩ = some (.int .i64 0) ∧ V3.frozen? ⟨w.heap.size + 1 + 1, 1, none⟩ = false ∧ V3.cell? ⟨g2.out.heap.size, 0, none⟩ = some (.int .i64 pa) ∧ V3.cell? ⟨g2.out.heap.size, 1, none⟩ = some (.int .i64 pb) ∧ V3.cell? ⟨g3.out.heap.size, 0, none⟩ = some (.int .i64 qa) ∧ V3.cell? ⟨g3.out.heap.size, 1, none⟩ = some (.int .i64 qb) ∧ Below w.heap.size w V3) ⟨by first | (simp [go_sem]; done) | with_reducible exact hold_al d1 _ _ | with_reducible exact hold_al d2 _ _ | with_reducible exact hold_al d3 _ _ | with_reducible exact hold_al d4 _ _ | with_reducible exact hold_al d5 _ _ | with_reducible exact hold_al d6 _ _ | (simp [go_sem, d1, d2, d3, df3, d4, df4, d5, d6, dz1, dy1, dz3, dy3, dz5, dy5]; done), by first | (simp [go_sem]; done) | with_reducible exact hold_al d1 _ _ | with_reducible exact hold_al d2 _ _ | with_reducible exact hold_al d3 _ _ | with_reducible exact hold_al d4 _ _ | with_reducible exact hold_al d5 _ _ | with_reducible exact hold_al d6 _ _ | (simp [go_sem, d1, d2, d3, df3, d4, df4, d5, d6, dz1, dy1, dz3, dy3, dz5, dy5]; done), by first | (simp [go_sem]; done) | with_reducible exact hold_al d1 _ _ | with_reducible exact hold_al d2 _ _ | with_reducible exact hold_al d3 _ _ | with_reducible exact hold_al d4 _ _ | with_reducible exact hold_al d5 _ _ | with_reducible exact hold_al d6 _ _ | (simp [go_sem, d1, d2, d3, df3, d4, df4, d5, d6, dz1, dy1, dz3, dy3, dz5, dy5]; done), by first | (simp [go_sem]; done) | with_reducible exact hold_alF d3 df3 _ _ | with_reducible exact hold_alF d4 df4 _ _ | (simp [go_sem, d1, d2, d3, df3, d4, df4, d5, d6, dz1, dy1, dz3, dy3, dz5, dy5]; done), by first | (simp [go_sem]; done) | with_reducible exact hold_al d1 _ _ | with_reducible exact hold_al d2 _ _ | with_reducible exact hold_al d3 _ _ | with_reducible exact hold_al d4 _ _ | with_reducible exact hold_al d5 _ _ | with_reducible exact hold_al d6 _ _ | (simp [go_sem, d1, d2, d3, df3, d4, df4, d5, d6, dz1, dy1, dz3, dy3, dz5, dy5]; done), by first | (simp [go_sem]; done) | with_reducible exact hold_alF d3 df3 _ _ | with_reducible exact hold_alF d4 df4 _ _ | (simp [go_sem, d1, d2, d3, df3, d4, df4, d5, d6, dz1, dy1, dz3, dy3, dz5, dy5]; done), by first | (simp [go_sem]; done) | with_reducible exact hold_al d1 _ _ | with_reducible exact hold_al d2 _ _ | with_reducible exact hold_al d3 _ _ | with_reducible exact hold_al d4 _ _ | with_reducible exact hold_al d5 _ _ | with_reducible exact hold_al d6 _ _ | (simp [go_sem, d1, d2, d3, df3, d4, df4, d5, d6, dz1, dy1, dz3, dy3, dz5, dy5]; done), by first | (simp [go_sem]; done) | with_reducible exact hold_al d1 _ _ | with_reducible exact hold_al d2 _ _ | with_reducible exact hold_al d3 _ _ | with_reducible exact hold_al d4 _ _ | with_reducible exact hold_al d5 _ _ | with_reducible exact hold_al d6 _ _ | (simp [go_sem, d1, d2, d3, df3, d4, df4, d5, d6, dz1, dy1, dz3, dy3, dz5, dy5]; done), by first | (simp [go_sem]; done) | with_reducible exact hold_al d1 _ _ | with_reducible exact hold_al d2 _ _ | with_reducible exact hold_al d3 _ _ | with_reducible exact hold_al d4 _ _ | with_reducible exact hold_al d5 _ _ | with_reducible exact hold_al d6 _ _ | (simp [go_sem, d1, d2, d3, df3, d4, df4, d5, d6, dz1, dy1, dz3, dy3, dz5, dy5]; done), by first | (simp [go_sem]; done) | with_reducible exact hold_al d1 _ _ | with_reducible exact hold_al d2 _ _ | with_reducible exact hold_al d3 _ _ | with_reducible exact hold_al d4 _ _ | with_reducible exact hold_al d5 _ _ | with_reducible exact hold_al d6 _ _ | (simp [go_sem, d1, d2, d3, df3, d4, df4, d5, d6, dz1, dy1, dz3, dy3, dz5, dy5]; done), by repeat (first | with_reducible exact Below.refl _ _ | with_reducible refine bl_alloc ?_ _ | with_reducible refine bl_drewN ?_ _ | with_reducible refine bl_drew ?_ | (with_reducible refine bl_set ?_ ?_ _; rotate_left; focus (first | (simp; done) | (simp; omega) | omega)) | with_reducible refine below_step ?_ (Bw.below _) | with_reducible refine below_step ?_ (by assumption))⟩ ?_
  rintro V3 ⟨hq1, hq2, hq3, fq3, hq4, fq4, hq5, hq6, hq7, hq8, hWq⟩ gq
  have q1 := Bw.hold hq1
  have q2 := Bw.hold hq2
  have q3 := Bw.hold hq3
  have qf3 := Bw.free hq3 fq3
  have q4 := Bw.hold hq4
  have qf4 := Bw.free hq4 fq4
  have q5 := Bw.hold hq5
  have q6 := Bw.hold hq6
  have q7 := Bw.hold hq7
  have q8 := Bw.hold hq8
  have qz1 := fun g : Bw V3 => cell_lt (q1 g)
  have qy1 := fun g : Bw V3 => Nat.le_of_lt (qz1 g)
  have qz3 := fun g : Bw V3 => cell_lt (q3 g)
  have qy3 := fun g : Bw V3 => Nat.le_of_lt (qz3 g)
  have qz5 := fun g : Bw V3 => cell_lt (q5 g)
  have qy5 := fun g : Bw V3 => Nat.le_of_lt (qz5 g)
  have qz7 := fun g : Bw V3 => cell_lt (q7 g)
  have qy7 := fun g : Bw V3 => Nat.le_of_lt (qz7 g)
  clear hq1 hq2 hq3 fq3 hq4 fq4 hq5 hq6 hq7 hq8
  clear d1 d2 d3 df3 d4 df4 d5 d6 dz1 dy1 dz3 dy3 dz5 dy5
  refine (SP.out _).mono ?_
  rintro e_g4 w_g4 ⟨rfl, hb_g4⟩
  obtain ⟨g4, rfl⟩ := gq.next hb_g4
  clear hb_g4
  go_wp2_with fail
  refine bodyPost_ret (v := .agg #[.int .i64 X, .int .i64 Y]) (by simp [results, Try.results42, go_sem, q3, q4, qz3]) rfl ⟨rfl, by repeat (first | with_reducible exact Below.refl _ _ | with_reducible refine bl_alloc ?_ _ | with_reducible refine bl_drewN ?_ _ | with_reducible refine bl_drew ?_ | (with_reducible refine bl_set ?_ ?_ _; rotate_left; focus (first | (simp; done) | (simp; omega) | omega)) | with_reducible refine below_step ?_ (Bw.below _) | with_reducible refine below_step ?_ (by assumption))⟩
end Go.Proofs.Ytccbcehpoohgpaa

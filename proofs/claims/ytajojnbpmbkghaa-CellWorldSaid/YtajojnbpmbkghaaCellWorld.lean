/- CellWorld: each point of the world's border has a cell of each size that may be, and whose base may be. No condition. -/
import Derived.Test.YtajojnbpmbkghaaClimb
namespace Go.Proofs.Ytajojnbpmbkghaa
open Go.RowKit
set_option linter.unusedSimpArgs false
set_option linter.unusedVariables false
/-- What is told of a point's cell: the cell, its base, that both may be. -/
theorem world_facts (X Y R : Int) (K : Nat) (hK : K < 13) (hR : R = 12 - (K : Int)) (x1 : 0 ≤ X) (x2 : X < 1073741824) (y1 : 0 ≤ Y) (y2 : Y < 1073741824) : ∃ za zb ba bb : Int,
    (∀ w : World, Calls Try.prog 28 #[.int .i64 X, .int .i64 Y, .int .i64 R] w fun e w' => e = .returned (.tuple #[.agg #[.int .i64 R, .int .i64 za, .int .i64 zb], .int .i64 0]) ∧ Below w.heap.size w w') ∧
    (∀ w : World, Calls Try.prog 14 #[.agg #[.int .i64 R, .int .i64 za, .int .i64 zb]] w fun e w' => e = .returned (.tuple #[.agg #[.int .i64 0, .int .i64 ba, .int .i64 bb], .int .i64 0]) ∧ Below w.heap.size w w') ∧
    (∀ w : World, Calls Try.prog 21 #[.agg #[.int .i64 R, .int .i64 za, .int .i64 zb]] w fun e w' => e = .returned (.bool true) ∧ Below w.heap.size w w') ∧
    (∀ w : World, Calls Try.prog 21 #[.agg #[.int .i64 0, .int .i64 ba, .int .i64 bb]] w fun e w' => e = .returned (.bool true) ∧ Below w.heap.size w w') := by
  have hok := near_ok X Y K hK x1 x2 y1 y2
  rw [← hR] at hok
  obtain ⟨⟨r1, r2⟩, hz, hb⟩ := okB_true hok
  have hn : R - 0 = ((12 - K : Nat) : Int) := by omega
  have h0 : okB 0 (zz (nearA X Y K) (nearB X Y K) (12 - K)).1 (zz (nearA X Y K) (nearB X Y K) (12 - K)).2 = true := by
    obtain ⟨z1, z2, z3, z4⟩ := zOk_true hz
    obtain ⟨b1, b2, b3, b4⟩ := zz_bd _ _ 1073741824 (by omega) z1 z2 z3 z4 (12 - K)
    unfold okB
    rw [show R.toNat = 12 - K by omega] at hb
    rw [show zOk (zz (nearA X Y K) (nearB X Y K) (12 - K)).1 (zz (nearA X Y K) (nearB X Y K) (12 - K)).2 = true from decide_eq_true ⟨b1, b2, b3, b4⟩]
    exact hb
  have U := cell_up R (nearA X Y K) (nearB X Y K) 0 (12 - K) hn (by omega) hok
  have O1 := cell_ok R (nearA X Y K) (nearB X Y K)
  rw [hok] at O1
  have O2 := cell_ok 0 (zz (nearA X Y K) (nearB X Y K) (12 - K)).1 (zz (nearA X Y K) (nearB X Y K) (12 - K)).2
  rw [h0] at O2
  exact ⟨_, _, _, _, cell_of X Y R K hK (by omega) (decide_eq_true ⟨x1, x2, y1, y2⟩), cell_base R _ _ _ _ _ _ U, O1, O2⟩
set_option maxRecDepth 100000 in
set_option maxHeartbeats 4000000 in
theorem cellworld_walk (x side r : Int) (hx : -9223372036854775808 ≤ x) (hx' : x ≤ 9223372036854775807) (hside : -9223372036854775808 ≤ side) (hside' : side ≤ 9223372036854775807) (hr : -9223372036854775808 ≤ r) (hr' : r ≤ 9223372036854775807) (w : World) : Calls Try.prog 11 #[.int .i64 x, .int .i64 side, .int .i64 r] w fun e w' => e = .returned (.bool true) ∧ Below w.heap.size w w' := by
  have PT := Lib.hid (law3_point x 0 hx hx' (by decide) (by decide))
  obtain ⟨K, hK, hr0⟩ := res_of r
  obtain ⟨t1, t2⟩ := tmod_bd r 13 (by omega)
  obtain ⟨R, hR⟩ : ∃ R : Int, R = 12 - (K : Int) := ⟨_, rfl⟩
  rw [← hR] at hr0
  obtain ⟨u1, u2⟩ := ptV_bd x
  generalize ptV x = X at *
  generalize ptV 0 = Y0 at *
  have hm : bits .and .i64 side 3 = side % 4 := i64_mask side 2 (by omega)
  rcases (show side % 4 = 0 ∨ side % 4 = 1 ∨ side % 4 = 2 ∨ side % 4 = 3 by omega) with h | h | h | h
  · rw [h] at hm
    obtain ⟨za, zb, ba, bb, F1, F2, F3, F4⟩ := world_facts X 0 R K hK hR (by omega) (by omega) (by omega) (by omega)
    have H1 := Lib.hid F1
    have H2 := Lib.hid F2
    have H3 := Lib.hid F3
    have H4 := Lib.hid F4
    clear F1 F2 F3 F4 h hR hK
    go_enter Try.func11, Try.ntmps11
    go_wp2_with fail
    refine (PT.out _).mono ?_
    rintro e w1 ⟨rfl, rfl⟩
    go_wp2_with fail
    refine calls_start (fun V => Below w.heap.size w V) (by repeat (first | with_reducible exact Below.refl _ _ | with_reducible refine bl_alloc ?_ _ | with_reducible refine bl_drewN ?_ _ | with_reducible refine bl_drew ?_ | (with_reducible refine bl_set ?_ ?_ _; rotate_left; focus (first | (simp; done) | (simp; omega) | omega)) | with_reducible refine below_step ?_ (Bw.below _) | with_reducible refine below_step ?_ (by assumption))) ?_
    rintro V hWc gc
    refine (H1.out _).mono ?_
    rintro e_g2 w_g2 ⟨rfl, hb_g2⟩
    obtain ⟨g2, rfl⟩ := gc.next hb_g2
    clear hb_g2
    go_wp2_with fail
    refine calls_start (fun V2 => V2.cell? ⟨g2.out.heap.size, 0, none⟩ = some (.int .i64 R) ∧ V2.cell? ⟨g2.out.heap.size, 1, none⟩ = some (.int .i64 za) ∧ V2.cell? ⟨g2.out.heap.size, 2, none⟩ = some (.int .i64 zb) ∧ Below w.heap.size w V2) ⟨by first | with_reducible assumption | (simp [go_sem]; done), by first | with_reducible assumption | (simp [go_sem]; done), by first | with_reducible assumption | (simp [go_sem]; done), by repeat (first | with_reducible exact Below.refl _ _ | with_reducible refine bl_alloc ?_ _ | with_reducible refine bl_drewN ?_ _ | with_reducible refine bl_drew ?_ | (with_reducible refine bl_set ?_ ?_ _; rotate_left; focus (first | (simp; done) | (simp; omega) | omega)) | with_reducible refine below_step ?_ (Bw.below _) | with_reducible refine below_step ?_ (by assumption))⟩ ?_
    rintro V2 ⟨hd1, hd2, hd3, hWd⟩ gd
    have d1 := Bw.hold hd1
    have d2 := Bw.hold hd2
    have d3 := Bw.hold hd3
    have dz1 := fun g : Bw V2 => cell_lt (d1 g)
    have dy1 := fun g : Bw V2 => Nat.le_of_lt (dz1 g)
    clear hd1 hd2 hd3
    refine (H2.out _).mono ?_
    rintro e_g3 w_g3 ⟨rfl, hb_g3⟩
    obtain ⟨g3, rfl⟩ := gd.next hb_g3
    clear hb_g3
    go_wp2_with fail
    refine calls_start (fun V3 => V3.cell? ⟨g2.out.heap.size, 0, none⟩ = some (.int .i64 R) ∧ V3.cell? ⟨g2.out.heap.size, 1, none⟩ = some (.int .i64 za) ∧ V3.cell? ⟨g2.out.heap.size, 2, none⟩ = some (.int .i64 zb) ∧ V3.cell? ⟨g3.out.heap.size, 0, none⟩ = some (.int .i64 0) ∧ V3.cell? ⟨g3.out.heap.size, 1, none⟩ = some (.int .i64 ba) ∧ V3.cell? ⟨g3.out.heap.size, 2, none⟩ = some (.int .i64 bb) ∧ Below w.heap.size w V3) ⟨by first | with_reducible assumption | (simp [go_sem]; done) | with_reducible exact hold_al d1 _ _ | with_reducible exact hold_al d2 _ _ | with_reducible exact hold_al d3 _ _ | (simp [go_sem, d1, d2, d3, dz1, dy1]; done), by first | with_reducible assumption | (simp [go_sem]; done) | with_reducible exact hold_al d1 _ _ | with_reducible exact hold_al d2 _ _ | with_reducible exact hold_al d3 _ _ | (simp [go_sem, d1, d2, d3, dz1, dy1]; done), by first | with_reducible assumption | (simp [go_sem]; done) | with_reducible exact hold_al d1 _ _ | with_reducible exact hold_al d2 _ _ | with_reducible exact hold_al d3 _ _ | (simp [go_sem, d1, d2, d3, dz1, dy1]; done), by first | with_reducible assumption | (simp [go_sem]; done) | with_reducible exact hold_al d1 _ _ | with_reducible exact hold_al d2 _ _ | with_reducible exact hold_al d3 _ _ | (simp [go_sem, d1, d2, d3, dz1, dy1]; done), by first | with_reducible assumption | (simp [go_sem]; done) | with_reducible exact hold_al d1 _ _ | with_reducible exact hold_al d2 _ _ | with_reducible exact hold_al d3 _ _ | (simp [go_sem, d1, d2, d3, dz1, dy1]; done), by first | with_reducible assumption | (simp [go_sem]; done) | with_reducible exact hold_al d1 _ _ | with_reducible exact hold_al d2 _ _ | with_reducible exact hold_al d3 _ _ | (simp [go_sem, d1, d2, d3, dz1, dy1]; done), by repeat (first | with_reducible exact Below.refl _ _ | with_reducible refine bl_alloc ?_ _ | with_reducible refine bl_drewN ?_ _ | with_reducible refine bl_drew ?_ | (with_reducible refine bl_set ?_ ?_ _; rotate_left; focus (first | (simp; done) | (simp; omega) | omega)) | with_reducible refine below_step ?_ (Bw.below _) | with_reducible refine below_step ?_ (by assumption))⟩ ?_
    rintro V3 ⟨hq1, hq2, hq3, hq4, hq5, hq6, hWq⟩ gq
    have q1 := Bw.hold hq1
    have q2 := Bw.hold hq2
    have q3 := Bw.hold hq3
    have q4 := Bw.hold hq4
    have q5 := Bw.hold hq5
    have q6 := Bw.hold hq6
    have qz1 := fun g : Bw V3 => cell_lt (q1 g)
    have qy1 := fun g : Bw V3 => Nat.le_of_lt (qz1 g)
    have qz4 := fun g : Bw V3 => cell_lt (q4 g)
    have qy4 := fun g : Bw V3 => Nat.le_of_lt (qz4 g)
    clear hq1 hq2 hq3 hq4 hq5 hq6
    clear d1 d2 d3 dz1 dy1
    refine (H3.out _).mono ?_
    rintro e_g4 w_g4 ⟨rfl, hb_g4⟩
    obtain ⟨g4, rfl⟩ := gq.next hb_g4
    clear hb_g4
    go_wp2_with fail
    refine (H4.out _).mono ?_
    rintro e_g5 w_g5 ⟨rfl, hb_g5⟩
    obtain ⟨g5, rfl⟩ := g4.next hb_g5
    clear hb_g5
    go_wp2_with fail
    refine (awake4 _).mono ?_
    rintro e_g6 w_g6 ⟨rfl, hb_g6⟩
    obtain ⟨g6, rfl⟩ := g5.next hb_g6
    clear hb_g6
    go_wp2_with fail
    go_ret
    exact ⟨rfl, by repeat (first | with_reducible exact Below.refl _ _ | with_reducible refine bl_alloc ?_ _ | with_reducible refine bl_drewN ?_ _ | with_reducible refine bl_drew ?_ | (with_reducible refine bl_set ?_ ?_ _; rotate_left; focus (first | (simp; done) | (simp; omega) | omega)) | with_reducible refine below_step ?_ (Bw.below _) | with_reducible refine below_step ?_ (by assumption))⟩
  · rw [h] at hm
    obtain ⟨za, zb, ba, bb, F1, F2, F3, F4⟩ := world_facts X 1073741823 R K hK hR (by omega) (by omega) (by omega) (by omega)
    have H1 := Lib.hid F1
    have H2 := Lib.hid F2
    have H3 := Lib.hid F3
    have H4 := Lib.hid F4
    clear F1 F2 F3 F4 h hR hK
    go_enter Try.func11, Try.ntmps11
    go_wp2_with fail
    refine (PT.out _).mono ?_
    rintro e w1 ⟨rfl, rfl⟩
    go_wp2_with fail
    refine calls_start (fun V => Below w.heap.size w V) (by repeat (first | with_reducible exact Below.refl _ _ | with_reducible refine bl_alloc ?_ _ | with_reducible refine bl_drewN ?_ _ | with_reducible refine bl_drew ?_ | (with_reducible refine bl_set ?_ ?_ _; rotate_left; focus (first | (simp; done) | (simp; omega) | omega)) | with_reducible refine below_step ?_ (Bw.below _) | with_reducible refine below_step ?_ (by assumption))) ?_
    rintro V hWc gc
    refine (H1.out _).mono ?_
    rintro e_g2 w_g2 ⟨rfl, hb_g2⟩
    obtain ⟨g2, rfl⟩ := gc.next hb_g2
    clear hb_g2
    go_wp2_with fail
    refine calls_start (fun V2 => V2.cell? ⟨g2.out.heap.size, 0, none⟩ = some (.int .i64 R) ∧ V2.cell? ⟨g2.out.heap.size, 1, none⟩ = some (.int .i64 za) ∧ V2.cell? ⟨g2.out.heap.size, 2, none⟩ = some (.int .i64 zb) ∧ Below w.heap.size w V2) ⟨by first | with_reducible assumption | (simp [go_sem]; done), by first | with_reducible assumption | (simp [go_sem]; done), by first | with_reducible assumption | (simp [go_sem]; done), by repeat (first | with_reducible exact Below.refl _ _ | with_reducible refine bl_alloc ?_ _ | with_reducible refine bl_drewN ?_ _ | with_reducible refine bl_drew ?_ | (with_reducible refine bl_set ?_ ?_ _; rotate_left; focus (first | (simp; done) | (simp; omega) | omega)) | with_reducible refine below_step ?_ (Bw.below _) | with_reducible refine below_step ?_ (by assumption))⟩ ?_
    rintro V2 ⟨hd1, hd2, hd3, hWd⟩ gd
    have d1 := Bw.hold hd1
    have d2 := Bw.hold hd2
    have d3 := Bw.hold hd3
    have dz1 := fun g : Bw V2 => cell_lt (d1 g)
    have dy1 := fun g : Bw V2 => Nat.le_of_lt (dz1 g)
    clear hd1 hd2 hd3
    refine (H2.out _).mono ?_
    rintro e_g3 w_g3 ⟨rfl, hb_g3⟩
    obtain ⟨g3, rfl⟩ := gd.next hb_g3
    clear hb_g3
    go_wp2_with fail
    refine calls_start (fun V3 => V3.cell? ⟨g2.out.heap.size, 0, none⟩ = some (.int .i64 R) ∧ V3.cell? ⟨g2.out.heap.size, 1, none⟩ = some (.int .i64 za) ∧ V3.cell? ⟨g2.out.heap.size, 2, none⟩ = some (.int .i64 zb) ∧ V3.cell? ⟨g3.out.heap.size, 0, none⟩ = some (.int .i64 0) ∧ V3.cell? ⟨g3.out.heap.size, 1, none⟩ = some (.int .i64 ba) ∧ V3.cell? ⟨g3.out.heap.size, 2, none⟩ = some (.int .i64 bb) ∧ Below w.heap.size w V3) ⟨by first | with_reducible assumption | (simp [go_sem]; done) | with_reducible exact hold_al d1 _ _ | with_reducible exact hold_al d2 _ _ | with_reducible exact hold_al d3 _ _ | (simp [go_sem, d1, d2, d3, dz1, dy1]; done), by first | with_reducible assumption | (simp [go_sem]; done) | with_reducible exact hold_al d1 _ _ | with_reducible exact hold_al d2 _ _ | with_reducible exact hold_al d3 _ _ | (simp [go_sem, d1, d2, d3, dz1, dy1]; done), by first | with_reducible assumption | (simp [go_sem]; done) | with_reducible exact hold_al d1 _ _ | with_reducible exact hold_al d2 _ _ | with_reducible exact hold_al d3 _ _ | (simp [go_sem, d1, d2, d3, dz1, dy1]; done), by first | with_reducible assumption | (simp [go_sem]; done) | with_reducible exact hold_al d1 _ _ | with_reducible exact hold_al d2 _ _ | with_reducible exact hold_al d3 _ _ | (simp [go_sem, d1, d2, d3, dz1, dy1]; done), by first | with_reducible assumption | (simp [go_sem]; done) | with_reducible exact hold_al d1 _ _ | with_reducible exact hold_al d2 _ _ | with_reducible exact hold_al d3 _ _ | (simp [go_sem, d1, d2, d3, dz1, dy1]; done), by first | with_reducible assumption | (simp [go_sem]; done) | with_reducible exact hold_al d1 _ _ | with_reducible exact hold_al d2 _ _ | with_reducible exact hold_al d3 _ _ | (simp [go_sem, d1, d2, d3, dz1, dy1]; done), by repeat (first | with_reducible exact Below.refl _ _ | with_reducible refine bl_alloc ?_ _ | with_reducible refine bl_drewN ?_ _ | with_reducible refine bl_drew ?_ | (with_reducible refine bl_set ?_ ?_ _; rotate_left; focus (first | (simp; done) | (simp; omega) | omega)) | with_reducible refine below_step ?_ (Bw.below _) | with_reducible refine below_step ?_ (by assumption))⟩ ?_
    rintro V3 ⟨hq1, hq2, hq3, hq4, hq5, hq6, hWq⟩ gq
    have q1 := Bw.hold hq1
    have q2 := Bw.hold hq2
    have q3 := Bw.hold hq3
    have q4 := Bw.hold hq4
    have q5 := Bw.hold hq5
    have q6 := Bw.hold hq6
    have qz1 := fun g : Bw V3 => cell_lt (q1 g)
    have qy1 := fun g : Bw V3 => Nat.le_of_lt (qz1 g)
    have qz4 := fun g : Bw V3 => cell_lt (q4 g)
    have qy4 := fun g : Bw V3 => Nat.le_of_lt (qz4 g)
    clear hq1 hq2 hq3 hq4 hq5 hq6
    clear d1 d2 d3 dz1 dy1
    refine (H3.out _).mono ?_
    rintro e_g4 w_g4 ⟨rfl, hb_g4⟩
    obtain ⟨g4, rfl⟩ := gq.next hb_g4
    clear hb_g4
    go_wp2_with fail
    refine (H4.out _).mono ?_
    rintro e_g5 w_g5 ⟨rfl, hb_g5⟩
    obtain ⟨g5, rfl⟩ := g4.next hb_g5
    clear hb_g5
    go_wp2_with fail
    refine (awake4 _).mono ?_
    rintro e_g6 w_g6 ⟨rfl, hb_g6⟩
    obtain ⟨g6, rfl⟩ := g5.next hb_g6
    clear hb_g6
    go_wp2_with fail
    go_ret
    exact ⟨rfl, by repeat (first | with_reducible exact Below.refl _ _ | with_reducible refine bl_alloc ?_ _ | with_reducible refine bl_drewN ?_ _ | with_reducible refine bl_drew ?_ | (with_reducible refine bl_set ?_ ?_ _; rotate_left; focus (first | (simp; done) | (simp; omega) | omega)) | with_reducible refine below_step ?_ (Bw.below _) | with_reducible refine below_step ?_ (by assumption))⟩
  · rw [h] at hm
    obtain ⟨za, zb, ba, bb, F1, F2, F3, F4⟩ := world_facts 0 X R K hK hR (by omega) (by omega) (by omega) (by omega)
    have H1 := Lib.hid F1
    have H2 := Lib.hid F2
    have H3 := Lib.hid F3
    have H4 := Lib.hid F4
    clear F1 F2 F3 F4 h hR hK
    go_enter Try.func11, Try.ntmps11
    go_wp2_with fail
    refine (PT.out _).mono ?_
    rintro e w1 ⟨rfl, rfl⟩
    go_wp2_with fail
    refine calls_start (fun V => Below w.heap.size w V) (by repeat (first | with_reducible exact Below.refl _ _ | with_reducible refine bl_alloc ?_ _ | with_reducible refine bl_drewN ?_ _ | with_reducible refine bl_drew ?_ | (with_reducible refine bl_set ?_ ?_ _; rotate_left; focus (first | (simp; done) | (simp; omega) | omega)) | with_reducible refine below_step ?_ (Bw.below _) | with_reducible refine below_step ?_ (by assumption))) ?_
    rintro V hWc gc
    refine (H1.out _).mono ?_
    rintro e_g2 w_g2 ⟨rfl, hb_g2⟩
    obtain ⟨g2, rfl⟩ := gc.next hb_g2
    clear hb_g2
    go_wp2_with fail
    refine calls_start (fun V2 => V2.cell? ⟨g2.out.heap.size, 0, none⟩ = some (.int .i64 R) ∧ V2.cell? ⟨g2.out.heap.size, 1, none⟩ = some (.int .i64 za) ∧ V2.cell? ⟨g2.out.heap.size, 2, none⟩ = some (.int .i64 zb) ∧ Below w.heap.size w V2) ⟨by first | with_reducible assumption | (simp [go_sem]; done), by first | with_reducible assumption | (simp [go_sem]; done), by first | with_reducible assumption | (simp [go_sem]; done), by repeat (first | with_reducible exact Below.refl _ _ | with_reducible refine bl_alloc ?_ _ | with_reducible refine bl_drewN ?_ _ | with_reducible refine bl_drew ?_ | (with_reducible refine bl_set ?_ ?_ _; rotate_left; focus (first | (simp; done) | (simp; omega) | omega)) | with_reducible refine below_step ?_ (Bw.below _) | with_reducible refine below_step ?_ (by assumption))⟩ ?_
    rintro V2 ⟨hd1, hd2, hd3, hWd⟩ gd
    have d1 := Bw.hold hd1
    have d2 := Bw.hold hd2
    have d3 := Bw.hold hd3
    have dz1 := fun g : Bw V2 => cell_lt (d1 g)
    have dy1 := fun g : Bw V2 => Nat.le_of_lt (dz1 g)
    clear hd1 hd2 hd3
    refine (H2.out _).mono ?_
    rintro e_g3 w_g3 ⟨rfl, hb_g3⟩
    obtain ⟨g3, rfl⟩ := gd.next hb_g3
    clear hb_g3
    go_wp2_with fail
    refine calls_start (fun V3 => V3.cell? ⟨g2.out.heap.size, 0, none⟩ = some (.int .i64 R) ∧ V3.cell? ⟨g2.out.heap.size, 1, none⟩ = some (.int .i64 za) ∧ V3.cell? ⟨g2.out.heap.size, 2, none⟩ = some (.int .i64 zb) ∧ V3.cell? ⟨g3.out.heap.size, 0, none⟩ = some (.int .i64 0) ∧ V3.cell? ⟨g3.out.heap.size, 1, none⟩ = some (.int .i64 ba) ∧ V3.cell? ⟨g3.out.heap.size, 2, none⟩ = some (.int .i64 bb) ∧ Below w.heap.size w V3) ⟨by first | with_reducible assumption | (simp [go_sem]; done) | with_reducible exact hold_al d1 _ _ | with_reducible exact hold_al d2 _ _ | with_reducible exact hold_al d3 _ _ | (simp [go_sem, d1, d2, d3, dz1, dy1]; done), by first | with_reducible assumption | (simp [go_sem]; done) | with_reducible exact hold_al d1 _ _ | with_reducible exact hold_al d2 _ _ | with_reducible exact hold_al d3 _ _ | (simp [go_sem, d1, d2, d3, dz1, dy1]; done), by first | with_reducible assumption | (simp [go_sem]; done) | with_reducible exact hold_al d1 _ _ | with_reducible exact hold_al d2 _ _ | with_reducible exact hold_al d3 _ _ | (simp [go_sem, d1, d2, d3, dz1, dy1]; done), by first | with_reducible assumption | (simp [go_sem]; done) | with_reducible exact hold_al d1 _ _ | with_reducible exact hold_al d2 _ _ | with_reducible exact hold_al d3 _ _ | (simp [go_sem, d1, d2, d3, dz1, dy1]; done), by first | with_reducible assumption | (simp [go_sem]; done) | with_reducible exact hold_al d1 _ _ | with_reducible exact hold_al d2 _ _ | with_reducible exact hold_al d3 _ _ | (simp [go_sem, d1, d2, d3, dz1, dy1]; done), by first | with_reducible assumption | (simp [go_sem]; done) | with_reducible exact hold_al d1 _ _ | with_reducible exact hold_al d2 _ _ | with_reducible exact hold_al d3 _ _ | (simp [go_sem, d1, d2, d3, dz1, dy1]; done), by repeat (first | with_reducible exact Below.refl _ _ | with_reducible refine bl_alloc ?_ _ | with_reducible refine bl_drewN ?_ _ | with_reducible refine bl_drew ?_ | (with_reducible refine bl_set ?_ ?_ _; rotate_left; focus (first | (simp; done) | (simp; omega) | omega)) | with_reducible refine below_step ?_ (Bw.below _) | with_reducible refine below_step ?_ (by assumption))⟩ ?_
    rintro V3 ⟨hq1, hq2, hq3, hq4, hq5, hq6, hWq⟩ gq
    have q1 := Bw.hold hq1
    have q2 := Bw.hold hq2
    have q3 := Bw.hold hq3
    have q4 := Bw.hold hq4
    have q5 := Bw.hold hq5
    have q6 := Bw.hold hq6
    have qz1 := fun g : Bw V3 => cell_lt (q1 g)
    have qy1 := fun g : Bw V3 => Nat.le_of_lt (qz1 g)
    have qz4 := fun g : Bw V3 => cell_lt (q4 g)
    have qy4 := fun g : Bw V3 => Nat.le_of_lt (qz4 g)
    clear hq1 hq2 hq3 hq4 hq5 hq6
    clear d1 d2 d3 dz1 dy1
    refine (H3.out _).mono ?_
    rintro e_g4 w_g4 ⟨rfl, hb_g4⟩
    obtain ⟨g4, rfl⟩ := gq.next hb_g4
    clear hb_g4
    go_wp2_with fail
    refine (H4.out _).mono ?_
    rintro e_g5 w_g5 ⟨rfl, hb_g5⟩
    obtain ⟨g5, rfl⟩ := g4.next hb_g5
    clear hb_g5
    go_wp2_with fail
    refine (awake4 _).mono ?_
    rintro e_g6 w_g6 ⟨rfl, hb_g6⟩
    obtain ⟨g6, rfl⟩ := g5.next hb_g6
    clear hb_g6
    go_wp2_with fail
    go_ret
    exact ⟨rfl, by repeat (first | with_reducible exact Below.refl _ _ | with_reducible refine bl_alloc ?_ _ | with_reducible refine bl_drewN ?_ _ | with_reducible refine bl_drew ?_ | (with_reducible refine bl_set ?_ ?_ _; rotate_left; focus (first | (simp; done) | (simp; omega) | omega)) | with_reducible refine below_step ?_ (Bw.below _) | with_reducible refine below_step ?_ (by assumption))⟩
  · rw [h] at hm
    obtain ⟨za, zb, ba, bb, F1, F2, F3, F4⟩ := world_facts 1073741823 X R K hK hR (by omega) (by omega) (by omega) (by omega)
    have H1 := Lib.hid F1
    have H2 := Lib.hid F2
    have H3 := Lib.hid F3
    have H4 := Lib.hid F4
    clear F1 F2 F3 F4 h hR hK
    go_enter Try.func11, Try.ntmps11
    go_wp2_with fail
    refine (PT.out _).mono ?_
    rintro e w1 ⟨rfl, rfl⟩
    go_wp2_with fail
    refine calls_start (fun V => Below w.heap.size w V) (by repeat (first | with_reducible exact Below.refl _ _ | with_reducible refine bl_alloc ?_ _ | with_reducible refine bl_drewN ?_ _ | with_reducible refine bl_drew ?_ | (with_reducible refine bl_set ?_ ?_ _; rotate_left; focus (first | (simp; done) | (simp; omega) | omega)) | with_reducible refine below_step ?_ (Bw.below _) | with_reducible refine below_step ?_ (by assumption))) ?_
    rintro V hWc gc
    refine (H1.out _).mono ?_
    rintro e_g2 w_g2 ⟨rfl, hb_g2⟩
    obtain ⟨g2, rfl⟩ := gc.next hb_g2
    clear hb_g2
    go_wp2_with fail
    refine calls_start (fun V2 => V2.cell? ⟨g2.out.heap.size, 0, none⟩ = some (.int .i64 R) ∧ V2.cell? ⟨g2.out.heap.size, 1, none⟩ = some (.int .i64 za) ∧ V2.cell? ⟨g2.out.heap.size, 2, none⟩ = some (.int .i64 zb) ∧ Below w.heap.size w V2) ⟨by first | with_reducible assumption | (simp [go_sem]; done), by first | with_reducible assumption | (simp [go_sem]; done), by first | with_reducible assumption | (simp [go_sem]; done), by repeat (first | with_reducible exact Below.refl _ _ | with_reducible refine bl_alloc ?_ _ | with_reducible refine bl_drewN ?_ _ | with_reducible refine bl_drew ?_ | (with_reducible refine bl_set ?_ ?_ _; rotate_left; focus (first | (simp; done) | (simp; omega) | omega)) | with_reducible refine below_step ?_ (Bw.below _) | with_reducible refine below_step ?_ (by assumption))⟩ ?_
    rintro V2 ⟨hd1, hd2, hd3, hWd⟩ gd
    have d1 := Bw.hold hd1
    have d2 := Bw.hold hd2
    have d3 := Bw.hold hd3
    have dz1 := fun g : Bw V2 => cell_lt (d1 g)
    have dy1 := fun g : Bw V2 => Nat.le_of_lt (dz1 g)
    clear hd1 hd2 hd3
    refine (H2.out _).mono ?_
    rintro e_g3 w_g3 ⟨rfl, hb_g3⟩
    obtain ⟨g3, rfl⟩ := gd.next hb_g3
    clear hb_g3
    go_wp2_with fail
    refine calls_start (fun V3 => V3.cell? ⟨g2.out.heap.size, 0, none⟩ = some (.int .i64 R) ∧ V3.cell? ⟨g2.out.heap.size, 1, none⟩ = some (.int .i64 za) ∧ V3.cell? ⟨g2.out.heap.size, 2, none⟩ = some (.int .i64 zb) ∧ V3.cell? ⟨g3.out.heap.size, 0, none⟩ = some (.int .i64 0) ∧ V3.cell? ⟨g3.out.heap.size, 1, none⟩ = some (.int .i64 ba) ∧ V3.cell? ⟨g3.out.heap.size, 2, none⟩ = some (.int .i64 bb) ∧ Below w.heap.size w V3) ⟨by first | with_reducible assumption | (simp [go_sem]; done) | with_reducible exact hold_al d1 _ _ | with_reducible exact hold_al d2 _ _ | with_reducible exact hold_al d3 _ _ | (simp [go_sem, d1, d2, d3, dz1, dy1]; done), by first | with_reducible assumption | (simp [go_sem]; done) | with_reducible exact hold_al d1 _ _ | with_reducible exact hold_al d2 _ _ | with_reducible exact hold_al d3 _ _ | (simp [go_sem, d1, d2, d3, dz1, dy1]; done), by first | with_reducible assumption | (simp [go_sem]; done) | with_reducible exact hold_al d1 _ _ | with_reducible exact hold_al d2 _ _ | with_reducible exact hold_al d3 _ _ | (simp [go_sem, d1, d2, d3, dz1, dy1]; done), by first | with_reducible assumption | (simp [go_sem]; done) | with_reducible exact hold_al d1 _ _ | with_reducible exact hold_al d2 _ _ | with_reducible exact hold_al d3 _ _ | (simp [go_sem, d1, d2, d3, dz1, dy1]; done), by first | with_reducible assumption | (simp [go_sem]; done) | with_reducible exact hold_al d1 _ _ | with_reducible exact hold_al d2 _ _ | with_reducible exact hold_al d3 _ _ | (simp [go_sem, d1, d2, d3, dz1, dy1]; done), by first | with_reducible assumption | (simp [go_sem]; done) | with_reducible exact hold_al d1 _ _ | with_reducible exact hold_al d2 _ _ | with_reducible exact hold_al d3 _ _ | (simp [go_sem, d1, d2, d3, dz1, dy1]; done), by repeat (first | with_reducible exact Below.refl _ _ | with_reducible refine bl_alloc ?_ _ | with_reducible refine bl_drewN ?_ _ | with_reducible refine bl_drew ?_ | (with_reducible refine bl_set ?_ ?_ _; rotate_left; focus (first | (simp; done) | (simp; omega) | omega)) | with_reducible refine below_step ?_ (Bw.below _) | with_reducible refine below_step ?_ (by assumption))⟩ ?_
    rintro V3 ⟨hq1, hq2, hq3, hq4, hq5, hq6, hWq⟩ gq
    have q1 := Bw.hold hq1
    have q2 := Bw.hold hq2
    have q3 := Bw.hold hq3
    have q4 := Bw.hold hq4
    have q5 := Bw.hold hq5
    have q6 := Bw.hold hq6
    have qz1 := fun g : Bw V3 => cell_lt (q1 g)
    have qy1 := fun g : Bw V3 => Nat.le_of_lt (qz1 g)
    have qz4 := fun g : Bw V3 => cell_lt (q4 g)
    have qy4 := fun g : Bw V3 => Nat.le_of_lt (qz4 g)
    clear hq1 hq2 hq3 hq4 hq5 hq6
    clear d1 d2 d3 dz1 dy1
    refine (H3.out _).mono ?_
    rintro e_g4 w_g4 ⟨rfl, hb_g4⟩
    obtain ⟨g4, rfl⟩ := gq.next hb_g4
    clear hb_g4
    go_wp2_with fail
    refine (H4.out _).mono ?_
    rintro e_g5 w_g5 ⟨rfl, hb_g5⟩
    obtain ⟨g5, rfl⟩ := g4.next hb_g5
    clear hb_g5
    go_wp2_with fail
    refine (awake4 _).mono ?_
    rintro e_g6 w_g6 ⟨rfl, hb_g6⟩
    obtain ⟨g6, rfl⟩ := g5.next hb_g6
    clear hb_g6
    go_wp2_with fail
    go_ret
    exact ⟨rfl, by repeat (first | with_reducible exact Below.refl _ _ | with_reducible refine bl_alloc ?_ _ | with_reducible refine bl_drewN ?_ _ | with_reducible refine bl_drew ?_ | (with_reducible refine bl_set ?_ ?_ _; rotate_left; focus (first | (simp; done) | (simp; omega) | omega)) | with_reducible refine below_step ?_ (Bw.below _) | with_reducible refine below_step ?_ (by assumption))⟩
/-! THE STATEMENT CellWorld -/
section
open Go.ChangeShapes Go.WideShapes Go.ChangeAt Go.RowKit Go.Joins
set_option linter.unusedVariables false
set_option maxRecDepth 100000 in
theorem cellWorld_lifted (os : Os) (started : os.Started) (H : Type) (enc : TypeId × Value → H) :
    ReturnsInHanded {} Try.checked os 11 .any (Rows.cellWorldSpec.pre6 enc Try.prog Try.f11 Rows.cellWorldRow.domain false) (Rows.cellWorldSpec.post enc Try.prog Try.f11 false true false false) := by
  refine returnsInHanded_of_change (C := Try.checked) (show ownKnob Try.prog.godebug = none by kernel_rfl) started (by kernel_rfl) Try.func11
    (ChangeSpec.witness6 (enc := enc) (C := Try.checked) false ⟨#[], #[.int .i64 0, .int .i64 0, .int .i64 0], []⟩ 8 (by kernel_rfl) (by kernel_rfl) (by kernel_rfl) (by kernel_rfl)) ?_
  intro W base args ds gs before hval0 hW hcnd _
  have hval : ∀ (j : Nat) t v, Try.f11.params[j]? = some t → args[j]? = some v → Value.okWide Try.prog W .any base t v := hval0
  have hW' := hW
  obtain ⟨p, q, hA0, hV, rfl, hfz, hnd⟩ := hW
  have hA : DataW.TrodAll enc Try.prog W 0 (fun _ => true) true Try.f11.params.toList args.toList ds p := hA0
  rw [Try.params11] at hA hval
  obtain ⟨v0, vs0, d0, ds0, p0, q0, hargs, rfl, rfl, h0, r0⟩ := trodAll_cons hA
  obtain ⟨v1, vs1, d1, ds1, p1, q1, rfl, rfl, rfl, h1, r1⟩ := trodAll_cons r0
  obtain ⟨v2, vs2, d2, ds2, p2, q2, rfl, rfl, rfl, h2, r2⟩ := trodAll_cons r1
  obtain ⟨rfl, rfl, rfl⟩ := trodAll_nil r2
  obtain rfl : args = #[v0, v1, v2] := by cases args; simp_all
  obtain ⟨rfl, rfl⟩ := trodVars_none hV
  obtain ⟨x, rfl, rfl, rfl, wf_x⟩ := open_int Try.underlying2 (hval 0 2 v0 rfl rfl) h0
  obtain ⟨side, rfl, rfl, rfl, wf_side⟩ := open_int Try.underlying3 (hval 1 3 v1 rfl rfl) h1
  obtain ⟨r, rfl, rfl, rfl, wf_r⟩ := open_int Try.underlying3 (hval 2 3 v2 rfl rfl) h2
  clear hA0 hval0
  simp only [List.append_nil] at hW'
  refine (cellworld_walk x side r (wf_i64 wf_x).1 (wf_i64 wf_x).2 (wf_i64 wf_side).1 (wf_i64 wf_side).2 (wf_i64 wf_r).1 (wf_i64 wf_r).2 W).mono fun e W' ⟨he, hb⟩ => ?_
  subst he
  exact ⟨_, rfl, post_of_below (pa := []) (pv := []) hW' (fun _ _ _ => (trodAll_cons_mk (shut_bool Try.underlying4 _) trodAll_mk0)) (fun sp _ => (trodAll_cons_mk (shut_int Try.underlying2 wf_x) (trodAll_cons_mk (shut_int Try.underlying3 wf_side) (trodAll_cons_mk (shut_int Try.underlying3 wf_r) trodAll_mk0)))) (fun _ _ => rfl) rfl hb
    (ok_one (by kernel_rfl) rfl (okWide_bool_mk Try.underlying4 _))⟩
theorem cellWorld_holds : Rows.CellWorldSaid :=
  OpenClaim.holds_of_wide 11 Try.f11 rfl rfl rfl rfl rfl rfl rfl ⟨rfl, rfl, rfl, rfl, rfl⟩ rfl rfl rfl rfl rfl (by kernel_rfl) Try.func11 (by kernel_rfl)
    (of_decide_eq_true (by kernel_rfl)) (by unfold Func.isWrapper; first | (rw [if_pos (by decide +kernel)]; kernel_rfl) | (rw [if_neg (by decide +kernel)]; exact ⟨rfl, rfl⟩))
    (fun os started H enc _ => cellWorld_lifted os started H enc)
end
#print axioms cellWorld_holds
end Go.Proofs.Ytajojnbpmbkghaa

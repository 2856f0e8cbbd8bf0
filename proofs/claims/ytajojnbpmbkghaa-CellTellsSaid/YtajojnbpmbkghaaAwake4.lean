/- The walks of the law's awake and of cell's Of. -/
import Derived.Test.YtajojnbpmbkghaaBaseLaw
namespace Go.Proofs.Ytajojnbpmbkghaa
open Go.RowKit
set_option linter.unusedSimpArgs false
set_option linter.unusedVariables false
set_option maxRecDepth 100000 in
set_option maxHeartbeats 1000000 in
theorem awake4 (w : World) : Calls Try.prog 15 #[] w fun e w' => e = .returned (.bool true) ∧ Below w.heap.size w w' := by
  have P1 := cell_parent 12 2 1 (by kernel_rfl) (by decide)
  rw [show upA 2 1 = 1 by kernel_rfl, show upB 2 1 = 0 by kernel_rfl, show (12 : Int) - 1 = 11 by decide] at P1
  have P2 := cell_parent_top 0 0 (by kernel_rfl)
  have DG := cell_Digit 11 1 0
  rw [show digV 11 1 0 = 1 by kernel_rfl] at DG
  have H1 := Lib.hid P1
  have H2 := Lib.hid P2
  have H3 := Lib.hid DG
  clear P1 P2 DG
  go_enter Try.func15, Try.ntmps15
  go_wp2_with fail
  refine calls_start (fun V => Below w.heap.size w V) (by repeat (first | with_reducible exact Below.refl _ _ | with_reducible refine bl_alloc ?_ _ | with_reducible refine bl_drewN ?_ _ | with_reducible refine bl_drew ?_ | (with_reducible refine bl_set ?_ ?_ _; rotate_left; focus (first | (simp; done) | (simp; omega) | omega)) | with_reducible refine below_step ?_ (Bw.below _) | with_reducible refine below_step ?_ (by assumption))) ?_
  rintro V hWc gc
  refine (H1.out _).mono ?_
  rintro e_g2 w_g2 ⟨rfl, hb_g2⟩
  obtain ⟨g2, rfl⟩ := gc.next hb_g2
  clear hb_g2
  go_wp2_with fail
  refine calls_start (fun V2 => V2.cell? ⟨g2.out.heap.size, 0, none⟩ = some (.int .i64 11) ∧ V2.cell? ⟨g2.out.heap.size, 1, none⟩ = some (.int .i64 1) ∧ V2.cell? ⟨g2.out.heap.size, 2, none⟩ = some (.int .i64 0) ∧ Below w.heap.size w V2) ⟨by first | with_reducible assumption | (simp [go_sem]; done), by first | with_reducible assumption | (simp [go_sem]; done), by first | with_reducible assumption | (simp [go_sem]; done), by repeat (first | with_reducible exact Below.refl _ _ | with_reducible refine bl_alloc ?_ _ | with_reducible refine bl_drewN ?_ _ | with_reducible refine bl_drew ?_ | (with_reducible refine bl_set ?_ ?_ _; rotate_left; focus (first | (simp; done) | (simp; omega) | omega)) | with_reducible refine below_step ?_ (Bw.below _) | with_reducible refine below_step ?_ (by assumption))⟩ ?_
  rintro V2 ⟨hd1, hd2, hd3, hWd⟩ gd
  have d1 := Bw.hold hd1
  have d2 := Bw.hold hd2
  have d3 := Bw.hold hd3
  have dz1 := fun g : Bw V2 => cell_lt (d1 g)
  have dy1 := fun g : Bw V2 => Nat.le_of_lt (dz1 g)
  clear hd1 hd2 hd3
  refine (H2.out _).mono ?_
  rintro e_g3 w_g3 ⟨rfl, hb_g3⟩
  obtain ⟨g3, rfl⟩ := gd.next hb_g3
  clear hb_g3
  go_wp2_with fail
  refine calls_start (fun V3 => V3.cell? ⟨g2.out.heap.size, 0, none⟩ = some (.int .i64 11) ∧ V3.cell? ⟨g2.out.heap.size, 1, none⟩ = some (.int .i64 1) ∧ V3.cell? ⟨g2.out.heap.size, 2, none⟩ = some (.int .i64 0) ∧ V3.cell? ⟨g3.out.heap.size, 0, none⟩ = some (.int .i64 0) ∧ V3.cell? ⟨g3.out.heap.size, 1, none⟩ = some (.int .i64 0) ∧ V3.cell? ⟨g3.out.heap.size, 2, none⟩ = some (.int .i64 0) ∧ Below w.heap.size w V3) ⟨by first | with_reducible assumption | (simp [go_sem]; done) | with_reducible exact hold_al d1 _ _ | with_reducible exact hold_al d2 _ _ | with_reducible exact hold_al d3 _ _ | (simp [go_sem, d1, d2, d3, dz1, dy1]; done), by first | with_reducible assumption | (simp [go_sem]; done) | with_reducible exact hold_al d1 _ _ | with_reducible exact hold_al d2 _ _ | with_reducible exact hold_al d3 _ _ | (simp [go_sem, d1, d2, d3, dz1, dy1]; done), by first | with_reducible assumption | (simp [go_sem]; done) | with_reducible exact hold_al d1 _ _ | with_reducible exact hold_al d2 _ _ | with_reducible exact hold_al d3 _ _ | (simp [go_sem, d1, d2, d3, dz1, dy1]; done), by first | with_reducible assumption | (simp [go_sem]; done) | with_reducible exact hold_al d1 _ _ | with_reducible exact hold_al d2 _ _ | with_reducible exact hold_al d3 _ _ | (simp [go_sem, d1, d2, d3, dz1, dy1]; done), by first | with_reducible assumption | (simp [go_sem]; done) | with_reducible exact hold_al d1 _ _ | with_reducible exact hold_al d2 _ _ | with_reducible exact hold_al d3 _ _ | (simp [go_sem, d1, d2, d3, dz1, dy1]; done), by first | with_reducible assumption | (simp [go_sem]; done) | with_reducible exact hold_al d1 _ _ | with_reducible exact hold_al d2 _ _ | with_reducible exact hold_al d3 _ _ | (simp [go_sem, d1, d2, d3, dz1, dy1]; done), by repeat (first | with_reducible exact Below.refl _ _ | with_reducible refine bl_alloc ?_ _ | with_reducible refine bl_drewN ?_ _ | with_reducible refine bl_drew ?_ | (with_reducible refine bl_set ?_ ?_ _; rotate_left; focus (first | (simp; done) | (simp; omega) | omega)) | with_reducible refine below_step ?_ (Bw.below _) | with_reducible refine below_step ?_ (by assumption))⟩ ?_
  rintro V3 ⟨hq1, hq2, hq3, hq4, hq5, hq6, hWq⟩ gq
  have q1 := Bw.hold hq1
  have q2 := Bw.hold hq2
  have q3 := Bw.hold hq3
  have q4 := Bw.hold hq4
  have q5 := Bw.hold hq5
  have q6 := Bw.hold hq6
  have qz1 := fun g : Bw V3 => cell_lt (q1 g)
  have qy1 := fun g : Bw V3 => Nat.le_of_lt (qz1 g)
  have qz4 := fun g : Bw V3 => cell_lt (q4 g)
  have qy4 := fun g : Bw V3 => Nat.le_of_lt (qz4 g)
  clear hq1 hq2 hq3 hq4 hq5 hq6
  refine (H3.out _).mono ?_
  rintro e_g4 w_g4 ⟨rfl, hb_g4⟩
  obtain ⟨g4, rfl⟩ := gq.next hb_g4
  clear hb_g4
  go_wp2_with fail
  go_ret
  exact ⟨rfl, by repeat (first | with_reducible exact Below.refl _ _ | with_reducible refine bl_alloc ?_ _ | with_reducible refine bl_drewN ?_ _ | with_reducible refine bl_drew ?_ | (with_reducible refine bl_set ?_ ?_ _; rotate_left; focus (first | (simp; done) | (simp; omega) | omega)) | with_reducible refine below_step ?_ (Bw.below _) | with_reducible refine below_step ?_ (by assumption))⟩
set_option maxHeartbeats 1000000 in
theorem cell_of (x y r : Int) (K : Nat) (hK : K < 13) (hk : 12 - r = (K : Int)) (h : wdB x y = true) (w : World) :
    Calls Try.prog 28 #[.int .i64 x, .int .i64 y, .int .i64 r] w fun e w' => e = .returned (.tuple #[.agg #[.int .i64 r, .int .i64 (nearA x y K), .int .i64 (nearB x y K)], .int .i64 0]) ∧ Below w.heap.size w w' := by
  have O := plane_ok x y
  rw [h] at O
  have HO := Lib.hid O
  have NR := Lib.hid (plane_near x y r K hK hk h)
  clear O h
  generalize nearA x y K = za at *
  generalize nearB x y K = zb at *
  go_enter Try.func28, Try.ntmps28
  go_wp2_with fail
  refine calls_start (fun V => V.cell? ⟨w.heap.size, 0, none⟩ = some (.int .i64 0) ∧ V.frozen? ⟨w.heap.size, 0, none⟩ = false ∧ V.cell? ⟨w.heap.size, 1, none⟩ = some (.int .i64 0) ∧ V.frozen? ⟨w.heap.size, 1, none⟩ = false ∧ V.cell? ⟨w.heap.size, 2, none⟩ = some (.int .i64 0) ∧ V.frozen? ⟨w.heap.size, 2, none⟩ = false ∧ Below w.heap.size w V) ⟨by first | with_reducible assumption | (simp [go_sem]; done), by first | with_reducible assumption | (simp [go_sem]; done), by first | with_reducible assumption | (simp [go_sem]; done), by first | with_reducible assumption | (simp [go_sem]; done), by first | with_reducible assumption | (simp [go_sem]; done), by first | with_reducible assumption | (simp [go_sem]; done), by repeat (first | with_reducible exact Below.refl _ _ | with_reducible refine bl_alloc ?_ _ | with_reducible refine bl_drewN ?_ _ | with_reducible refine bl_drew ?_ | (with_reducible refine bl_set ?_ ?_ _; rotate_left; focus (first | (simp; done) | (simp; omega) | omega)) | with_reducible refine below_step ?_ (Bw.below _) | with_reducible refine below_step ?_ (by assumption))⟩ ?_
  rintro V ⟨hc1, fc1, hc2, fc2, hc3, fc3, hWc⟩ gc
  have c1 := Bw.hold hc1
  have cf1 := Bw.free hc1 fc1
  have c2 := Bw.hold hc2
  have cf2 := Bw.free hc2 fc2
  have c3 := Bw.hold hc3
  have cf3 := Bw.free hc3 fc3
  have cz1 := fun g : Bw V => cell_lt (c1 g)
  have cy1 := fun g : Bw V => Nat.le_of_lt (cz1 g)
  clear hc1 fc1 hc2 fc2 hc3 fc3
  refine (HO.out _).mono ?_
  rintro e w1 ⟨rfl, rfl⟩
  go_wp2_with fail
  refine (NR.out _).mono ?_
  rintro e_g2 w_g2 ⟨rfl, hb_g2⟩
  obtain ⟨g2, rfl⟩ := gc.next hb_g2
  clear hb_g2
  go_wp2_with fail
  refine bodyPost_ret (v := .tuple #[.agg #[.int .i64 r, .int .i64 za, .int .i64 zb], .int .i64 0]) (by simp [results, Try.results28, go_sem, c1, c2, c3, cz1, cy1]) rfl ⟨rfl, by repeat (first | with_reducible exact Below.refl _ _ | with_reducible refine bl_alloc ?_ _ | with_reducible refine bl_drewN ?_ _ | with_reducible refine bl_drew ?_ | (with_reducible refine bl_set ?_ ?_ _; rotate_left; focus (first | (simp; done) | (simp; omega) | omega)) | with_reducible refine below_step ?_ (Bw.below _) | with_reducible refine below_step ?_ (by assumption))⟩
set_option maxHeartbeats 1000000 in
theorem cell_of_no (x y r : Int) (h : wdB x y = false) (w : World) :
    Calls Try.prog 28 #[.int .i64 x, .int .i64 y, .int .i64 r] w fun e w' => e = .returned (.tuple #[.agg #[.int .i64 0, .int .i64 0, .int .i64 0], .int .i64 4]) ∧ Below w.heap.size w w' := by
  have O := plane_ok x y
  rw [h] at O
  have HO := Lib.hid O
  clear O h
  go_enter Try.func28, Try.ntmps28
  go_wp2_with fail
  refine calls_start (fun V => V.cell? ⟨w.heap.size, 0, none⟩ = some (.int .i64 0) ∧ V.frozen? ⟨w.heap.size, 0, none⟩ = false ∧ V.cell? ⟨w.heap.size, 1, none⟩ = some (.int .i64 0) ∧ V.frozen? ⟨w.heap.size, 1, none⟩ = false ∧ V.cell? ⟨w.heap.size, 2, none⟩ = some (.int .i64 0) ∧ V.frozen? ⟨w.heap.size, 2, none⟩ = false ∧ Below w.heap.size w V) ⟨by first | with_reducible assumption | (simp [go_sem]; done), by first | with_reducible assumption | (simp [go_sem]; done), by first | with_reducible assumption | (simp [go_sem]; done), by first | with_reducible assumption | (simp [go_sem]; done), by first | with_reducible assumption | (simp [go_sem]; done), by first | with_reducible assumption | (simp [go_sem]; done), by repeat (first | with_reducible exact Below.refl _ _ | with_reducible refine bl_alloc ?_ _ | with_reducible refine bl_drewN ?_ _ | with_reducible refine bl_drew ?_ | (with_reducible refine bl_set ?_ ?_ _; rotate_left; focus (first | (simp; done) | (simp; omega) | omega)) | with_reducible refine below_step ?_ (Bw.below _) | with_reducible refine below_step ?_ (by assumption))⟩ ?_
  rintro V ⟨hc1, fc1, hc2, fc2, hc3, fc3, hWc⟩ gc
  have c1 := Bw.hold hc1
  have cf1 := Bw.free hc1 fc1
  have c2 := Bw.hold hc2
  have cf2 := Bw.free hc2 fc2
  have c3 := Bw.hold hc3
  have cf3 := Bw.free hc3 fc3
  have cz1 := fun g : Bw V => cell_lt (c1 g)
  have cy1 := fun g : Bw V => Nat.le_of_lt (cz1 g)
  clear hc1 fc1 hc2 fc2 hc3 fc3
  refine (HO.out _).mono ?_
  rintro e w1 ⟨rfl, rfl⟩
  go_wp2_with fail
  refine bodyPost_ret (v := .tuple #[.agg #[.int .i64 0, .int .i64 0, .int .i64 0], .int .i64 4]) (by simp [results, Try.results28, go_sem, c1, c2, c3, cz1, cy1]) rfl ⟨rfl, by repeat (first | with_reducible exact Below.refl _ _ | with_reducible refine bl_alloc ?_ _ | with_reducible refine bl_drewN ?_ _ | with_reducible refine bl_drew ?_ | (with_reducible refine bl_set ?_ ?_ _; rotate_left; focus (first | (simp; done) | (simp; omega) | omega)) | with_reducible refine below_step ?_ (Bw.below _) | with_reducible refine below_step ?_ (by assumption))⟩
set_option maxHeartbeats 1000000 in
theorem cell_of_res (x y r : Int) (h : wdB x y = true) (hr : rsB r = false) (w : World) :
    Calls Try.prog 28 #[.int .i64 x, .int .i64 y, .int .i64 r] w fun e w' => e = .returned (.tuple #[.agg #[.int .i64 0, .int .i64 0, .int .i64 0], .int .i64 1]) ∧ Below w.heap.size w w' := by
  have O := plane_ok x y
  rw [h] at O
  have HO := Lib.hid O
  have NR := Lib.hid (plane_near_no x y r (.inr hr))
  clear O h hr
  go_enter Try.func28, Try.ntmps28
  go_wp2_with fail
  refine calls_start (fun V => V.cell? ⟨w.heap.size, 0, none⟩ = some (.int .i64 0) ∧ V.frozen? ⟨w.heap.size, 0, none⟩ = false ∧ V.cell? ⟨w.heap.size, 1, none⟩ = some (.int .i64 0) ∧ V.frozen? ⟨w.heap.size, 1, none⟩ = false ∧ V.cell? ⟨w.heap.size, 2, none⟩ = some (.int .i64 0) ∧ V.frozen? ⟨w.heap.size, 2, none⟩ = false ∧ Below w.heap.size w V) ⟨by first | with_reducible assumption | (simp [go_sem]; done), by first | with_reducible assumption | (simp [go_sem]; done), by first | with_reducible assumption | (simp [go_sem]; done), by first | with_reducible assumption | (simp [go_sem]; done), by first | with_reducible assumption | (simp [go_sem]; done), by first | with_reducible assumption | (simp [go_sem]; done), by repeat (first | with_reducible exact Below.refl _ _ | with_reducible refine bl_alloc ?_ _ | with_reducible refine bl_drewN ?_ _ | with_reducible refine bl_drew ?_ | (with_reducible refine bl_set ?_ ?_ _; rotate_left; focus (first | (simp; done) | (simp; omega) | omega)) | with_reducible refine below_step ?_ (Bw.below _) | with_reducible refine below_step ?_ (by assumption))⟩ ?_
  rintro V ⟨hc1, fc1, hc2, fc2, hc3, fc3, hWc⟩ gc
  have c1 := Bw.hold hc1
  have cf1 := Bw.free hc1 fc1
  have c2 := Bw.hold hc2
  have cf2 := Bw.free hc2 fc2
  have c3 := Bw.hold hc3
  have cf3 := Bw.free hc3 fc3
  have cz1 := fun g : Bw V => cell_lt (c1 g)
  have cy1 := fun g : Bw V => Nat.le_of_lt (cz1 g)
  clear hc1 fc1 hc2 fc2 hc3 fc3
  refine (HO.out _).mono ?_
  rintro e w1 ⟨rfl, rfl⟩
  go_wp2_with fail
  refine (NR.out _).mono ?_
  rintro e_g2 w_g2 ⟨rfl, hb_g2⟩
  obtain ⟨g2, rfl⟩ := gc.next hb_g2
  clear hb_g2
  go_wp2_with fail
  refine bodyPost_ret (v := .tuple #[.agg #[.int .i64 0, .int .i64 0, .int .i64 0], .int .i64 1]) (by simp [results, Try.results28, go_sem, c1, c2, c3, cz1, cy1]) rfl ⟨rfl, by repeat (first | with_reducible exact Below.refl _ _ | with_reducible refine bl_alloc ?_ _ | with_reducible refine bl_drewN ?_ _ | with_reducible refine bl_drew ?_ | (with_reducible refine bl_set ?_ ?_ _; rotate_left; focus (first | (simp; done) | (simp; omega) | omega)) | with_reducible refine below_step ?_ (Bw.below _) | with_reducible refine below_step ?_ (by assumption))⟩
end Go.Proofs.Ytajojnbpmbkghaa

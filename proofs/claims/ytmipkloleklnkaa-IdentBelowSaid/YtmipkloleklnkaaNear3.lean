
/- The walks of Near: the program's and the reference's. -/
import Derived.Test.YtmipkloleklnkaaPlane
namespace Go.Proofs.Ytmipkloleklnkaa
open Go.RowKit
set_option linter.unusedSimpArgs false
set_option linter.unusedVariables false
theorem nr_bd (x y : Int) (k : Nat) (hk : k < 13) (h1 : 0 ≤ x) (h2 : x < 1073741824) (h3 : 0 ≤ y) (h4 : y < 1073741824) :
    -1152921504606846976 ≤ nrX x y k ∧ nrX x y k ≤ 1152921504606846976 ∧ -1152921504606846976 ≤ nrY x y k ∧ nrY x y k ≤ 1152921504606846976 := by
  obtain ⟨b1, b2, b3, b4⟩ := bt_small k hk
  have c1 : -800000 ≤ cjA k := by unfold cjA; omega
  have c2 : cjA k ≤ 800000 := by unfold cjA; omega
  have c3 : -800000 ≤ cjB k := by unfold cjB; omega
  have c4 : cjB k ≤ 800000 := by unfold cjB; omega
  have m1 := mul_bd (45 * x - 26 * y) (cjA k) 80000000000 800000 (by omega) (by omega) c1 c2
  have m2 := mul_bd (45 * x - 26 * y) (cjB k) 80000000000 800000 (by omega) (by omega) c3 c4
  have m3 := mul_bd (52 * y) (cjA k) 80000000000 800000 (by omega) (by omega) c1 c2
  have m4 := mul_bd (52 * y) (cjB k) 80000000000 800000 (by omega) (by omega) c3 c4
  unfold nrX nrY
  omega
theorem cj_bd (k : Nat) (hk : k < 13) : -800000 ≤ cjA k ∧ cjA k ≤ 800000 ∧ -400000 ≤ cjB k ∧ cjB k ≤ 400000 := by
  obtain ⟨b1, b2, b3, b4⟩ := bt_small k hk
  unfold cjA cjB
  omega
theorem near_bd (x y : Int) (k : Nat) (hk : k < 13) (h1 : 0 ≤ x) (h2 : x < 1073741824) (h3 : 0 ≤ y) (h4 : y < 1073741824) :
    -1152921504606846976 ≤ nearA x y k ∧ nearA x y k ≤ 1152921504606846977 ∧ -1152921504606846976 ≤ nearB x y k ∧ nearB x y k ≤ 1152921504606846977 := by
  obtain ⟨b1, b2, b3, b4⟩ := nr_bd x y k hk h1 h2 h3 h4
  have p := p7_small k hk
  exact rd_bd _ _ _ b1 b2 b3 b4 (by omega)
set_option maxHeartbeats 1000000 in
theorem ref_conj (K : Nat) (hK : K < 13) (w : World) : Calls Try.prog 71 #[.int .i64 (K : Int)] w fun e w' => e = .returned (.agg #[.int .i64 (cjA K), .int .i64 (cjB K)]) ∧ Below w.heap.size w w' := by
  obtain ⟨b1, b2, b3, b4⟩ := bt_small K hK
  have BT := Lib.hid (ref_beta K (by omega))
  have e1 : Hid ((bt K).1 + (bt K).2 = cjA K) := Lib.hid rfl
  have e2 : Hid (-(bt K).2 = cjB K) := Lib.hid rfl
  generalize (bt K).1 = t1 at *
  generalize (bt K).2 = t2 at *
  go_enter Try.func71, Try.ntmps71
  go_wp2_with fail
  refine calls_start (fun V => V.cell? ⟨w.heap.size, 0, none⟩ = some (.int .i64 0) ∧ V.frozen? ⟨w.heap.size, 0, none⟩ = false ∧ V.cell? ⟨w.heap.size, 1, none⟩ = some (.int .i64 0) ∧ V.frozen? ⟨w.heap.size, 1, none⟩ = false ∧ Below w.heap.size w V) ⟨by first | with_reducible assumption | (simp [go_sem]; done), by first | with_reducible assumption | (simp [go_sem]; done), by first | with_reducible assumption | (simp [go_sem]; done), by first | with_reducible assumption | (simp [go_sem]; done), by repeat (first | with_reducible exact Below.refl _ _ | with_reducible refine bl_alloc ?_ _ | with_reducible refine bl_drewN ?_ _ | with_reducible refine bl_drew ?_ | (with_reducible refine bl_set ?_ ?_ _; rotate_left; focus (first | (simp; done) | (simp; omega) | omega)) | with_reducible refine below_step ?_ (Bw.below _) | with_reducible refine below_step ?_ (by assumption))⟩ ?_
  rintro V ⟨hc1, fc1, hc2, fc2, hWc⟩ gc
  have c1 := Bw.hold hc1
  have cf1 := Bw.free hc1 fc1
  have c2 := Bw.hold hc2
  have cf2 := Bw.free hc2 fc2
  have cz1 := fun g : Bw V => cell_lt (c1 g)
  have cy1 := fun g : Bw V => Nat.le_of_lt (cz1 g)
  clear hc1 fc1 hc2 fc2
  refine (BT.out _).mono ?_
  rintro e_g2 w_g2 ⟨rfl, hb_g2⟩
  obtain ⟨g2, rfl⟩ := gc.next hb_g2
  clear hb_g2
  go_wp2_with fail
  refine bodyPost_ret (v := .agg #[.int .i64 (t1 + t2), .int .i64 (-t2)]) (by simp [results, Try.results71, go_sem, c1, c2, cz1]) rfl ⟨by rw [e1.out, e2.out], by repeat (first | with_reducible exact Below.refl _ _ | with_reducible refine bl_alloc ?_ _ | with_reducible refine bl_drewN ?_ _ | with_reducible refine bl_drew ?_ | (with_reducible refine bl_set ?_ ?_ _; rotate_left; focus (first | (simp; done) | (simp; omega) | omega)) | with_reducible refine below_step ?_ (Bw.below _) | with_reducible refine below_step ?_ (by assumption))⟩
set_option maxRecDepth 100000 in
set_option maxHeartbeats 1000000 in
theorem ref_near (x y r : Int) (K : Nat) (hK : K < 13) (hk : 12 - r = (K : Int)) (h : wdB x y = true) (w : World) :
    Calls Try.prog 45 #[.int .i64 x, .int .i64 y, .int .i64 r] w fun e w' => e = .returned (.tuple #[.agg #[.int .i64 (nearA x y K), .int .i64 (nearB x y K)], .bool true]) ∧ Below w.heap.size w w' := by
  obtain ⟨x1, x2, y1, y2⟩ := wdB_true h
  have r1 : 0 ≤ r := by omega
  have r2 : r ≤ 12 := by omega
  have t1 : decide (r < 0) = false := decide_eq_false (by omega)
  have t2 : decide (12 < r) = false := decide_eq_false (by omega)
  obtain ⟨n1, n2, n3, n4⟩ := nr_bd x y K hK x1 x2 y1 y2
  obtain ⟨j1, j2, j3, j4⟩ := cj_bd K hK
  obtain ⟨p1, p2⟩ := p7_small K hK
  have WD := ref_world x y
  rw [h] at WD
  have HW := Lib.hid WD
  have CJ := Lib.hid (ref_conj K hK)
  have SV := Lib.hid (ref_seven K (by omega))
  have ML := Lib.hid (ref_mul_fit (45 * x - 26 * y) (52 * y) (cjA K) (cjB K) (nrX x y K) (nrY x y K) (by omega) (by omega) (by omega) (by omega) (by omega) (by omega) (by omega) (by omega) (by omega) (by omega) (by omega) (by omega) rfl rfl)
  have RR := ref_round (nrX x y K) (nrY x y K) (2340 * p7 K) n1 n2 n3 n4 (by omega) (by omega)
  rw [show rdA (nrX x y K) (nrY x y K) (2340 * p7 K) = nearA x y K from rfl, show rdB (nrX x y K) (nrY x y K) (2340 * p7 K) = nearB x y K from rfl] at RR
  have RD := Lib.hid RR
  have dd : (2340 : Int) * p7 K ≤ 1125899906842624 := by omega
  clear WD RR h j1 j2 j3 j4 n1 n2 n3 n4
  generalize cjA K = ca at *
  generalize cjB K = cb at *
  generalize p7 K = p at *
  generalize nrX x y K = nx at *
  generalize nrY x y K = ny at *
  generalize nearA x y K = za at *
  generalize nearB x y K = zb at *
  go_enter Try.func45, Try.ntmps45
  go_wp2_with fail
  refine calls_start (fun V => V.cell? ⟨w.heap.size, 0, none⟩ = some (.int .i64 0) ∧ V.frozen? ⟨w.heap.size, 0, none⟩ = false ∧ V.cell? ⟨w.heap.size, 1, none⟩ = some (.int .i64 0) ∧ V.frozen? ⟨w.heap.size, 1, none⟩ = false ∧ Below w.heap.size w V) ⟨by first | with_reducible assumption | (simp [go_sem]; done), by first | with_reducible assumption | (simp [go_sem]; done), by first | with_reducible assumption | (simp [go_sem]; done), by first | with_reducible assumption | (simp [go_sem]; done), by repeat (first | with_reducible exact Below.refl _ _ | with_reducible refine bl_alloc ?_ _ | with_reducible refine bl_drewN ?_ _ | with_reducible refine bl_drew ?_ | (with_reducible refine bl_set ?_ ?_ _; rotate_left; focus (first | (simp; done) | (simp; omega) | omega)) | with_reducible refine below_step ?_ (Bw.below _) | with_reducible refine below_step ?_ (by assumption))⟩ ?_
  rintro V ⟨hc1, fc1, hc2, fc2, hWc⟩ gc
  have c1 := Bw.hold hc1
  have cf1 := Bw.free hc1 fc1
  have c2 := Bw.hold hc2
  have cf2 := Bw.free hc2 fc2
  have cz1 := fun g : Bw V => cell_lt (c1 g)
  have cy1 := fun g : Bw V => Nat.le_of_lt (cz1 g)
  clear hc1 fc1 hc2 fc2
  refine (HW.out _).mono ?_
  rintro e w1 ⟨rfl, rfl⟩
  go_wp2_with fail
  refine (CJ.out _).mono ?_
  rintro e_g2 w_g2 ⟨rfl, hb_g2⟩
  obtain ⟨g2, rfl⟩ := gc.next hb_g2
  clear hb_g2
  go_wp2_with fail
  refine (ML.out _).mono ?_
  rintro e_g3 w_g3 ⟨rfl, hb_g3⟩
  obtain ⟨g3, rfl⟩ := g2.next hb_g3
  clear hb_g3
  go_wp2_with fail
  refine wp_start (fun V2 => V2.cell? ⟨w.heap.size, 0, none⟩ = some (.int .i64 0) ∧ V2.frozen? ⟨w.heap.size, 0, none⟩ = false ∧ V2.cell? ⟨w.heap.size, 1, none⟩ = some (.int .i64 0) ∧ V2.frozen? ⟨w.heap.size, 1, none⟩ = false ∧ V2.cell? ⟨g3.out.heap.size, 0, none⟩ = some (.int .i64 nx) ∧ V2.cell? ⟨g3.out.heap.size, 1, none⟩ = some (.int .i64 ny) ∧ Below w.heap.size w V2) ⟨by first | with_reducible assumption | (simp [go_sem]; done) | with_reducible exact hold_al c1 _ _ | with_reducible exact hold_al c2 _ _ | (simp [go_sem, c1, cf1, c2, cf2, cz1, cy1]; done), by first | with_reducible assumption | (simp [go_sem]; done) | with_reducible exact hold_alF c1 cf1 _ _ | with_reducible exact hold_alF c2 cf2 _ _ | (simp [go_sem, c1, cf1, c2, cf2, cz1, cy1]; done), by first | with_reducible assumption | (simp [go_sem]; done) | with_reducible exact hold_al c1 _ _ | with_reducible exact hold_al c2 _ _ | (simp [go_sem, c1, cf1, c2, cf2, cz1, cy1]; done), by first | with_reducible assumption | (simp [go_sem]; done) | with_reducible exact hold_alF c1 cf1 _ _ | with_reducible exact hold_alF c2 cf2 _ _ | (simp [go_sem, c1, cf1, c2, cf2, cz1, cy1]; done), by first | with_reducible assumption | (simp [go_sem]; done) | with_reducible exact hold_al c1 _ _ | with_reducible exact hold_al c2 _ _ | (simp [go_sem, c1, cf1, c2, cf2, cz1, cy1]; done), by first | with_reducible assumption | (simp [go_sem]; done) | with_reducible exact hold_al c1 _ _ | with_reducible exact hold_al c2 _ _ | (simp [go_sem, c1, cf1, c2, cf2, cz1, cy1]; done), by repeat (first | with_reducible exact Below.refl _ _ | with_reducible refine bl_alloc ?_ _ | with_reducible refine bl_drewN ?_ _ | with_reducible refine bl_drew ?_ | (with_reducible refine bl_set ?_ ?_ _; rotate_left; focus (first | (simp; done) | (simp; omega) | omega)) | with_reducible refine below_step ?_ (Bw.below _) | with_reducible refine below_step ?_ (by assumption))⟩ ?_
  rintro V2 ⟨hd1, fd1, hd2, fd2, hd3, hd4, hWd⟩ gd
  have d1 := Bw.hold hd1
  have df1 := Bw.free hd1 fd1
  have d2 := Bw.hold hd2
  have df2 := Bw.free hd2 fd2
  have d3 := Bw.hold hd3
  have d4 := Bw.hold hd4
  have dz1 := fun g : Bw V2 => cell_lt (d1 g)
  have dy1 := fun g : Bw V2 => Nat.le_of_lt (dz1 g)
  have dz3 := fun g : Bw V2 => cell_lt (d3 g)
  have dy3 := fun g : Bw V2 => Nat.le_of_lt (dz3 g)
  clear hd1 fd1 hd2 fd2 hd3 hd4
  clear c1 cf1 c2 cf2 cz1 cy1
  refine wp_region_bw_tail 8 (by kernel_rfl) (by kernel_rfl) gd ?_
  simp only [List.take_succ_cons, List.take_zero, List.drop_succ_cons, List.drop_zero]
  repeat (go_big_quiet_step ((first
    | (go_at_call 68; with_reducible exact bw_call (SV.out _))
    | (go_at_call 69; with_reducible exact bw_call (RD.out _)))))
  refine wpQuiet_nil ?_
  rintro _ ⟨g4, rfl⟩
  go_wp2_with fail
  refine bodyPost_ret (v := .tuple #[.agg #[.int .i64 za, .int .i64 zb], .bool true]) (by simp [results, Try.results45, go_sem, d1, d2]) rfl ⟨rfl, by repeat (first | with_reducible exact Below.refl _ _ | with_reducible refine bl_alloc ?_ _ | with_reducible refine bl_drewN ?_ _ | with_reducible refine bl_drew ?_ | (with_reducible refine bl_set ?_ ?_ _; rotate_left; focus (first | (simp; done) | (simp; omega) | omega)) | with_reducible refine below_step ?_ (Bw.below _) | with_reducible refine below_step ?_ (by assumption))⟩
end Go.Proofs.Ytmipkloleklnkaa

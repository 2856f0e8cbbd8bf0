/- The walks of the reference's Below and Less, and of the law's side. -/
import Derived.Test.YtccbcehpoohgpaaCorner
namespace Go.Proofs.Ytccbcehpoohgpaa
open Go.RowKit
set_option linter.unusedSimpArgs false
set_option linter.unusedVariables false
theorem bel_core (x : Int) (h : -170141183460469231731687303715884105728 ≤ x) (h' : x < 170141183460469231731687303715884105728) : (hiU x / 9223372036854775808 == 1) = decide (x < 0) := by
  by_cases h0 : x < 0
  · have : hiU x / 9223372036854775808 = 1 := by unfold hiU; omega
    rw [this, decide_eq_true h0]; rfl
  · have : hiU x / 9223372036854775808 = 0 := by unfold hiU; omega
    rw [this, decide_eq_false h0]; rfl
set_option maxHeartbeats 400000 in
theorem ref_below (x : Int) (h : -170141183460469231731687303715884105728 ≤ x) (h' : x < 170141183460469231731687303715884105728) (w : World) :
    Calls Try.prog 63 #[.agg #[.int .u64 (hiU x), .int .u64 (lo64 x)]] w fun e w' => e = .returned (.bool (decide (x < 0))) ∧ Below w.heap.size w w' := by
  have hc := bel_core x h h'
  have h1 : 0 ≤ hiU x := by unfold hiU; omega
  have h2 : hiU x < 18446744073709551616 := by unfold hiU; omega
  generalize hiU x = a at *
  generalize lo64 x = b at *
  generalize decide (x < 0) = r at *
  go_enter Try.func63, Try.ntmps63
  go_wp2_with fail
  go_ret
  exact ⟨by first | rfl | (rw [← hc]), by repeat (first | with_reducible exact Below.refl _ _ | with_reducible refine bl_alloc ?_ _ | with_reducible refine bl_drewN ?_ _ | with_reducible refine bl_drew ?_ | (with_reducible refine bl_set ?_ ?_ _; rotate_left; focus (first | (simp; done) | (simp; omega) | omega)) | with_reducible refine below_step ?_ (Bw.below _) | with_reducible refine below_step ?_ (by assumption))⟩
set_option maxHeartbeats 400000 in
theorem ref_less (x y : Int) (h1 : -42535295865117307932921825928971026432 ≤ x) (h2 : x ≤ 42535295865117307932921825928971026432) (h3 : -42535295865117307932921825928971026432 ≤ y) (h4 : y ≤ 42535295865117307932921825928971026432) (w : World) :
    Calls Try.prog 45 #[.agg #[.int .u64 (hiU x), .int .u64 (lo64 x)], .agg #[.int .u64 (hiU y), .int .u64 (lo64 y)]] w fun e w' => e = .returned (.bool (decide (x < y))) ∧ Below w.heap.size w w' := by
  have T := Lib.hid (ref_turned y)
  have P := Lib.hid (ref_plus x (-y))
  have B0 := ref_below (x + -y) (by omega) (by omega)
  rw [show decide (x + -y < 0) = decide (x < y) from decide_eq_decide.2 (by omega)] at B0
  have B := Lib.hid B0
  clear B0
  generalize hiU (x + -y) = sh at *
  generalize lo64 (x + -y) = sl at *
  generalize hiU (-y) = th at *
  generalize lo64 (-y) = tl at *
  generalize hiU x = xh at *
  generalize lo64 x = xl at *
  generalize hiU y = yh at *
  generalize lo64 y = yl at *
  generalize decide (x < y) = r at *
  clear h1 h2 h3 h4
  go_enter Try.func45, Try.ntmps45
  go_wp2_with fail
  refine wp_start (fun V => V.cell? ⟨w.heap.size, 0, none⟩ = some (.int .u64 xh) ∧ V.cell? ⟨w.heap.size, 1, none⟩ = some (.int .u64 xl) ∧ V.cell? ⟨w.heap.size + 1, 0, none⟩ = some (.int .u64 yh) ∧ V.cell? ⟨w.heap.size + 1, 1, none⟩ = some (.int .u64 yl) ∧ Below w.heap.size w V) ⟨by first | (simp [go_sem]; done), by first | (simp [go_sem]; done), by first | (simp [go_sem]; done), by first | (simp [go_sem]; done), by repeat (first | with_reducible exact Below.refl _ _ | with_reducible refine bl_alloc ?_ _ | with_reducible refine bl_drewN ?_ _ | with_reducible refine bl_drew ?_ | (with_reducible refine bl_set ?_ ?_ _; rotate_left; focus (first | (simp; done) | (simp; omega) | omega)) | with_reducible refine below_step ?_ (Bw.below _) | with_reducible refine below_step ?_ (by assumption))⟩ ?_
  rintro V ⟨hc1, hc2, hc3, hc4, hWc⟩ gc
  have c1 := Bw.hold hc1
  have c2 := Bw.hold hc2
  have c3 := Bw.hold hc3
  have c4 := Bw.hold hc4
  have cz1 := fun g : Bw V => cell_lt (c1 g)
  have cy1 := fun g : Bw V => Nat.le_of_lt (cz1 g)
  have cz3 := fun g : Bw V => cell_lt (c3 g)
  have cy3 := fun g : Bw V => Nat.le_of_lt (cz3 g)
  clear hc1 hc2 hc3 hc4
  refine wp_region_bw (by kernel_rfl) (by kernel_rfl) gc ?_
  repeat (go_big_quiet_step ((first
    | (go_at_call 39; with_reducible exact bw_call (T.out _))
    | (go_at_call 38; with_reducible exact bw_call (P.out _))
    | (go_at_call 63; with_reducible exact bw_call (B.out _)))))
  refine wpQuiet_nil ?_
  rintro _ ⟨g3, rfl⟩
  go_wp2_with fail
  go_ret
  exact ⟨rfl, by repeat (first | with_reducible exact Below.refl _ _ | with_reducible refine bl_alloc ?_ _ | with_reducible refine bl_drewN ?_ _ | with_reducible refine bl_drew ?_ | (with_reducible refine bl_set ?_ ?_ _; rotate_left; focus (first | (simp; done) | (simp; omega) | omega)) | with_reducible refine below_step ?_ (Bw.below _) | with_reducible refine below_step ?_ (by assumption))⟩
/-- Which side of a way a point lies on: of the two products. -/
def sdV (l r : Int) : Int := if l < r then -1 else if r < l then 1 else 0
theorem bd_times (a b : Int) (h1 : -4611686018427387904 ≤ a) (h2 : a ≤ 4611686018427387904) (h3 : -4611686018427387904 ≤ b) (h4 : b ≤ 4611686018427387904) : -42535295865117307932921825928971026432 ≤ a * b ∧ a * b ≤ 42535295865117307932921825928971026432 := by
  have := mul_bd a b 4611686018427387904 4611686018427387904 h1 h2 h3 h4
  omega
set_option maxHeartbeats 1000000 in
theorem law3_side (p0 p1 q0 q1 x y : Int) (M : Int) (hM : M = 2305843009213693952) (a1 : -M ≤ p0) (a2 : p0 ≤ M) (a3 : -M ≤ p1) (a4 : p1 ≤ M) (b1 : -M ≤ q0) (b2 : q0 ≤ M) (b3 : -M ≤ q1) (b4 : q1 ≤ M)
    (c1 : -M ≤ x) (c2 : x ≤ M) (c3 : -M ≤ y) (c4 : y ≤ M) (w : World) :
    Calls Try.prog 27 #[.agg #[.int .i64 p0, .int .i64 p1], .agg #[.int .i64 q0, .int .i64 q1], .int .i64 x, .int .i64 y] w fun e w' => e = .returned (.int .i64 (sdV ((q0 - p0) * (y - p1)) ((q1 - p1) * (x - p0)))) ∧ Below w.heap.size w w' := by
  subst hM
  obtain ⟨m1, m2⟩ := bd_times (q0 - p0) (y - p1) (by omega) (by omega) (by omega) (by omega)
  obtain ⟨m3, m4⟩ := bd_times (q1 - p1) (x - p0) (by omega) (by omega) (by omega) (by omega)
  have T1 := Lib.hid (ref_times (q0 - p0) (y - p1) (by omega) (by omega) (by omega) (by omega))
  have T2 := Lib.hid (ref_times (q1 - p1) (x - p0) (by omega) (by omega) (by omega) (by omega))
  generalize (q0 - p0) * (y - p1) = l at *
  generalize (q1 - p1) * (x - p0) = r at *
  have L1 := ref_less l r (by omega) (by omega) (by omega) (by omega)
  have L2 := ref_less r l (by omega) (by omega) (by omega) (by omega)
  have hs : sdV l r = if decide (l < r) = true then -1 else if decide (r < l) = true then 1 else 0 := by simp [sdV]
  rw [hs]
  clear hs m1 m2 m3 m4
  generalize decide (l < r) = b at *
  generalize decide (r < l) = b' at *
  generalize hiU l = lh at *
  generalize lo64 l = ll at *
  generalize hiU r = rh at *
  generalize lo64 r = rl at *
  have H1 := Lib.hid L1
  have H2 := Lib.hid L2
  clear L1 L2
  go_enter Try.func27, Try.ntmps27
  go_wp2_with fail
  refine calls_start (fun V => V.cell? ⟨w.heap.size, 0, none⟩ = some (.int .i64 p0) ∧ V.cell? ⟨w.heap.size, 1, none⟩ = some (.int .i64 p1) ∧ V.cell? ⟨w.heap.size + 1, 0, none⟩ = some (.int .i64 q0) ∧ V.cell? ⟨w.heap.size + 1, 1, none⟩ = some (.int .i64 q1) ∧ Below w.heap.size w V) ⟨by first | (simp [go_sem]; done), by first | (simp [go_sem]; done), by first | (simp [go_sem]; done), by first | (simp [go_sem]; done), by repeat (first | with_reducible exact Below.refl _ _ | with_reducible refine bl_alloc ?_ _ | with_reducible refine bl_drewN ?_ _ | with_reducible refine bl_drew ?_ | (with_reducible refine bl_set ?_ ?_ _; rotate_left; focus (first | (simp; done) | (simp; omega) | omega)) | with_reducible refine below_step ?_ (Bw.below _) | with_reducible refine below_step ?_ (by assumption))⟩ ?_
  rintro V ⟨hc1, hc2, hc3, hc4, hWc⟩ gc
  have c1 := Bw.hold hc1
  have c2 := Bw.hold hc2
  have c3 := Bw.hold hc3
  have c4 := Bw.hold hc4
  have cz1 := fun g : Bw V => cell_lt (c1 g)
  have cy1 := fun g : Bw V => Nat.le_of_lt (cz1 g)
  have cz3 := fun g : Bw V => cell_lt (c3 g)
  have cy3 := fun g : Bw V => Nat.le_of_lt (cz3 g)
  clear hc1 hc2 hc3 hc4
  refine (T1.out _).mono ?_
  rintro e_g2 w_g2 ⟨rfl, hb_g2⟩
  obtain ⟨g2, rfl⟩ := gc.next hb_g2
  clear hb_g2
  go_wp2_with fail
  refine calls_start (fun V2 => V2.cell? ⟨w.heap.size, 0, none⟩ = some (.int .i64 p0) ∧ V2.cell? ⟨w.heap.size, 1, none⟩ = some (.int .i64 p1) ∧ V2.cell? ⟨w.heap.size + 1, 0, none⟩ = some (.int .i64 q0) ∧ V2.cell? ⟨w.heap.size + 1, 1, none⟩ = some (.int .i64 q1) ∧ V2.cell? ⟨g2.out.heap.size, 0, none⟩ = some (.int .u64 lh) ∧ V2.cell? ⟨g2.out.heap.size, 1, none⟩ = some (.int .u64 ll) ∧ Below w.heap.size w V2) ⟨by first | (simp [go_sem]; done) | with_reducible exact hold_al c1 _ _ | with_reducible exact hold_al c2 _ _ | with_reducible exact hold_al c3 _ _ | with_reducible exact hold_al c4 _ _ | (simp [go_sem, c1, c2, c3, c4, cz1, cy1, cz3, cy3]; done), by first | (simp [go_sem]; done) | with_reducible exact hold_al c1 _ _ | with_reducible exact hold_al c2 _ _ | with_reducible exact hold_al c3 _ _ | with_reducible exact hold_al c4 _ _ | (simp [go_sem, c1, c2, c3, c4, cz1, cy1, cz3, cy3]; done), by first | (simp [go_sem]; done) | with_reducible exact hold_al c1 _ _ | with_reducible exact hold_al c2 _ _ | with_reducible exact hold_al c3 _ _ | with_reducible exact hold_al c4 _ _ | (simp [go_sem, c1, c2, c3, c4, cz1, cy1, cz3, cy3]; done), by first | (simp [go_sem]; done) | with_reducible exact hold_al c1 _ _ | with_reducible exact hold_al c2 _ _ | with_reducible exact hold_al c3 _ _ | with_reducible exact hold_al c4 _ _ | (simp [go_sem, c1, c2, c3, c4, cz1, cy1, cz3, cy3]; done), by first | (simp [go_sem]; done) | with_reducible exact hold_al c1 _ _ | with_reducible exact hold_al c2 _ _ | with_reducible exact hold_al c3 _ _ | with_reducible exact hold_al c4 _ _ | (simp [go_sem, c1, c2, c3, c4, cz1, cy1, cz3, cy3]; done), by first | (simp [go_sem]; done) | with_reducible exact hold_al c1 _ _ | with_reducible exact hold_al c2 _ _ | with_reducible exact hold_al c3 _ _ | with_reducible exact hold_al c4 _ _ | (simp [go_sem, c1, c2, c3, c4, cz1, cy1, cz3, cy3]; done), by repeat (first | with_reducible exact Below.refl _ _ | with_reducible refine bl_alloc ?_ _ | with_reducible refine bl_drewN ?_ _ | with_reducible refine bl_drew ?_ | (with_reducible refine bl_set ?_ ?_ _; rotate_left; focus (first | (simp; done) | (simp; omega) | omega)) | with_reducible refine below_step ?_ (Bw.below _) | with_reducible refine below_step ?_ (by assumption))⟩ ?_
  rintro V2 ⟨hd1, hd2, hd3, hd4, hd5, hd6, hWd⟩ gd
  have d1 := Bw.hold hd1
  have d2 := Bw.hold hd2
  have d3 := Bw.hold hd3
  have d4 := Bw.hold hd4
  have d5 := Bw.hold hd5
  have d6 := Bw.hold hd6
  have dz1 := fun g : Bw V2 => cell_lt (d1 g)
  have dy1 := fun g : Bw V2 => Nat.le_of_lt (dz1 g)
  have dz3 := fun g : Bw V2 => cell_lt (d3 g)
  have dy3 := fun g : Bw V2 => Nat.le_of_lt (dz3 g)
  have dz5 := fun g : Bw V2 => cell_lt (d5 g)
  have dy5 := fun g : Bw V2 => Nat.le_of_lt (dz5 g)
  clear hd1 hd2 hd3 hd4 hd5 hd6
  clear c1 c2 c3 c4 cz1 cy1 cz3 cy3
  refine (T2.out _).mono ?_
  rintro e_g3 w_g3 ⟨rfl, hb_g3⟩
  obtain ⟨g3, rfl⟩ := gd.next hb_g3
  clear hb_g3
  go_wp2_with fail
  refine calls_start (fun V3 => V3.cell? ⟨w.heap.size, 0, none⟩ = some (.int .i64 p0) ∧ V3.cell? ⟨w.heap.size, 1, none⟩ = some (.int .i64 p1) ∧ V3.cell? ⟨w.heap.size + 1, 0, none⟩ = some (.int .i64 q0) ∧ V3.cell? ⟨w.heap.size + 1, 1, none⟩ = some (.int .i64 q1) ∧ V3.cell? ⟨g2.out.heap.size, 0, none⟩ = some (.int .u64 lh) ∧ V3.cell? ⟨g2.out.heap.size, 1, none⟩ = some (.int .u64 ll) ∧ V3.cell? ⟨g3.out.heap.size, 0, none⟩ = some (.int .u64 rh) ∧ V3.cell? ⟨g3.out.heap.size, 1, none⟩ = some (.int .u64 rl) ∧ Below w.heap.size w V3) ⟨by first | (simp [go_sem]; done) | with_reducible exact hold_al d1 _ _ | with_reducible exact hold_al d2 _ _ | with_reducible exact hold_al d3 _ _ | with_reducible exact hold_al d4 _ _ | with_reducible exact hold_al d5 _ _ | with_reducible exact hold_al d6 _ _ | (simp [go_sem, d1, d2, d3, d4, d5, d6, dz1, dy1, dz3, dy3, dz5, dy5]; done), by first | (simp [go_sem]; done) | with_reducible exact hold_al d1 _ _ | with_reducible exact hold_al d2 _ _ | with_reducible exact hold_al d3 _ _ | with_reducible exact hold_al d4 _ _ | with_reducible exact hold_al d5 _ _ | with_reducible exact hold_al d6 _ _ | (simp [go_sem, d1, d2, d3, d4, d5, d6, dz1, dy1, dz3, dy3, dz5, dy5]; done), by first | (simp [go_sem]; done) | with_reducible exact hold_al d1 _ _ | with_reducible exact hold_al d2 _ _ | with_reducible exact hold_al d3 _ _ | with_reducible exact hold_al d4 _ _ | with_reducible exact hold_al d5 _ _ | with_reducible exact hold_al d6 _ _ | (simp [go_sem, d1, d2, d3, d4, d5, d6, dz1, dy1, dz3, dy3, dz5, dy5]; done), by first | (simp [go_sem]; done) | with_reducible exact hold_al d1 _ _ | with_reducible exact hold_al d2 _ _ | with_reducible exact hold_al d3 _ _ | with_reducible exact hold_al d4 _ _ | with_reducible exact hold_al d5 _ _ | with_reducible exact hold_al d6 _ _ | (simp [go_sem, d1, d2, d3, d4, d5, d6, dz1, dy1, dz3, dy3, dz5, dy5]; done), by first | (simp [go_sem]; done) | with_reducible exact hold_al d1 _ _ | with_reducible exact hold_al d2 _ _ | with_reducible exact hold_al d3 _ _ | with_reducible exact hold_al d4 _ _ | with_reducible exact hold_al d5 _ _ | with_reducible exact hold_al d6 _ _ | (simp [go_sem, d1, d2, d3, d4, d5, d6, dz1, dy1, dz3, dy3, dz5, dy5]; done), by first | (simp [go_sem]; done) | with_reducible exact hold_al d1 _ _ | with_reducible exact hold_al d2 _ _ | with_reducible exact hold_al d3 _ _ | with_reducible exact hold_al d4 _ _ | with_reducible exact hold_al d5 _ _ | with_reducible exact hold_al d6 _ _ | (simp [go_sem, d1, d2, d3, d4, d5, d6, dz1, dy1, dz3, dy3, dz5, dy5]; done), by first | (simp [go_sem]; done) | with_reducible exact hold_al d1 _ _ | with_reducible exact hold_al d2 _ _ | with_reducible exact hold_al d3 _ _ | with_reducible exact hold_al d4 _ _ | with_reducible exact hold_al d5 _ _ | with_reducible exact hold_al d6 _ _ | (simp [go_sem, d1, d2, d3, d4, d5, d6, dz1, dy1, dz3, dy3, dz5, dy5]; done), by first | (simp [go_sem]; done) | with_reducible exact hold_al d1 _ _ | with_reducible exact hold_al d2 _ _ | with_reducible exact hold_al d3 _ _ | with_reducible exact hold_al d4 _ _ | with_reducible exact hold_al d5 _ _ | with_reducible exact hold_al d6 _ _ | (simp [go_sem, d1, d2, d3, d4, d5, d6, dz1, dy1, dz3, dy3, dz5, dy5]; done), by repeat (first | with_reducible exact Below.refl _ _ | with_reducible refine bl_alloc ?_ _ | with_reducible refine bl_drewN ?_ _ | with_reducible refine bl_drew ?_ | (with_reducible refine bl_set ?_ ?_ _; rotate_left; focus (first | (simp; done) | (simp; omega) | omega)) | with_reducible refine below_step ?_ (Bw.below _) | with_reducible refine below_step ?_ (by assumption))⟩ ?_
  rintro V3 ⟨hq1, hq2, hq3, hq4, hq5, hq6, hq7, hq8, hWq⟩ gq
  have q1 := Bw.hold hq1
  have q2 := Bw.hold hq2
  have q3 := Bw.hold hq3
  have q4 := Bw.hold hq4
  have q5 := Bw.hold hq5
  have q6 := Bw.hold hq6
  have q7 := Bw.hold hq7
  have q8 := Bw.hold hq8
  have qz1 := fun g : Bw V3 => cell_lt (q1 g)
  have qy1 := fun g : Bw V3 => Nat.le_of_lt (qz1 g)
  have qz3 := fun g : Bw V3 => cell_lt (q3 g)
  have qy3 := fun g : Bw V3 => Nat.le_of_lt (qz3 g)
  have qz5 := fun g : Bw V3 => cell_lt (q5 g)
  have qy5 := fun g : Bw V3 => Nat.le_of_lt (qz5 g)
  have qz7 := fun g : Bw V3 => cell_lt (q7 g)
  have qy7 := fun g : Bw V3 => Nat.le_of_lt (qz7 g)
  clear hq1 hq2 hq3 hq4 hq5 hq6 hq7 hq8
  clear d1 d2 d3 d4 d5 d6 dz1 dy1 dz3 dy3 dz5 dy5
  rcases b with _ | _
  · skip
    refine (H1.out _).mono ?_
    rintro e_g4 w_g4 ⟨rfl, hb_g4⟩
    obtain ⟨g4, rfl⟩ := gq.next hb_g4
    clear hb_g4
    go_wp2_with fail
    rcases b' with _ | _
    · skip
      refine (H2.out _).mono ?_
      rintro e_g5 w_g5 ⟨rfl, hb_g5⟩
      obtain ⟨g5, rfl⟩ := g4.next hb_g5
      clear hb_g5
      go_wp2_with fail
      go_ret
      exact ⟨rfl, by repeat (first | with_reducible exact Below.refl _ _ | with_reducible refine bl_alloc ?_ _ | with_reducible refine bl_drewN ?_ _ | with_reducible refine bl_drew ?_ | (with_reducible refine bl_set ?_ ?_ _; rotate_left; focus (first | (simp; done) | (simp; omega) | omega)) | with_reducible refine below_step ?_ (Bw.below _) | with_reducible refine below_step ?_ (by assumption))⟩
    · skip
      refine (H2.out _).mono ?_
      rintro e_g5 w_g5 ⟨rfl, hb_g5⟩
      obtain ⟨g5, rfl⟩ := g4.next hb_g5
      clear hb_g5
      go_wp2_with fail
      go_ret
      exact ⟨rfl, by repeat (first | with_reducible exact Below.refl _ _ | with_reducible refine bl_alloc ?_ _ | with_reducible refine bl_drewN ?_ _ | with_reducible refine bl_drew ?_ | (with_reducible refine bl_set ?_ ?_ _; rotate_left; focus (first | (simp; done) | (simp; omega) | omega)) | with_reducible refine below_step ?_ (Bw.below _) | with_reducible refine below_step ?_ (by assumption))⟩
  · skip
    refine (H1.out _).mono ?_
    rintro e_g4 w_g4 ⟨rfl, hb_g4⟩
    obtain ⟨g4, rfl⟩ := gq.next hb_g4
    clear hb_g4
    go_wp2_with fail
    go_ret
    exact ⟨rfl, by repeat (first | with_reducible exact Below.refl _ _ | with_reducible refine bl_alloc ?_ _ | with_reducible refine bl_drewN ?_ _ | with_reducible refine bl_drew ?_ | (with_reducible refine bl_set ?_ ?_ _; rotate_left; focus (first | (simp; done) | (simp; omega) | omega)) | with_reducible refine below_step ?_ (Bw.below _) | with_reducible refine below_step ?_ (by assumption))⟩
end Go.Proofs.Ytccbcehpoohgpaa

/- PlaneCentres: where a centre lies, and the corners of what is nearest to it, is told as the document says. No condition. -/
import Derived.Test.YtccbcehpoohgpaaRHexNo
import Derived.Test.YtccbcehpoohgpaaEqA
namespace Go.Proofs.Ytccbcehpoohgpaa
open Go.RowKit
set_option linter.unusedSimpArgs false
set_option linter.unusedVariables false
/-- A size is a resolution, and stands so many below the finest. -/
def ResOk (r : Int) : Prop := ∃ K : Nat, K < 13 ∧ 12 - r = (K : Int)
def PCRel (w : World) (r i : Value) (W : World) : Prop :=
  ∃ A B R : Int, ∃ j : Nat, j ≤ 2 ∧ (-9223372036854775808 ≤ A ∧ A ≤ 9223372036854775807) ∧ (-9223372036854775808 ≤ B ∧ B ≤ 9223372036854775807) ∧ (-9223372036854775808 ≤ R ∧ R ≤ 9223372036854775807) ∧ (j = 2 → ResOk R) ∧ r = .int .i64 R ∧ i = .int .i64 j ∧
    W.cell? ⟨w.heap.size, 0, none⟩ = some (.int .i64 A) ∧ W.cell? ⟨w.heap.size, 1, none⟩ = some (.int .i64 B) ∧ W.frozen? ⟨w.heap.size, 0, none⟩ = false ∧ W.frozen? ⟨w.heap.size, 1, none⟩ = false ∧ Below w.heap.size w W
set_option maxRecDepth 100000 in
set_option maxHeartbeats 4000000 in
theorem planecentres_walk (a b r : Int) (ha : -9223372036854775808 ≤ a) (ha' : a ≤ 9223372036854775807) (hb : -9223372036854775808 ≤ b) (hb' : b ≤ 9223372036854775807) (hr : -9223372036854775808 ≤ r) (hr' : r ≤ 9223372036854775807) (w : World) : Calls Try.prog 9 #[.agg #[.int .i64 a, .int .i64 b], .int .i64 r] w fun e w' => e = .returned (.bool true) ∧ Below w.heap.size w w' := by
  have eqA := eq_A2
  go_enter Try.func9, Try.ntmps9
  go_wp2_with fail
  go_loopw [1, 5] (fun r i W => PCRel w r i W) (fun _ i _ => 2 - (intOf i).toNat)
  case atStart => exact ⟨a, b, r, 0, by omega, ⟨ha, ha'⟩, ⟨hb, hb'⟩, ⟨hr, hr'⟩, by omega, rfl, rfl, by simp [go_sem], by simp [go_sem], by simp [go_sem], by simp [go_sem], by repeat (first | with_reducible exact Below.refl _ _ | with_reducible refine bl_alloc ?_ _ | with_reducible refine bl_drewN ?_ _ | with_reducible refine bl_drew ?_ | (with_reducible refine bl_set ?_ ?_ _; rotate_left; focus (first | (simp; done) | (simp; omega) | omega)) | with_reducible refine below_step ?_ (Bw.below _) | with_reducible refine below_step ?_ (by assumption))⟩
  case round =>
    clear ha ha' hb hb' hr hr'
    obtain ⟨A, B, R, j, hj, ⟨hA1, hA2⟩, ⟨hB1, hB2⟩, ⟨hR1, hR2⟩, hres, rfl, rfl, z1, z2, zf1, zf2, hb0⟩ := hrel
    by_cases hlt : j < 2
    · clear hres
      obtain ⟨K', hK', hr0⟩ := res_of R
      obtain ⟨m1, m2⟩ := tmod_bd A 1048576 (by omega)
      obtain ⟨m3, m4⟩ := tmod_bd B 1048576 (by omega)
      obtain ⟨m5, m6⟩ := tmod_bd R 13 (by omega)
      obtain ⟨R', hr1⟩ : ∃ R', (R.tmod 13 + 13).tmod 13 = R' := ⟨_, rfl⟩
      rw [hr1] at hr0
      have hres' : Hid (ResOk R') := Lib.hid ⟨K', hK', by omega⟩
      have n1 : 0 ≤ R' := by omega
      have n2 : R' ≤ 12 := by omega
      clear hr0
      by_cases hok : (0 ≤ R ∧ R ≤ 12) ∧ zOk A B = true
      · obtain ⟨⟨r1, r2⟩, hz⟩ := hok
        obtain ⟨K, hk⟩ : ∃ K : Nat, 12 - R = (K : Int) := ⟨(12 - R).toNat, by omega⟩
        have CE := Lib.hid (plane_centre A B R K (by omega) hk hz)
        have RC := Lib.hid (ref_centre A B R K (by omega) hk hz)
        have HX := Lib.hid (plane_hex A B R K (by omega) hk hz)
        have RX := Lib.hid (ref_hex A B R K (by omega) hk hz)
        clear hz hk hK' r1 r2
        generalize ceX A B K = cx at *
        generalize ceY A B K = cy at *
        generalize plA (3 * A) (3 * B) K = ma at *
        generalize plB (3 * A) (3 * B) K = mb at *
        have OH0 := fun (w : World) (B : Nat) (v : Value) (h : w.ownsRow B 45 2 v 6 (cnRow ma mb K 6)) => own_hex h
        have OH := Lib.hid OH0
        clear OH0
        generalize cnX ma mb K = X at *
        generalize cnY ma mb K = Y at *
        generalize cnRow ma mb K 6 = rw6 at *
        go_wp2_with fail
        refine calls_start (fun V => V.cell? ⟨w.heap.size, 0, none⟩ = some (.int .i64 A) ∧ V.frozen? ⟨w.heap.size, 0, none⟩ = false ∧ V.cell? ⟨w.heap.size, 1, none⟩ = some (.int .i64 B) ∧ V.frozen? ⟨w.heap.size, 1, none⟩ = false ∧ Below w.heap.size w V) ⟨by first | with_reducible assumption | (simp [go_sem]; done), by first | with_reducible assumption | (simp [go_sem]; done), by first | with_reducible assumption | (simp [go_sem]; done), by first | with_reducible assumption | (simp [go_sem]; done), by repeat (first | with_reducible exact Below.refl _ _ | with_reducible refine bl_alloc ?_ _ | with_reducible refine bl_drewN ?_ _ | with_reducible refine bl_drew ?_ | (with_reducible refine bl_set ?_ ?_ _; rotate_left; focus (first | (simp; done) | (simp; omega) | omega)) | with_reducible refine below_step ?_ (Bw.below _) | with_reducible refine below_step ?_ (by assumption))⟩ ?_
        rintro V ⟨hc1, fc1, hc2, fc2, hWc⟩ gc
        have c1 := Bw.hold hc1
        have cf1 := Bw.free hc1 fc1
        have c2 := Bw.hold hc2
        have cf2 := Bw.free hc2 fc2
        have cz1 := fun g : Bw V => cell_lt (c1 g)
        have cy1 := fun g : Bw V => Nat.le_of_lt (cz1 g)
        clear hc1 fc1 hc2 fc2
        clear z1 z2 zf1 zf2
        refine (CE.out _).mono ?_
        rintro e_g2 w_g2 ⟨rfl, hb_g2⟩
        obtain ⟨g2, rfl⟩ := gc.next hb_g2
        clear hb_g2
        go_wp2_with fail
        refine (RC.out _).mono ?_
        rintro e_g3 w_g3 ⟨rfl, hb_g3⟩
        obtain ⟨g3, rfl⟩ := g2.next hb_g3
        clear hb_g3
        go_wp2_with fail
        refine (HX.out _).mono ?_
        rintro e_h w_h ⟨v, rfl, own_h, hb_h⟩
        obtain ⟨g4, rfl⟩ := g3.next hb_h
        clear hb_h
        obtain ⟨hg, cap, rfl, hgb, k0, k1, k2, k3, k4, k5, k6, k7, k8, k9, k10, k11⟩ := OH.out _ _ _ own_h
        clear own_h
        go_wp2_with fail
        refine calls_start (fun V2 => V2.cell? ⟨w.heap.size, 0, none⟩ = some (.int .i64 A) ∧ V2.frozen? ⟨w.heap.size, 0, none⟩ = false ∧ V2.cell? ⟨w.heap.size, 1, none⟩ = some (.int .i64 B) ∧ V2.frozen? ⟨w.heap.size, 1, none⟩ = false ∧ V2.cell? ⟨hg, 0, none⟩ = some (.int .i64 (X 0)) ∧ V2.cell? ⟨hg, 1, none⟩ = some (.int .i64 (Y 0)) ∧ V2.cell? ⟨hg, 2, none⟩ = some (.int .i64 (X 1)) ∧ V2.cell? ⟨hg, 3, none⟩ = some (.int .i64 (Y 1)) ∧ V2.cell? ⟨hg, 4, none⟩ = some (.int .i64 (X 2)) ∧ V2.cell? ⟨hg, 5, none⟩ = some (.int .i64 (Y 2)) ∧ V2.cell? ⟨hg, 6, none⟩ = some (.int .i64 (X 3)) ∧ V2.cell? ⟨hg, 7, none⟩ = some (.int .i64 (Y 3)) ∧ V2.cell? ⟨hg, 8, none⟩ = some (.int .i64 (X 4)) ∧ V2.cell? ⟨hg, 9, none⟩ = some (.int .i64 (Y 4)) ∧ V2.cell? ⟨hg, 10, none⟩ = some (.int .i64 (X 5)) ∧ V2.cell? ⟨hg, 11, none⟩ = some (.int .i64 (Y 5)) ∧ Below w.heap.size w V2) ⟨by first | with_reducible assumption | (simp [go_sem]; done) | with_reducible exact hold_al c1 _ _ | with_reducible exact hold_al c2 _ _ | (simp [go_sem, c1, cf1, c2, cf2, cz1, cy1]; done), by first | with_reducible assumption | (simp [go_sem]; done) | with_reducible exact hold_alF c1 cf1 _ _ | with_reducible exact hold_alF c2 cf2 _ _ | (simp [go_sem, c1, cf1, c2, cf2, cz1, cy1]; done), by first | with_reducible assumption | (simp [go_sem]; done) | with_reducible exact hold_al c1 _ _ | with_reducible exact hold_al c2 _ _ | (simp [go_sem, c1, cf1, c2, cf2, cz1, cy1]; done), by first | with_reducible assumption | (simp [go_sem]; done) | with_reducible exact hold_alF c1 cf1 _ _ | with_reducible exact hold_alF c2 cf2 _ _ | (simp [go_sem, c1, cf1, c2, cf2, cz1, cy1]; done), by first | with_reducible assumption | (simp [go_sem]; done) | with_reducible exact hold_al c1 _ _ | with_reducible exact hold_al c2 _ _ | (simp [go_sem, c1, cf1, c2, cf2, cz1, cy1]; done), by first | with_reducible assumption | (simp [go_sem]; done) | with_reducible exact hold_al c1 _ _ | with_reducible exact hold_al c2 _ _ | (simp [go_sem, c1, cf1, c2, cf2, cz1, cy1]; done), by first | with_reducible assumption | (simp [go_sem]; done) | with_reducible exact hold_al c1 _ _ | with_reducible exact hold_al c2 _ _ | (simp [go_sem, c1, cf1, c2, cf2, cz1, cy1]; done), by first | with_reducible assumption | (simp [go_sem]; done) | with_reducible exact hold_al c1 _ _ | with_reducible exact hold_al c2 _ _ | (simp [go_sem, c1, cf1, c2, cf2, cz1, cy1]; done), by first | with_reducible assumption | (simp [go_sem]; done) | with_reducible exact hold_al c1 _ _ | with_reducible exact hold_al c2 _ _ | (simp [go_sem, c1, cf1, c2, cf2, cz1, cy1]; done), by first | with_reducible assumption | (simp [go_sem]; done) | with_reducible exact hold_al c1 _ _ | with_reducible exact hold_al c2 _ _ | (simp [go_sem, c1, cf1, c2, cf2, cz1, cy1]; done), by first | with_reducible assumption | (simp [go_sem]; done) | with_reducible exact hold_al c1 _ _ | with_reducible exact hold_al c2 _ _ | (simp [go_sem, c1, cf1, c2, cf2, cz1, cy1]; done), by first | with_reducible assumption | (simp [go_sem]; done) | with_reducible exact hold_al c1 _ _ | with_reducible exact hold_al c2 _ _ | (simp [go_sem, c1, cf1, c2, cf2, cz1, cy1]; done), by first | with_reducible assumption | (simp [go_sem]; done) | with_reducible exact hold_al c1 _ _ | with_reducible exact hold_al c2 _ _ | (simp [go_sem, c1, cf1, c2, cf2, cz1, cy1]; done), by first | with_reducible assumption | (simp [go_sem]; done) | with_reducible exact hold_al c1 _ _ | with_reducible exact hold_al c2 _ _ | (simp [go_sem, c1, cf1, c2, cf2, cz1, cy1]; done), by first | with_reducible assumption | (simp [go_sem]; done) | with_reducible exact hold_al c1 _ _ | with_reducible exact hold_al c2 _ _ | (simp [go_sem, c1, cf1, c2, cf2, cz1, cy1]; done), by first | with_reducible assumption | (simp [go_sem]; done) | with_reducible exact hold_al c1 _ _ | with_reducible exact hold_al c2 _ _ | (simp [go_sem, c1, cf1, c2, cf2, cz1, cy1]; done), by repeat (first | with_reducible exact Below.refl _ _ | with_reducible refine bl_alloc ?_ _ | with_reducible refine bl_drewN ?_ _ | with_reducible refine bl_drew ?_ | (with_reducible refine bl_set ?_ ?_ _; rotate_left; focus (first | (simp; done) | (simp; omega) | omega)) | with_reducible refine below_step ?_ (Bw.below _) | with_reducible refine below_step ?_ (by assumption))⟩ ?_
        rintro V2 ⟨hd1, fd1, hd2, fd2, hd3, hd4, hd5, hd6, hd7, hd8, hd9, hd10, hd11, hd12, hd13, hd14, hWd⟩ gd
        have d1 := Bw.hold hd1
        have df1 := Bw.free hd1 fd1
        have d2 := Bw.hold hd2
        have df2 := Bw.free hd2 fd2
        have d3 := Bw.hold hd3
        have d4 := Bw.hold hd4
        have d5 := Bw.hold hd5
        have d6 := Bw.hold hd6
        have d7 := Bw.hold hd7
        have d8 := Bw.hold hd8
        have d9 := Bw.hold hd9
        have d10 := Bw.hold hd10
        have d11 := Bw.hold hd11
        have d12 := Bw.hold hd12
        have d13 := Bw.hold hd13
        have d14 := Bw.hold hd14
        have dz1 := fun g : Bw V2 => cell_lt (d1 g)
        have dy1 := fun g : Bw V2 => Nat.le_of_lt (dz1 g)
        have dz3 := fun g : Bw V2 => cell_lt (d3 g)
        have dy3 := fun g : Bw V2 => Nat.le_of_lt (dz3 g)
        clear hd1 fd1 hd2 fd2 hd3 hd4 hd5 hd6 hd7 hd8 hd9 hd10 hd11 hd12 hd13 hd14
        clear k0 k1 k2 k3 k4 k5 k6 k7 k8 k9 k10 k11
        clear c1 cf1 c2 cf2 cz1 cy1
        refine (RX.out _).mono ?_
        rintro e_h w_h ⟨v, rfl, own_h, hb_h⟩
        obtain ⟨g5, rfl⟩ := gd.next hb_h
        clear hb_h
        obtain ⟨hg', cap', rfl, hgb', k0, k1, k2, k3, k4, k5, k6, k7, k8, k9, k10, k11⟩ := OH.out _ _ _ own_h
        clear own_h CE RC HX RX OH
        go_wp2_with fail
        refine wp_start (fun V3 => V3.cell? ⟨w.heap.size, 0, none⟩ = some (.int .i64 A) ∧ V3.frozen? ⟨w.heap.size, 0, none⟩ = false ∧ V3.cell? ⟨w.heap.size, 1, none⟩ = some (.int .i64 B) ∧ V3.frozen? ⟨w.heap.size, 1, none⟩ = false ∧ V3.cell? ⟨hg, 0, none⟩ = some (.int .i64 (X 0)) ∧ V3.cell? ⟨hg, 1, none⟩ = some (.int .i64 (Y 0)) ∧ V3.cell? ⟨hg, 2, none⟩ = some (.int .i64 (X 1)) ∧ V3.cell? ⟨hg, 3, none⟩ = some (.int .i64 (Y 1)) ∧ V3.cell? ⟨hg, 4, none⟩ = some (.int .i64 (X 2)) ∧ V3.cell? ⟨hg, 5, none⟩ = some (.int .i64 (Y 2)) ∧ V3.cell? ⟨hg, 6, none⟩ = some (.int .i64 (X 3)) ∧ V3.cell? ⟨hg, 7, none⟩ = some (.int .i64 (Y 3)) ∧ V3.cell? ⟨hg, 8, none⟩ = some (.int .i64 (X 4)) ∧ V3.cell? ⟨hg, 9, none⟩ = some (.int .i64 (Y 4)) ∧ V3.cell? ⟨hg, 10, none⟩ = some (.int .i64 (X 5)) ∧ V3.cell? ⟨hg, 11, none⟩ = some (.int .i64 (Y 5)) ∧ V3.cell? ⟨hg', 0, none⟩ = some (.int .i64 (X 0)) ∧ V3.cell? ⟨hg', 1, none⟩ = some (.int .i64 (Y 0)) ∧ V3.cell? ⟨hg', 2, none⟩ = some (.int .i64 (X 1)) ∧ V3.cell? ⟨hg', 3, none⟩ = some (.int .i64 (Y 1)) ∧ V3.cell? ⟨hg', 4, none⟩ = some (.int .i64 (X 2)) ∧ V3.cell? ⟨hg', 5, none⟩ = some (.int .i64 (Y 2)) ∧ V3.cell? ⟨hg', 6, none⟩ = some (.int .i64 (X 3)) ∧ V3.cell? ⟨hg', 7, none⟩ = some (.int .i64 (Y 3)) ∧ V3.cell? ⟨hg', 8, none⟩ = some (.int .i64 (X 4)) ∧ V3.cell? ⟨hg', 9, none⟩ = some (.int .i64 (Y 4)) ∧ V3.cell? ⟨hg', 10, none⟩ = some (.int .i64 (X 5)) ∧ V3.cell? ⟨hg', 11, none⟩ = some (.int .i64 (Y 5)) ∧ Below w.heap.size w V3) ⟨by first | with_reducible assumption | (simp [go_sem]; done) | with_reducible exact hold_al d1 _ _ | with_reducible exact hold_al d2 _ _ | with_reducible exact hold_al d3 _ _ | with_reducible exact hold_al d4 _ _ | with_reducible exact hold_al d5 _ _ | with_reducible exact hold_al d6 _ _ | with_reducible exact hold_al d7 _ _ | with_reducible exact hold_al d8 _ _ | with_reducible exact hold_al d9 _ _ | with_reducible exact hold_al d10 _ _ | with_reducible exact hold_al d11 _ _ | with_reducible exact hold_al d12 _ _ | with_reducible exact hold_al d13 _ _ | with_reducible exact hold_al d14 _ _ | (simp [go_sem, d1, df1, d2, df2, d3, d4, d5, d6, d7, d8, d9, d10, d11, d12, d13, d14, dz1, dy1, dz3, dy3]; done), by first | with_reducible assumption | (simp [go_sem]; done) | with_reducible exact hold_alF d1 df1 _ _ | with_reducible exact hold_alF d2 df2 _ _ | (simp [go_sem, d1, df1, d2, df2, d3, d4, d5, d6, d7, d8, d9, d10, d11, d12, d13, d14, dz1, dy1, dz3, dy3]; done), by first | with_reducible assumption | (simp [go_sem]; done) | with_reducible exact hold_al d1 _ _ | with_reducible exact hold_al d2 _ _ | with_reducible exact hold_al d3 _ _ | with_reducible exact hold_al d4 _ _ | with_reducible exact hold_al d5 _ _ | with_reducible exact hold_al d6 _ _ | with_reducible exact hold_al d7 _ _ | with_reducible exact hold_al d8 _ _ | with_reducible exact hold_al d9 _ _ | with_reducible exact hold_al d10 _ _ | with_reducible exact hold_al d11 _ _ | with_reducible exact hold_al d12 _ _ | with_reducible exact hold_al d13 _ _ | with_reducible exact hold_al d14 _ _ | (simp [go_sem, d1, df1, d2, df2, d3, d4, d5, d6, d7, d8, d9, d10, d11, d12, d13, d14, dz1, dy1, dz3, dy3]; done), by first | with_reducible assumption | (simp [go_sem]; done) | with_reducible exact hold_alF d1 df1 _ _ | with_reducible exact hold_alF d2 df2 _ _ | (simp [go_sem, d1, df1, d2, df2, d3, d4, d5, d6, d7, d8, d9, d10, d11, d12, d13, d14, dz1, dy1, dz3, dy3]; done), by first | with_reducible assumption | (simp [go_sem]; done) | with_reducible exact hold_al d1 _ _ | with_reducible exact hold_al d2 _ _ | with_reducible exact hold_al d3 _ _ | with_reducible exact hold_al d4 _ _ | with_reducible exact hold_al d5 _ _ | with_reducible exact hold_al d6 _ _ | with_reducible exact hold_al d7 _ _ | with_reducible exact hold_al d8 _ _ | with_reducible exact hold_al d9 _ _ | with_reducible exact hold_al d10 _ _ | with_reducible exact hold_al d11 _ _ | with_reducible exact hold_al d12 _ _ | with_reducible exact hold_al d13 _ _ | with_reducible exact hold_al d14 _ _ | (simp [go_sem, d1, df1, d2, df2, d3, d4, d5, d6, d7, d8, d9, d10, d11, d12, d13, d14, dz1, dy1, dz3, dy3]; done), by first | with_reducible assumption | (simp [go_sem]; done) | with_reducible exact hold_al d1 _ _ | with_reducible exact hold_al d2 _ _ | with_reducible exact hold_al d3 _ _ | with_reducible exact hold_al d4 _ _ | with_reducible exact hold_al d5 _ _ | with_reducible exact hold_al d6 _ _ | with_reducible exact hold_al d7 _ _ | with_reducible exact hold_al d8 _ _ | with_reducible exact hold_al d9 _ _ | with_reducible exact hold_al d10 _ _ | with_reducible exact hold_al d11 _ _ | with_reducible exact hold_al d12 _ _ | with_reducible exact hold_al d13 _ _ | with_reducible exact hold_al d14 _ _ | (simp [go_sem, d1, df1, d2, df2, d3, d4, d5, d6, d7, d8, d9, d10, d11, d12, d13, d14, dz1, dy1, dz3, dy3]; done), by first | with_reducible assumption | (simp [go_sem]; done) | with_reducible exact hold_al d1 _ _ | with_reducible exact hold_al d2 _ _ | with_reducible exact hold_al d3 _ _ | with_reducible exact hold_al d4 _ _ | with_reducible exact hold_al d5 _ _ | with_reducible exact hold_al d6 _ _ | with_reducible exact hold_al d7 _ _ | with_reducible exact hold_al d8 _ _ | with_reducible exact hold_al d9 _ _ | with_reducible exact hold_al d10 _ _ | with_reducible exact hold_al d11 _ _ | with_reducible exact hold_al d12 _ _ | with_reducible exact hold_al d13 _ _ | with_reducible exact hold_al d14 _ _ | (simp [go_sem, d1, df1, d2, df2, d3, d4, d5, d6, d7, d8, d9, d10, d11, d12, d13, d14, dz1, dy1, dz3, dy3]; done), by first | with_reducible assumption | (simp [go_sem]; done) | with_reducible exact hold_al d1 _ _ | with_reducible exact hold_al d2 _ _ | with_reducible exact hold_al d3 _ _ | with_reducible exact hold_al d4 _ _ | with_reducible exact hold_al d5 _ _ | with_reducible exact hold_al d6 _ _ | with_reducible exact hold_al d7 _ _ | with_reducible exact hold_al d8 _ _ | with_reducible exact hold_al d9 _ _ | with_reducible exact hold_al d10 _ _ | with_reducible exact hold_al d11 _ _ | with_reducible exact hold_al d12 _ _ | with_reducible exact hold_al d13 _ _ | with_reducible exact hold_al d14 _ _ | (simp [go_sem, d1, df1, d2, df2, d3, d4, d5, d6, d7, d8, d9, d10, d11, d12, d13, d14, dz1, dy1, dz3, dy3]; done), by first | with_reducible assumption | (simp [go_sem]; done) | with_reducible exact hold_al d1 _ _ | with_reducible exact hold_al d2 _ _ | with_reducible exact hold_al d3 _ _ | with_reducible exact hold_al d4 _ _ | with_reducible exact hold_al d5 _ _ | with_reducible exact hold_al d6 _ _ | with_reducible exact hold_al d7 _ _ | with_reducible exact hold_al d8 _ _ | with_reducible exact hold_al d9 _ _ | with_reducible exact hold_al d10 _ _ | with_reducible exact hold_al d11 _ _ | with_reducible exact hold_al d12 _ _ | with_reducible exact hold_al d13 _ _ | with_reducible exact hold_al d14 _ _ | (simp [go_sem, d1, df1, d2, df2, d3, d4, d5, d6, d7, d8, d9, d10, d11, d12, d13, d14, dz1, dy1, dz3, dy3]; done), by first | with_reducible assumption | (simp [go_sem]; done) | with_reducible exact hold_al d1 _ _ | with_reducible exact hold_al d2 _ _ | with_reducible exact hold_al d3 _ _ | with_reducible exact hold_al d4 _ _ | with_reducible exact hold_al d5 _ _ | with_reducible exact hold_al d6 _ _ | with_reducible exact hold_al d7 _ _ | with_reducible exact hold_al d8 _ _ | with_reducible exact hold_al d9 _ _ | with_reducible exact hold_al d10 _ _ | with_reducible exact hold_al d11 _ _ | with_reducible exact hold_al d12 _ _ | with_reducible exact hold_al d13 _ _ | with_reducible exact hold_al d14 _ _ | (simp [go_sem, d1, df1, d2, df2, d3, d4, d5, d6, d7, d8, d9, d10, d11, d12, d13, d14, dz1, dy1, dz3, dy3]; done), by first | with_reducible assumption | (simp [go_sem]; done) | with_reducible exact hold_al d1 _ _ | with_reducible exact hold_al d2 _ _ | with_reducible exact hold_al d3 _ _ | with_reducible exact hold_al d4 _ _ | with_reducible exact hold_al d5 _ _ | with_reducible exact hold_al d6 _ _ | with_reducible exact hold_al d7 _ _ | with_reducible exact hold_al d8 _ _ | with_reducible exact hold_al d9 _ _ | with_reducible exact hold_al d10 _ _ | with_reducible exact hold_al d11 _ _ | with_reducible exact hold_al d12 _ _ | with_reducible exact hold_al d13 _ _ | with_reducible exact hold_al d14 _ _ | (simp [go_sem, d1, df1, d2, df2, d3, d4, d5, d6, d7, d8, d9, d10, d11, d12, d13, d14, dz1, dy1, dz3, dy3]; done), by first | with_reducible assumption | (simp [go_sem]; done) | with_reducible exact hold_al d1 _ _ | with_reducible exact hold_al d2 _ _ | with_reducible exact hold_al d3 _ _ | with_reducible exact hold_al d4 _ _ | with_reducible exact hold_al d5 _ _ | with_reducible exact hold_al d6 _ _ | with_reducible exact hold_al d7 _ _ | with_reducible exact hold_al d8 _ _ | with_reducible exact hold_al d9 _ _ | with_reducible exact hold_al d10 _ _ | with_reducible exact hold_al d11 _ _ | with_reducible exact hold_al d12 _ _ | with_reducible exact hold_al d13 _ _ | with_reducible exact hold_al d14 _ _ | (simp [go_sem, d1, df1, d2, df2, d3, d4, d5, d6, d7, d8, d9, d10, d11, d12, d13, d14, dz1, dy1, dz3, dy3]; done), by first | with_reducible assumption | (simp [go_sem]; done) | with_reducible exact hold_al d1 _ _ | with_reducible exact hold_al d2 _ _ | with_reducible exact hold_al d3 _ _ | with_reducible exact hold_al d4 _ _ | with_reducible exact hold_al d5 _ _ | with_reducible exact hold_al d6 _ _ | with_reducible exact hold_al d7 _ _ | with_reducible exact hold_al d8 _ _ | with_reducible exact hold_al d9 _ _ | with_reducible exact hold_al d10 _ _ | with_reducible exact hold_al d11 _ _ | with_reducible exact hold_al d12 _ _ | with_reducible exact hold_al d13 _ _ | with_reducible exact hold_al d14 _ _ | (simp [go_sem, d1, df1, d2, df2, d3, d4, d5, d6, d7, d8, d9, d10, d11, d12, d13, d14, dz1, dy1, dz3, dy3]; done), by first | with_reducible assumption | (simp [go_sem]; done) | with_reducible exact hold_al d1 _ _ | with_reducible exact hold_al d2 _ _ | with_reducible exact hold_al d3 _ _ | with_reducible exact hold_al d4 _ _ | with_reducible exact hold_al d5 _ _ | with_reducible exact hold_al d6 _ _ | with_reducible exact hold_al d7 _ _ | with_reducible exact hold_al d8 _ _ | with_reducible exact hold_al d9 _ _ | with_reducible exact hold_al d10 _ _ | with_reducible exact hold_al d11 _ _ | with_reducible exact hold_al d12 _ _ | with_reducible exact hold_al d13 _ _ | with_reducible exact hold_al d14 _ _ | (simp [go_sem, d1, df1, d2, df2, d3, d4, d5, d6, d7, d8, d9, d10, d11, d12, d13, d14, dz1, dy1, dz3, dy3]; done), by first | with_reducible assumption | (simp [go_sem]; done) | with_reducible exact hold_al d1 _ _ | with_reducible exact hold_al d2 _ _ | with_reducible exact hold_al d3 _ _ | with_reducible exact hold_al d4 _ _ | with_reducible exact hold_al d5 _ _ | with_reducible exact hold_al d6 _ _ | with_reducible exact hold_al d7 _ _ | with_reducible exact hold_al d8 _ _ | with_reducible exact hold_al d9 _ _ | with_reducible exact hold_al d10 _ _ | with_reducible exact hold_al d11 _ _ | with_reducible exact hold_al d12 _ _ | with_reducible exact hold_al d13 _ _ | with_reducible exact hold_al d14 _ _ | (simp [go_sem, d1, df1, d2, df2, d3, d4, d5, d6, d7, d8, d9, d10, d11, d12, d13, d14, dz1, dy1, dz3, dy3]; done), by first | with_reducible assumption | (simp [go_sem]; done) | with_reducible exact hold_al d1 _ _ | with_reducible exact hold_al d2 _ _ | with_reducible exact hold_al d3 _ _ | with_reducible exact hold_al d4 _ _ | with_reducible exact hold_al d5 _ _ | with_reducible exact hold_al d6 _ _ | with_reducible exact hold_al d7 _ _ | with_reducible exact hold_al d8 _ _ | with_reducible exact hold_al d9 _ _ | with_reducible exact hold_al d10 _ _ | with_reducible exact hold_al d11 _ _ | with_reducible exact hold_al d12 _ _ | with_reducible exact hold_al d13 _ _ | with_reducible exact hold_al d14 _ _ | (simp [go_sem, d1, df1, d2, df2, d3, d4, d5, d6, d7, d8, d9, d10, d11, d12, d13, d14, dz1, dy1, dz3, dy3]; done), by first | with_reducible assumption | (simp [go_sem]; done) | with_reducible exact hold_al d1 _ _ | with_reducible exact hold_al d2 _ _ | with_reducible exact hold_al d3 _ _ | with_reducible exact hold_al d4 _ _ | with_reducible exact hold_al d5 _ _ | with_reducible exact hold_al d6 _ _ | with_reducible exact hold_al d7 _ _ | with_reducible exact hold_al d8 _ _ | with_reducible exact hold_al d9 _ _ | with_reducible exact hold_al d10 _ _ | with_reducible exact hold_al d11 _ _ | with_reducible exact hold_al d12 _ _ | with_reducible exact hold_al d13 _ _ | with_reducible exact hold_al d14 _ _ | (simp [go_sem, d1, df1, d2, df2, d3, d4, d5, d6, d7, d8, d9, d10, d11, d12, d13, d14, dz1, dy1, dz3, dy3]; done), by first | with_reducible assumption | (simp [go_sem]; done) | with_reducible exact hold_al d1 _ _ | with_reducible exact hold_al d2 _ _ | with_reducible exact hold_al d3 _ _ | with_reducible exact hold_al d4 _ _ | with_reducible exact hold_al d5 _ _ | with_reducible exact hold_al d6 _ _ | with_reducible exact hold_al d7 _ _ | with_reducible exact hold_al d8 _ _ | with_reducible exact hold_al d9 _ _ | with_reducible exact hold_al d10 _ _ | with_reducible exact hold_al d11 _ _ | with_reducible exact hold_al d12 _ _ | with_reducible exact hold_al d13 _ _ | with_reducible exact hold_al d14 _ _ | (simp [go_sem, d1, df1, d2, df2, d3, d4, d5, d6, d7, d8, d9, d10, d11, d12, d13, d14, dz1, dy1, dz3, dy3]; done), by first | with_reducible assumption | (simp [go_sem]; done) | with_reducible exact hold_al d1 _ _ | with_reducible exact hold_al d2 _ _ | with_reducible exact hold_al d3 _ _ | with_reducible exact hold_al d4 _ _ | with_reducible exact hold_al d5 _ _ | with_reducible exact hold_al d6 _ _ | with_reducible exact hold_al d7 _ _ | with_reducible exact hold_al d8 _ _ | with_reducible exact hold_al d9 _ _ | with_reducible exact hold_al d10 _ _ | with_reducible exact hold_al d11 _ _ | with_reducible exact hold_al d12 _ _ | with_reducible exact hold_al d13 _ _ | with_reducible exact hold_al d14 _ _ | (simp [go_sem, d1, df1, d2, df2, d3, d4, d5, d6, d7, d8, d9, d10, d11, d12, d13, d14, dz1, dy1, dz3, dy3]; done), by first | with_reducible assumption | (simp [go_sem]; done) | with_reducible exact hold_al d1 _ _ | with_reducible exact hold_al d2 _ _ | with_reducible exact hold_al d3 _ _ | with_reducible exact hold_al d4 _ _ | with_reducible exact hold_al d5 _ _ | with_reducible exact hold_al d6 _ _ | with_reducible exact hold_al d7 _ _ | with_reducible exact hold_al d8 _ _ | with_reducible exact hold_al d9 _ _ | with_reducible exact hold_al d10 _ _ | with_reducible exact hold_al d11 _ _ | with_reducible exact hold_al d12 _ _ | with_reducible exact hold_al d13 _ _ | with_reducible exact hold_al d14 _ _ | (simp [go_sem, d1, df1, d2, df2, d3, d4, d5, d6, d7, d8, d9, d10, d11, d12, d13, d14, dz1, dy1, dz3, dy3]; done), by first | with_reducible assumption | (simp [go_sem]; done) | with_reducible exact hold_al d1 _ _ | with_reducible exact hold_al d2 _ _ | with_reducible exact hold_al d3 _ _ | with_reducible exact hold_al d4 _ _ | with_reducible exact hold_al d5 _ _ | with_reducible exact hold_al d6 _ _ | with_reducible exact hold_al d7 _ _ | with_reducible exact hold_al d8 _ _ | with_reducible exact hold_al d9 _ _ | with_reducible exact hold_al d10 _ _ | with_reducible exact hold_al d11 _ _ | with_reducible exact hold_al d12 _ _ | with_reducible exact hold_al d13 _ _ | with_reducible exact hold_al d14 _ _ | (simp [go_sem, d1, df1, d2, df2, d3, d4, d5, d6, d7, d8, d9, d10, d11, d12, d13, d14, dz1, dy1, dz3, dy3]; done), by first | with_reducible assumption | (simp [go_sem]; done) | with_reducible exact hold_al d1 _ _ | with_reducible exact hold_al d2 _ _ | with_reducible exact hold_al d3 _ _ | with_reducible exact hold_al d4 _ _ | with_reducible exact hold_al d5 _ _ | with_reducible exact hold_al d6 _ _ | with_reducible exact hold_al d7 _ _ | with_reducible exact hold_al d8 _ _ | with_reducible exact hold_al d9 _ _ | with_reducible exact hold_al d10 _ _ | with_reducible exact hold_al d11 _ _ | with_reducible exact hold_al d12 _ _ | with_reducible exact hold_al d13 _ _ | with_reducible exact hold_al d14 _ _ | (simp [go_sem, d1, df1, d2, df2, d3, d4, d5, d6, d7, d8, d9, d10, d11, d12, d13, d14, dz1, dy1, dz3, dy3]; done), by first | with_reducible assumption | (simp [go_sem]; done) | with_reducible exact hold_al d1 _ _ | with_reducible exact hold_al d2 _ _ | with_reducible exact hold_al d3 _ _ | with_reducible exact hold_al d4 _ _ | with_reducible exact hold_al d5 _ _ | with_reducible exact hold_al d6 _ _ | with_reducible exact hold_al d7 _ _ | with_reducible exact hold_al d8 _ _ | with_reducible exact hold_al d9 _ _ | with_reducible exact hold_al d10 _ _ | with_reducible exact hold_al d11 _ _ | with_reducible exact hold_al d12 _ _ | with_reducible exact hold_al d13 _ _ | with_reducible exact hold_al d14 _ _ | (simp [go_sem, d1, df1, d2, df2, d3, d4, d5, d6, d7, d8, d9, d10, d11, d12, d13, d14, dz1, dy1, dz3, dy3]; done), by first | with_reducible assumption | (simp [go_sem]; done) | with_reducible exact hold_al d1 _ _ | with_reducible exact hold_al d2 _ _ | with_reducible exact hold_al d3 _ _ | with_reducible exact hold_al d4 _ _ | with_reducible exact hold_al d5 _ _ | with_reducible exact hold_al d6 _ _ | with_reducible exact hold_al d7 _ _ | with_reducible exact hold_al d8 _ _ | with_reducible exact hold_al d9 _ _ | with_reducible exact hold_al d10 _ _ | with_reducible exact hold_al d11 _ _ | with_reducible exact hold_al d12 _ _ | with_reducible exact hold_al d13 _ _ | with_reducible exact hold_al d14 _ _ | (simp [go_sem, d1, df1, d2, df2, d3, d4, d5, d6, d7, d8, d9, d10, d11, d12, d13, d14, dz1, dy1, dz3, dy3]; done), by first | with_reducible assumption | (simp [go_sem]; done) | with_reducible exact hold_al d1 _ _ | with_reducible exact hold_al d2 _ _ | with_reducible exact hold_al d3 _ _ | with_reducible exact hold_al d4 _ _ | with_reducible exact hold_al d5 _ _ | with_reducible exact hold_al d6 _ _ | with_reducible exact hold_al d7 _ _ | with_reducible exact hold_al d8 _ _ | with_reducible exact hold_al d9 _ _ | with_reducible exact hold_al d10 _ _ | with_reducible exact hold_al d11 _ _ | with_reducible exact hold_al d12 _ _ | with_reducible exact hold_al d13 _ _ | with_reducible exact hold_al d14 _ _ | (simp [go_sem, d1, df1, d2, df2, d3, d4, d5, d6, d7, d8, d9, d10, d11, d12, d13, d14, dz1, dy1, dz3, dy3]; done), by first | with_reducible assumption | (simp [go_sem]; done) | with_reducible exact hold_al d1 _ _ | with_reducible exact hold_al d2 _ _ | with_reducible exact hold_al d3 _ _ | with_reducible exact hold_al d4 _ _ | with_reducible exact hold_al d5 _ _ | with_reducible exact hold_al d6 _ _ | with_reducible exact hold_al d7 _ _ | with_reducible exact hold_al d8 _ _ | with_reducible exact hold_al d9 _ _ | with_reducible exact hold_al d10 _ _ | with_reducible exact hold_al d11 _ _ | with_reducible exact hold_al d12 _ _ | with_reducible exact hold_al d13 _ _ | with_reducible exact hold_al d14 _ _ | (simp [go_sem, d1, df1, d2, df2, d3, d4, d5, d6, d7, d8, d9, d10, d11, d12, d13, d14, dz1, dy1, dz3, dy3]; done), by first | with_reducible assumption | (simp [go_sem]; done) | with_reducible exact hold_al d1 _ _ | with_reducible exact hold_al d2 _ _ | with_reducible exact hold_al d3 _ _ | with_reducible exact hold_al d4 _ _ | with_reducible exact hold_al d5 _ _ | with_reducible exact hold_al d6 _ _ | with_reducible exact hold_al d7 _ _ | with_reducible exact hold_al d8 _ _ | with_reducible exact hold_al d9 _ _ | with_reducible exact hold_al d10 _ _ | with_reducible exact hold_al d11 _ _ | with_reducible exact hold_al d12 _ _ | with_reducible exact hold_al d13 _ _ | with_reducible exact hold_al d14 _ _ | (simp [go_sem, d1, df1, d2, df2, d3, d4, d5, d6, d7, d8, d9, d10, d11, d12, d13, d14, dz1, dy1, dz3, dy3]; done), by first | with_reducible assumption | (simp [go_sem]; done) | with_reducible exact hold_al d1 _ _ | with_reducible exact hold_al d2 _ _ | with_reducible exact hold_al d3 _ _ | with_reducible exact hold_al d4 _ _ | with_reducible exact hold_al d5 _ _ | with_reducible exact hold_al d6 _ _ | with_reducible exact hold_al d7 _ _ | with_reducible exact hold_al d8 _ _ | with_reducible exact hold_al d9 _ _ | with_reducible exact hold_al d10 _ _ | with_reducible exact hold_al d11 _ _ | with_reducible exact hold_al d12 _ _ | with_reducible exact hold_al d13 _ _ | with_reducible exact hold_al d14 _ _ | (simp [go_sem, d1, df1, d2, df2, d3, d4, d5, d6, d7, d8, d9, d10, d11, d12, d13, d14, dz1, dy1, dz3, dy3]; done), by repeat (first | with_reducible exact Below.refl _ _ | with_reducible refine bl_alloc ?_ _ | with_reducible refine bl_drewN ?_ _ | with_reducible refine bl_drew ?_ | (with_reducible refine bl_set ?_ ?_ _; rotate_left; focus (first | (simp; done) | (simp; omega) | omega)) | with_reducible refine below_step ?_ (Bw.below _) | with_reducible refine below_step ?_ (by assumption))⟩ ?_
        rintro V3 ⟨hq1, fq1, hq2, fq2, hq3, hq4, hq5, hq6, hq7, hq8, hq9, hq10, hq11, hq12, hq13, hq14, hq15, hq16, hq17, hq18, hq19, hq20, hq21, hq22, hq23, hq24, hq25, hq26, hWq⟩ gq
        have q1 := Bw.hold hq1
        have qf1 := Bw.free hq1 fq1
        have q2 := Bw.hold hq2
        have qf2 := Bw.free hq2 fq2
        have q3 := Bw.hold hq3
        have q4 := Bw.hold hq4
        have q5 := Bw.hold hq5
        have q6 := Bw.hold hq6
        have q7 := Bw.hold hq7
        have q8 := Bw.hold hq8
        have q9 := Bw.hold hq9
        have q10 := Bw.hold hq10
        have q11 := Bw.hold hq11
        have q12 := Bw.hold hq12
        have q13 := Bw.hold hq13
        have q14 := Bw.hold hq14
        have q15 := Bw.hold hq15
        have q16 := Bw.hold hq16
        have q17 := Bw.hold hq17
        have q18 := Bw.hold hq18
        have q19 := Bw.hold hq19
        have q20 := Bw.hold hq20
        have q21 := Bw.hold hq21
        have q22 := Bw.hold hq22
        have q23 := Bw.hold hq23
        have q24 := Bw.hold hq24
        have q25 := Bw.hold hq25
        have q26 := Bw.hold hq26
        have qz1 := fun g : Bw V3 => cell_lt (q1 g)
        have qy1 := fun g : Bw V3 => Nat.le_of_lt (qz1 g)
        have qz3 := fun g : Bw V3 => cell_lt (q3 g)
        have qy3 := fun g : Bw V3 => Nat.le_of_lt (qz3 g)
        have qz15 := fun g : Bw V3 => cell_lt (q15 g)
        have qy15 := fun g : Bw V3 => Nat.le_of_lt (qz15 g)
        clear hq1 fq1 hq2 fq2 hq3 hq4 hq5 hq6 hq7 hq8 hq9 hq10 hq11 hq12 hq13 hq14 hq15 hq16 hq17 hq18 hq19 hq20 hq21 hq22 hq23 hq24 hq25 hq26
        clear k0 k1 k2 k3 k4 k5 k6 k7 k8 k9 k10 k11
        clear d1 df1 d2 df2 d3 d4 d5 d6 d7 d8 d9 d10 d11 d12 d13 d14 dz1 dy1 dz3 dy3
        go_loopw [15] (fun k W => ∃ m : Nat, m ≤ 6 ∧ k = .int .i64 m ∧ Below V3.heap.size V3 W) (fun k _ => 6 - (intOf k).toNat)
        case atStart => exact ⟨0, by omega, rfl, by repeat (first | with_reducible exact Below.refl _ _ | with_reducible refine bl_alloc ?_ _ | with_reducible refine bl_drewN ?_ _ | with_reducible refine bl_drew ?_ | (with_reducible refine bl_set ?_ ?_ _; rotate_left; focus (first | (simp; done) | (simp; omega) | omega)) | with_reducible refine below_step ?_ (Bw.below _) | with_reducible refine below_step ?_ (by assumption))⟩
        case round =>
          obtain ⟨m, hm, rfl, hb⟩ := hrel
          obtain ⟨g', rfl⟩ := bw_of hb
          rcases (show m = 0 ∨ m = 1 ∨ m = 2 ∨ m = 3 ∨ m = 4 ∨ m = 5 ∨ m = 6 by omega) with rfl | rfl | rfl | rfl | rfl | rfl | rfl
          · go_wp2_with fail
            have hbg := g'.below
            have i1 := q1 g'
            have if1 := qf1 g'
            have i2 := q2 g'
            have if2 := qf2 g'
            have i3 := q3 g'
            have i4 := q4 g'
            have i5 := q5 g'
            have i6 := q6 g'
            have i7 := q7 g'
            have i8 := q8 g'
            have i9 := q9 g'
            have i10 := q10 g'
            have i11 := q11 g'
            have i12 := q12 g'
            have i13 := q13 g'
            have i14 := q14 g'
            have i15 := q15 g'
            have i16 := q16 g'
            have i17 := q17 g'
            have i18 := q18 g'
            have i19 := q19 g'
            have i20 := q20 g'
            have i21 := q21 g'
            have i22 := q22 g'
            have i23 := q23 g'
            have i24 := q24 g'
            have i25 := q25 g'
            have i26 := q26 g'
            have hWi := below_step hWq (Bw.below g')
            clear q1 qf1 q2 qf2 q3 q4 q5 q6 q7 q8 q9 q10 q11 q12 q13 q14 q15 q16 q17 q18 q19 q20 q21 q22 q23 q24 q25 q26 qz1 qy1 qz3 qy3 qz15 qy15
            generalize Bw.out g' = w0 at *
            clear hWi
            go_region
            go_wp2_with fail
            go_roundw
            case rel => exact ⟨1, by omega, by go_num, by repeat (first | with_reducible exact Below.refl _ _ | with_reducible refine bl_alloc ?_ _ | with_reducible refine bl_drewN ?_ _ | with_reducible refine bl_drew ?_ | (with_reducible refine bl_set ?_ ?_ _; rotate_left; focus (first | (simp; done) | (simp; omega) | omega)) | with_reducible refine below_step ?_ (Bw.below _) | with_reducible refine below_step ?_ (by assumption))⟩
            case measure => simp [intOf]
          · go_wp2_with fail
            have hbg := g'.below
            have i1 := q1 g'
            have if1 := qf1 g'
            have i2 := q2 g'
            have if2 := qf2 g'
            have i3 := q3 g'
            have i4 := q4 g'
            have i5 := q5 g'
            have i6 := q6 g'
            have i7 := q7 g'
            have i8 := q8 g'
            have i9 := q9 g'
            have i10 := q10 g'
            have i11 := q11 g'
            have i12 := q12 g'
            have i13 := q13 g'
            have i14 := q14 g'
            have i15 := q15 g'
            have i16 := q16 g'
            have i17 := q17 g'
            have i18 := q18 g'
            have i19 := q19 g'
            have i20 := q20 g'
            have i21 := q21 g'
            have i22 := q22 g'
            have i23 := q23 g'
            have i24 := q24 g'
            have i25 := q25 g'
            have i26 := q26 g'
            have hWi := below_step hWq (Bw.below g')
            clear q1 qf1 q2 qf2 q3 q4 q5 q6 q7 q8 q9 q10 q11 q12 q13 q14 q15 q16 q17 q18 q19 q20 q21 q22 q23 q24 q25 q26 qz1 qy1 qz3 qy3 qz15 qy15
            generalize Bw.out g' = w0 at *
            clear hWi
            go_region
            go_wp2_with fail
            go_roundw
            case rel => exact ⟨2, by omega, by go_num, by repeat (first | with_reducible exact Below.refl _ _ | with_reducible refine bl_alloc ?_ _ | with_reducible refine bl_drewN ?_ _ | with_reducible refine bl_drew ?_ | (with_reducible refine bl_set ?_ ?_ _; rotate_left; focus (first | (simp; done) | (simp; omega) | omega)) | with_reducible refine below_step ?_ (Bw.below _) | with_reducible refine below_step ?_ (by assumption))⟩
            case measure => simp [intOf]
          · go_wp2_with fail
            have hbg := g'.below
            have i1 := q1 g'
            have if1 := qf1 g'
            have i2 := q2 g'
            have if2 := qf2 g'
            have i3 := q3 g'
            have i4 := q4 g'
            have i5 := q5 g'
            have i6 := q6 g'
            have i7 := q7 g'
            have i8 := q8 g'
            have i9 := q9 g'
            have i10 := q10 g'
            have i11 := q11 g'
            have i12 := q12 g'
            have i13 := q13 g'
            have i14 := q14 g'
            have i15 := q15 g'
            have i16 := q16 g'
            have i17 := q17 g'
            have i18 := q18 g'
            have i19 := q19 g'
            have i20 := q20 g'
            have i21 := q21 g'
            have i22 := q22 g'
            have i23 := q23 g'
            have i24 := q24 g'
            have i25 := q25 g'
            have i26 := q26 g'
            have hWi := below_step hWq (Bw.below g')
            clear q1 qf1 q2 qf2 q3 q4 q5 q6 q7 q8 q9 q10 q11 q12 q13 q14 q15 q16 q17 q18 q19 q20 q21 q22 q23 q24 q25 q26 qz1 qy1 qz3 qy3 qz15 qy15
            generalize Bw.out g' = w0 at *
            clear hWi
            go_region
            go_wp2_with fail
            go_roundw
            case rel => exact ⟨3, by omega, by go_num, by repeat (first | with_reducible exact Below.refl _ _ | with_reducible refine bl_alloc ?_ _ | with_reducible refine bl_drewN ?_ _ | with_reducible refine bl_drew ?_ | (with_reducible refine bl_set ?_ ?_ _; rotate_left; focus (first | (simp; done) | (simp; omega) | omega)) | with_reducible refine below_step ?_ (Bw.below _) | with_reducible refine below_step ?_ (by assumption))⟩
            case measure => simp [intOf]
          · go_wp2_with fail
            have hbg := g'.below
            have i1 := q1 g'
            have if1 := qf1 g'
            have i2 := q2 g'
            have if2 := qf2 g'
            have i3 := q3 g'
            have i4 := q4 g'
            have i5 := q5 g'
            have i6 := q6 g'
            have i7 := q7 g'
            have i8 := q8 g'
            have i9 := q9 g'
            have i10 := q10 g'
            have i11 := q11 g'
            have i12 := q12 g'
            have i13 := q13 g'
            have i14 := q14 g'
            have i15 := q15 g'
            have i16 := q16 g'
            have i17 := q17 g'
            have i18 := q18 g'
            have i19 := q19 g'
            have i20 := q20 g'
            have i21 := q21 g'
            have i22 := q22 g'
            have i23 := q23 g'
            have i24 := q24 g'
            have i25 := q25 g'
            have i26 := q26 g'
            have hWi := below_step hWq (Bw.below g')
            clear q1 qf1 q2 qf2 q3 q4 q5 q6 q7 q8 q9 q10 q11 q12 q13 q14 q15 q16 q17 q18 q19 q20 q21 q22 q23 q24 q25 q26 qz1 qy1 qz3 qy3 qz15 qy15
            generalize Bw.out g' = w0 at *
            clear hWi
            go_region
            go_wp2_with fail
            go_roundw
            case rel => exact ⟨4, by omega, by go_num, by repeat (first | with_reducible exact Below.refl _ _ | with_reducible refine bl_alloc ?_ _ | with_reducible refine bl_drewN ?_ _ | with_reducible refine bl_drew ?_ | (with_reducible refine bl_set ?_ ?_ _; rotate_left; focus (first | (simp; done) | (simp; omega) | omega)) | with_reducible refine below_step ?_ (Bw.below _) | with_reducible refine below_step ?_ (by assumption))⟩
            case measure => simp [intOf]
          · go_wp2_with fail
            have hbg := g'.below
            have i1 := q1 g'
            have if1 := qf1 g'
            have i2 := q2 g'
            have if2 := qf2 g'
            have i3 := q3 g'
            have i4 := q4 g'
            have i5 := q5 g'
            have i6 := q6 g'
            have i7 := q7 g'
            have i8 := q8 g'
            have i9 := q9 g'
            have i10 := q10 g'
            have i11 := q11 g'
            have i12 := q12 g'
            have i13 := q13 g'
            have i14 := q14 g'
            have i15 := q15 g'
            have i16 := q16 g'
            have i17 := q17 g'
            have i18 := q18 g'
            have i19 := q19 g'
            have i20 := q20 g'
            have i21 := q21 g'
            have i22 := q22 g'
            have i23 := q23 g'
            have i24 := q24 g'
            have i25 := q25 g'
            have i26 := q26 g'
            have hWi := below_step hWq (Bw.below g')
            clear q1 qf1 q2 qf2 q3 q4 q5 q6 q7 q8 q9 q10 q11 q12 q13 q14 q15 q16 q17 q18 q19 q20 q21 q22 q23 q24 q25 q26 qz1 qy1 qz3 qy3 qz15 qy15
            generalize Bw.out g' = w0 at *
            clear hWi
            go_region
            go_wp2_with fail
            go_roundw
            case rel => exact ⟨5, by omega, by go_num, by repeat (first | with_reducible exact Below.refl _ _ | with_reducible refine bl_alloc ?_ _ | with_reducible refine bl_drewN ?_ _ | with_reducible refine bl_drew ?_ | (with_reducible refine bl_set ?_ ?_ _; rotate_left; focus (first | (simp; done) | (simp; omega) | omega)) | with_reducible refine below_step ?_ (Bw.below _) | with_reducible refine below_step ?_ (by assumption))⟩
            case measure => simp [intOf]
          · go_wp2_with fail
            have hbg := g'.below
            have i1 := q1 g'
            have if1 := qf1 g'
            have i2 := q2 g'
            have if2 := qf2 g'
            have i3 := q3 g'
            have i4 := q4 g'
            have i5 := q5 g'
            have i6 := q6 g'
            have i7 := q7 g'
            have i8 := q8 g'
            have i9 := q9 g'
            have i10 := q10 g'
            have i11 := q11 g'
            have i12 := q12 g'
            have i13 := q13 g'
            have i14 := q14 g'
            have i15 := q15 g'
            have i16 := q16 g'
            have i17 := q17 g'
            have i18 := q18 g'
            have i19 := q19 g'
            have i20 := q20 g'
            have i21 := q21 g'
            have i22 := q22 g'
            have i23 := q23 g'
            have i24 := q24 g'
            have i25 := q25 g'
            have i26 := q26 g'
            have hWi := below_step hWq (Bw.below g')
            clear q1 qf1 q2 qf2 q3 q4 q5 q6 q7 q8 q9 q10 q11 q12 q13 q14 q15 q16 q17 q18 q19 q20 q21 q22 q23 q24 q25 q26 qz1 qy1 qz3 qy3 qz15 qy15
            generalize Bw.out g' = w0 at *
            clear hWi
            go_region
            go_wp2_with fail
            go_roundw
            case rel => exact ⟨6, by omega, by go_num, by repeat (first | with_reducible exact Below.refl _ _ | with_reducible refine bl_alloc ?_ _ | with_reducible refine bl_drewN ?_ _ | with_reducible refine bl_drew ?_ | (with_reducible refine bl_set ?_ ?_ _; rotate_left; focus (first | (simp; done) | (simp; omega) | omega)) | with_reducible refine below_step ?_ (Bw.below _) | with_reducible refine below_step ?_ (by assumption))⟩
            case measure => simp [intOf]
          · go_wp2_with fail
            go_roundw
            case rel => exact ⟨A.tmod 1048576, B.tmod 1048576, R', j + 1, by omega, ⟨by omega, by omega⟩, ⟨by omega, by omega⟩, ⟨by omega, by omega⟩, fun _ => hres'.out, rfl, by go_num, by simp [go_sem, q1, q2], by simp [go_sem, q1, q2], by first | (simp [go_sem]; done) | (simp [go_sem, qf1, qf2]; done), by first | (simp [go_sem]; done) | (simp [go_sem, qf1, qf2]; done), by repeat (first | with_reducible exact Below.refl _ _ | with_reducible refine bl_alloc ?_ _ | with_reducible refine bl_drewN ?_ _ | with_reducible refine bl_drew ?_ | (with_reducible refine bl_set ?_ ?_ _; rotate_left; focus (first | (simp; done) | (simp; omega) | omega)) | with_reducible refine below_step ?_ (Bw.below _) | with_reducible refine below_step ?_ (by assumption))⟩
            case measure => simp [intOf]; omega
      · have hno : rsB R = false ∨ zOk A B = false := by
          by_cases h : 0 ≤ R ∧ R ≤ 12
          · right
            rcases hz : zOk A B with _ | _
            · rfl
            · exact absurd ⟨h, hz⟩ hok
          · exact .inl (decide_eq_false h)
        have CE := Lib.hid (plane_centre_no A B R hno)
        have RC := Lib.hid (ref_centre_no A B R hno)
        have HX := Lib.hid (plane_hex_no A B R hno)
        have RX := Lib.hid (ref_hex_no A B R hno)
        clear hok hno hK'
        go_wp2_with fail
        refine calls_start (fun V => V.cell? ⟨w.heap.size, 0, none⟩ = some (.int .i64 A) ∧ V.frozen? ⟨w.heap.size, 0, none⟩ = false ∧ V.cell? ⟨w.heap.size, 1, none⟩ = some (.int .i64 B) ∧ V.frozen? ⟨w.heap.size, 1, none⟩ = false ∧ Below w.heap.size w V) ⟨by first | with_reducible assumption | (simp [go_sem]; done), by first | with_reducible assumption | (simp [go_sem]; done), by first | with_reducible assumption | (simp [go_sem]; done), by first | with_reducible assumption | (simp [go_sem]; done), by repeat (first | with_reducible exact Below.refl _ _ | with_reducible refine bl_alloc ?_ _ | with_reducible refine bl_drewN ?_ _ | with_reducible refine bl_drew ?_ | (with_reducible refine bl_set ?_ ?_ _; rotate_left; focus (first | (simp; done) | (simp; omega) | omega)) | with_reducible refine below_step ?_ (Bw.below _) | with_reducible refine below_step ?_ (by assumption))⟩ ?_
        rintro V ⟨hc1, fc1, hc2, fc2, hWc⟩ gc
        have c1 := Bw.hold hc1
        have cf1 := Bw.free hc1 fc1
        have c2 := Bw.hold hc2
        have cf2 := Bw.free hc2 fc2
        have cz1 := fun g : Bw V => cell_lt (c1 g)
        have cy1 := fun g : Bw V => Nat.le_of_lt (cz1 g)
        clear hc1 fc1 hc2 fc2
        clear z1 z2 zf1 zf2
        refine (CE.out _).mono ?_
        rintro e_g2 w_g2 ⟨rfl, hb_g2⟩
        obtain ⟨g2, rfl⟩ := gc.next hb_g2
        clear hb_g2
        go_wp2_with fail
        refine (RC.out _).mono ?_
        rintro e_g3 w_g3 ⟨rfl, hb_g3⟩
        obtain ⟨g3, rfl⟩ := g2.next hb_g3
        clear hb_g3
        go_wp2_with fail
        refine (HX.out _).mono ?_
        rintro e_g4 w_g4 ⟨rfl, hb_g4⟩
        obtain ⟨g4, rfl⟩ := g3.next hb_g4
        clear hb_g4
        go_wp2_with fail
        refine (RX.out _).mono ?_
        rintro e_g5 w_g5 ⟨rfl, hb_g5⟩
        obtain ⟨g5, rfl⟩ := g4.next hb_g5
        clear hb_g5
        go_wp2_with fail
        refine wp_start (fun V3 => V3.cell? ⟨w.heap.size, 0, none⟩ = some (.int .i64 A) ∧ V3.frozen? ⟨w.heap.size, 0, none⟩ = false ∧ V3.cell? ⟨w.heap.size, 1, none⟩ = some (.int .i64 B) ∧ V3.frozen? ⟨w.heap.size, 1, none⟩ = false ∧ Below w.heap.size w V3) ⟨by first | with_reducible assumption | (simp [go_sem]; done) | with_reducible exact hold_al c1 _ _ | with_reducible exact hold_al c2 _ _ | (simp [go_sem, c1, cf1, c2, cf2, cz1, cy1]; done), by first | with_reducible assumption | (simp [go_sem]; done) | with_reducible exact hold_alF c1 cf1 _ _ | with_reducible exact hold_alF c2 cf2 _ _ | (simp [go_sem, c1, cf1, c2, cf2, cz1, cy1]; done), by first | with_reducible assumption | (simp [go_sem]; done) | with_reducible exact hold_al c1 _ _ | with_reducible exact hold_al c2 _ _ | (simp [go_sem, c1, cf1, c2, cf2, cz1, cy1]; done), by first | with_reducible assumption | (simp [go_sem]; done) | with_reducible exact hold_alF c1 cf1 _ _ | with_reducible exact hold_alF c2 cf2 _ _ | (simp [go_sem, c1, cf1, c2, cf2, cz1, cy1]; done), by repeat (first | with_reducible exact Below.refl _ _ | with_reducible refine bl_alloc ?_ _ | with_reducible refine bl_drewN ?_ _ | with_reducible refine bl_drew ?_ | (with_reducible refine bl_set ?_ ?_ _; rotate_left; focus (first | (simp; done) | (simp; omega) | omega)) | with_reducible refine below_step ?_ (Bw.below _) | with_reducible refine below_step ?_ (by assumption))⟩ ?_
        rintro V3 ⟨hq1, fq1, hq2, fq2, hWq⟩ gq
        have q1 := Bw.hold hq1
        have qf1 := Bw.free hq1 fq1
        have q2 := Bw.hold hq2
        have qf2 := Bw.free hq2 fq2
        have qz1 := fun g : Bw V3 => cell_lt (q1 g)
        have qy1 := fun g : Bw V3 => Nat.le_of_lt (qz1 g)
        clear hq1 fq1 hq2 fq2
        clear c1 cf1 c2 cf2 cz1 cy1
        clear CE RC HX RX
        go_loopw [15] (fun k W => k = .int .i64 0 ∧ Below V3.heap.size V3 W) (fun k _ => 0)
        case atStart => exact ⟨rfl, by repeat (first | with_reducible exact Below.refl _ _ | with_reducible refine bl_alloc ?_ _ | with_reducible refine bl_drewN ?_ _ | with_reducible refine bl_drew ?_ | (with_reducible refine bl_set ?_ ?_ _; rotate_left; focus (first | (simp; done) | (simp; omega) | omega)) | with_reducible refine below_step ?_ (Bw.below _) | with_reducible refine below_step ?_ (by assumption))⟩
        case round =>
          obtain ⟨rfl, hb⟩ := hrel
          obtain ⟨g', rfl⟩ := bw_of hb
          go_wp2_with fail
          go_roundw
          case rel => exact ⟨A.tmod 1048576, B.tmod 1048576, R', j + 1, by omega, ⟨by omega, by omega⟩, ⟨by omega, by omega⟩, ⟨by omega, by omega⟩, fun _ => hres'.out, rfl, by go_num, by simp [go_sem, q1, q2], by simp [go_sem, q1, q2], by first | (simp [go_sem]; done) | (simp [go_sem, qf1, qf2]; done), by first | (simp [go_sem]; done) | (simp [go_sem, qf1, qf2]; done), by repeat (first | with_reducible exact Below.refl _ _ | with_reducible refine bl_alloc ?_ _ | with_reducible refine bl_drewN ?_ _ | with_reducible refine bl_drew ?_ | (with_reducible refine bl_set ?_ ?_ _; rotate_left; focus (first | (simp; done) | (simp; omega) | omega)) | with_reducible refine below_step ?_ (Bw.below _) | with_reducible refine below_step ?_ (by assumption))⟩
          case measure => simp [intOf]; omega
    · obtain rfl : j = 2 := by omega
      obtain ⟨K, hK, hk⟩ := hres rfl
      obtain ⟨p1, p2⟩ := p7_small K hK
      have WI := Lib.hid (plane_width R K hK hk)
      have SV := Lib.hid (ref_seven K (by omega))
      generalize p7 K = s at *
      clear hres
      go_wp2_with fail
      refine calls_start (fun V => Below w.heap.size w V) (by repeat (first | with_reducible exact Below.refl _ _ | with_reducible refine bl_alloc ?_ _ | with_reducible refine bl_drewN ?_ _ | with_reducible refine bl_drew ?_ | (with_reducible refine bl_set ?_ ?_ _; rotate_left; focus (first | (simp; done) | (simp; omega) | omega)) | with_reducible refine below_step ?_ (Bw.below _) | with_reducible refine below_step ?_ (by assumption))) ?_
      rintro V hWc gc
      refine (WI.out _).mono ?_
      rintro e_g2 w_g2 ⟨rfl, hb_g2⟩
      obtain ⟨g2, rfl⟩ := gc.next hb_g2
      clear hb_g2
      go_wp2_with fail
      refine (SV.out _).mono ?_
      rintro e_g3 w_g3 ⟨rfl, hb_g3⟩
      obtain ⟨g3, rfl⟩ := g2.next hb_g3
      clear hb_g3
      go_wp2_with fail
      refine (awake3 _).mono ?_
      rintro e_g4 w_g4 ⟨rfl, hb_g4⟩
      obtain ⟨g4, rfl⟩ := g3.next hb_g4
      clear hb_g4
      go_wp2_with fail
      go_ret
      exact ⟨rfl, by repeat (first | with_reducible exact Below.refl _ _ | with_reducible refine bl_alloc ?_ _ | with_reducible refine bl_drewN ?_ _ | with_reducible refine bl_drew ?_ | (with_reducible refine bl_set ?_ ?_ _; rotate_left; focus (first | (simp; done) | (simp; omega) | omega)) | with_reducible refine below_step ?_ (Bw.below _) | with_reducible refine below_step ?_ (by assumption))⟩
/-! THE STATEMENT PlaneCentres -/
section
open Go.ChangeShapes Go.WideShapes Go.ChangeAt Go.RowKit Go.Joins
set_option linter.unusedVariables false
set_option maxRecDepth 100000 in
theorem planeCentres_lifted (os : Os) (started : os.Started) (H : Type) (enc : TypeId × Value → H) :
    ReturnsInHanded {} Try.checked os 9 .any (Rows.planeCentresSpec.pre6 enc Try.prog Try.f9 Rows.planeCentresRow.domain false) (Rows.planeCentresSpec.post enc Try.prog Try.f9 false true false false) := by
  refine returnsInHanded_of_change (C := Try.checked) (show ownKnob Try.prog.godebug = none by kernel_rfl) started (by kernel_rfl) Try.func9
    (ChangeSpec.witness6 (enc := enc) (C := Try.checked) false ⟨#[], #[.agg #[.int .i64 0, .int .i64 0], .int .i64 0], []⟩ 8 (by kernel_rfl) (by kernel_rfl) (by kernel_rfl) (by kernel_rfl)) ?_
  intro W base args ds gs before hval0 hW hcnd _
  have hval : ∀ (j : Nat) t v, Try.f9.params[j]? = some t → args[j]? = some v → Value.okWide Try.prog W .any base t v := hval0
  have hW' := hW
  obtain ⟨p, q, hA0, hV, rfl, hfz, hnd⟩ := hW
  have hA : DataW.TrodAll enc Try.prog W 0 (fun _ => true) true Try.f9.params.toList args.toList ds p := hA0
  rw [Try.params9] at hA hval
  obtain ⟨v0, vs0, d0, ds0, p0, q0, hargs, rfl, rfl, h0, r0⟩ := trodAll_cons hA
  obtain ⟨v1, vs1, d1, ds1, p1, q1, rfl, rfl, rfl, h1, r1⟩ := trodAll_cons r0
  obtain ⟨rfl, rfl, rfl⟩ := trodAll_nil r1
  obtain rfl : args = #[v0, v1] := by cases args; simp_all
  obtain ⟨rfl, rfl⟩ := trodVars_none hV
  obtain ⟨c0_0, c0_1, y0_0, y0_1, m0, rfl, rfl, rfl, hy0_0, hy0_1⟩ := open_agg2 Try.underlying25 (by kernel_rfl) (show Try.prog.cellsOf 25 = 2 by kernel_rfl) (hval 0 25 v0 rfl rfl) h0
  obtain ⟨a, e0_0, rfl, wf_a⟩ := DataW.trod_int Try.underlying2 hy0_0
  obtain ⟨b, e0_1, rfl, wf_b⟩ := DataW.trod_int Try.underlying2 hy0_1
  simp at e0_0 e0_1
  subst e0_0 e0_1
  obtain ⟨r, rfl, rfl, rfl, wf_r⟩ := open_int Try.underlying3 (hval 1 3 v1 rfl rfl) h1
  clear hA0 hval0
  simp only [List.append_nil] at hW'
  refine (planecentres_walk a b r (wf_i64 wf_a).1 (wf_i64 wf_a).2 (wf_i64 wf_b).1 (wf_i64 wf_b).2 (wf_i64 wf_r).1 (wf_i64 wf_r).2 W).mono fun e W' ⟨he, hb⟩ => ?_
  subst he
  exact ⟨_, rfl, post_of_below (pa := []) (pv := []) hW' (fun _ _ _ => (trodAll_cons_mk (shut_bool Try.underlying4 _) trodAll_mk0)) (fun sp _ => (trodAll_cons_mk (shut_agg2 (y0 := (.lit (.int .i64 a), [])) (y1 := (.lit (.int .i64 b), [])) Try.underlying25 (by kernel_rfl) (show Try.prog.cellsOf 25 = 2 by kernel_rfl) ⟨1, by simp [DataW.trod, Try.underlying2, wf_a]⟩ ⟨1, by simp [DataW.trod, Try.underlying2, wf_b]⟩) (trodAll_cons_mk (shut_int Try.underlying3 wf_r) trodAll_mk0))) (fun _ _ => rfl) rfl hb
    (ok_one (by kernel_rfl) rfl (okWide_bool_mk Try.underlying4 _))⟩
theorem planeCentres_holds : Rows.PlaneCentresSaid :=
  OpenClaim.holds_of_wide 9 Try.f9 rfl rfl rfl rfl rfl rfl rfl ⟨rfl, rfl, rfl, rfl, rfl⟩ rfl rfl rfl rfl rfl (by kernel_rfl) Try.func9 (by kernel_rfl)
    (of_decide_eq_true (by kernel_rfl)) (by unfold Func.isWrapper; first | (rw [if_pos (by decide +kernel)]; kernel_rfl) | (rw [if_neg (by decide +kernel)]; exact ⟨rfl, rfl⟩))
    (fun os started H enc _ => planeCentres_lifted os started H enc)
end
#print axioms planeCentres_holds
end Go.Proofs.Ytccbcehpoohgpaa

/- The walks of cell's child and Children. -/
import Derived.Test.YtajojnbpmbkghaaSome
namespace Go.Proofs.Ytajojnbpmbkghaa
open Go.RowKit
set_option linter.unusedSimpArgs false
set_option linter.unusedVariables false
set_option maxHeartbeats 1000000 in
theorem cell_child (r a b u v : Int) (hr : -1000 ≤ r) (hr' : r ≤ 1000) (z1 : -1073741824 ≤ a) (z2 : a ≤ 1073741824) (z3 : -1073741824 ≤ b) (z4 : b ≤ 1073741824) (u1 : -1 ≤ u) (u2 : u ≤ 1) (v1 : -1 ≤ v) (v2 : v ≤ 1) (w : World) :
    Calls Try.prog 36 #[.agg #[.int .i64 r, .int .i64 a, .int .i64 b], .agg #[.int .i64 u, .int .i64 v]] w fun e w' => e = .returned (.agg #[.int .i64 (r + 1), .int .i64 (2 * a - b + u), .int .i64 (a + 3 * b + v)]) ∧ Below w.heap.size w w' := by
  have ML := Lib.hid (eis_mul_fit a b 2 1 (2 * a - b) (a + 3 * b) (by omega) (by omega) (by omega) (by omega) (by decide) (by decide) (by decide) (by decide) (by omega) (by omega) (by omega) (by omega) (by omega) (by omega))
  have AD := Lib.hid (eis_add_fit (2 * a - b) (a + 3 * b) u v (2 * a - b + u) (a + 3 * b + v) (by omega) (by omega) (by omega) (by omega) (by omega) (by omega) (by omega) (by omega) (by omega) (by omega) (by omega) (by omega) rfl rfl)
  generalize 2 * a - b + u = x at *
  generalize a + 3 * b + v = y at *
  generalize 2 * a - b = da at *
  generalize a + 3 * b = db at *
  go_enter Try.func36, Try.ntmps36
  go_wp2_with fail
  refine calls_start (fun V => V.cell? ⟨w.heap.size, 0, none⟩ = some (.int .i64 r) ∧ V.cell? ⟨w.heap.size, 1, none⟩ = some (.int .i64 a) ∧ V.cell? ⟨w.heap.size, 2, none⟩ = some (.int .i64 b) ∧ V.cell? ⟨w.heap.size + 1, 0, none⟩ = some (.int .i64 u) ∧ V.cell? ⟨w.heap.size + 1, 1, none⟩ = some (.int .i64 v) ∧ V.cell? ⟨w.heap.size + 1 + 1, 0, none⟩ = some (.int .i64 0) ∧ V.frozen? ⟨w.heap.size + 1 + 1, 0, none⟩ = false ∧ V.cell? ⟨w.heap.size + 1 + 1, 1, none⟩ = some (.int .i64 0) ∧ V.frozen? ⟨w.heap.size + 1 + 1, 1, none⟩ = false ∧ V.cell? ⟨w.heap.size + 1 + 1, 2, none⟩ = some (.int .i64 0) ∧ V.frozen? ⟨w.heap.size + 1 + 1, 2, none⟩ = false ∧ Below w.heap.size w V) ⟨by first | with_reducible assumption | (simp [go_sem]; done), by first | with_reducible assumption | (simp [go_sem]; done), by first | with_reducible assumption | (simp [go_sem]; done), by first | with_reducible assumption | (simp [go_sem]; done), by first | with_reducible assumption | (simp [go_sem]; done), by first | with_reducible assumption | (simp [go_sem]; done), by first | with_reducible assumption | (simp [go_sem]; done), by first | with_reducible assumption | (simp [go_sem]; done), by first | with_reducible assumption | (simp [go_sem]; done), by first | with_reducible assumption | (simp [go_sem]; done), by first | with_reducible assumption | (simp [go_sem]; done), by repeat (first | with_reducible exact Below.refl _ _ | with_reducible refine bl_alloc ?_ _ | with_reducible refine bl_drewN ?_ _ | with_reducible refine bl_drew ?_ | (with_reducible refine bl_set ?_ ?_ _; rotate_left; focus (first | (simp; done) | (simp; omega) | omega)) | with_reducible refine below_step ?_ (Bw.below _) | with_reducible refine below_step ?_ (by assumption))⟩ ?_
  rintro V ⟨hc1, hc2, hc3, hc4, hc5, hc6, fc6, hc7, fc7, hc8, fc8, hWc⟩ gc
  have c1 := Bw.hold hc1
  have c2 := Bw.hold hc2
  have c3 := Bw.hold hc3
  have c4 := Bw.hold hc4
  have c5 := Bw.hold hc5
  have c6 := Bw.hold hc6
  have cf6 := Bw.free hc6 fc6
  have c7 := Bw.hold hc7
  have cf7 := Bw.free hc7 fc7
  have c8 := Bw.hold hc8
  have cf8 := Bw.free hc8 fc8
  have cz1 := fun g : Bw V => cell_lt (c1 g)
  have cy1 := fun g : Bw V => Nat.le_of_lt (cz1 g)
  have cz4 := fun g : Bw V => cell_lt (c4 g)
  have cy4 := fun g : Bw V => Nat.le_of_lt (cz4 g)
  have cz6 := fun g : Bw V => cell_lt (c6 g)
  have cy6 := fun g : Bw V => Nat.le_of_lt (cz6 g)
  clear hc1 hc2 hc3 hc4 hc5 hc6 fc6 hc7 fc7 hc8 fc8
  refine (ML.out _).mono ?_
  rintro e_g2 w_g2 ⟨rfl, hb_g2⟩
  obtain ⟨g2, rfl⟩ := gc.next hb_g2
  clear hb_g2
  go_wp2_with fail
  refine calls_start (fun V2 => V2.cell? ⟨w.heap.size, 0, none⟩ = some (.int .i64 r) ∧ V2.cell? ⟨w.heap.size, 1, none⟩ = some (.int .i64 a) ∧ V2.cell? ⟨w.heap.size, 2, none⟩ = some (.int .i64 b) ∧ V2.cell? ⟨w.heap.size + 1, 0, none⟩ = some (.int .i64 u) ∧ V2.cell? ⟨w.heap.size + 1, 1, none⟩ = some (.int .i64 v) ∧ V2.cell? ⟨w.heap.size + 1 + 1, 0, none⟩ = some (.int .i64 0) ∧ V2.frozen? ⟨w.heap.size + 1 + 1, 0, none⟩ = false ∧ V2.cell? ⟨w.heap.size + 1 + 1, 1, none⟩ = some (.int .i64 0) ∧ V2.frozen? ⟨w.heap.size + 1 + 1, 1, none⟩ = false ∧ V2.cell? ⟨w.heap.size + 1 + 1, 2, none⟩ = some (.int .i64 0) ∧ V2.frozen? ⟨w.heap.size + 1 + 1, 2, none⟩ = false ∧ V2.cell? ⟨g2.out.heap.size, 0, none⟩ = some (.int .i64 da) ∧ V2.cell? ⟨g2.out.heap.size, 1, none⟩ = some (.int .i64 db) ∧ Below w.heap.size w V2) ⟨by first | with_reducible assumption | (simp [go_sem]; done) | with_reducible exact hold_al c1 _ _ | with_reducible exact hold_al c2 _ _ | with_reducible exact hold_al c3 _ _ | with_reducible exact hold_al c4 _ _ | with_reducible exact hold_al c5 _ _ | with_reducible exact hold_al c6 _ _ | with_reducible exact hold_al c7 _ _ | with_reducible exact hold_al c8 _ _ | (simp [go_sem, c1, c2, c3, c4, c5, c6, cf6, c7, cf7, c8, cf8, cz1, cy1, cz4, cy4, cz6, cy6]; done), by first | with_reducible assumption | (simp [go_sem]; done) | with_reducible exact hold_al c1 _ _ | with_reducible exact hold_al c2 _ _ | with_reducible exact hold_al c3 _ _ | with_reducible exact hold_al c4 _ _ | with_reducible exact hold_al c5 _ _ | with_reducible exact hold_al c6 _ _ | with_reducible exact hold_al c7 _ _ | with_reducible exact hold_al c8 _ _ | (simp [go_sem, c1, c2, c3, c4, c5, c6, cf6, c7, cf7, c8, cf8, cz1, cy1, cz4, cy4, cz6, cy6]; done), by first | with_reducible assumption | (simp [go_sem]; done) | with_reducible exact hold_al c1 _ _ | with_reducible exact hold_al c2 _ _ | with_reducible exact hold_al c3 _ _ | with_reducible exact hold_al c4 _ _ | with_reducible exact hold_al c5 _ _ | with_reducible exact hold_al c6 _ _ | with_reducible exact hold_al c7 _ _ | with_reducible exact hold_al c8 _ _ | (simp [go_sem, c1, c2, c3, c4, c5, c6, cf6, c7, cf7, c8, cf8, cz1, cy1, cz4, cy4, cz6, cy6]; done), by first | with_reducible assumption | (simp [go_sem]; done) | with_reducible exact hold_al c1 _ _ | with_reducible exact hold_al c2 _ _ | with_reducible exact hold_al c3 _ _ | with_reducible exact hold_al c4 _ _ | with_reducible exact hold_al c5 _ _ | with_reducible exact hold_al c6 _ _ | with_reducible exact hold_al c7 _ _ | with_reducible exact hold_al c8 _ _ | (simp [go_sem, c1, c2, c3, c4, c5, c6, cf6, c7, cf7, c8, cf8, cz1, cy1, cz4, cy4, cz6, cy6]; done), by first | with_reducible assumption | (simp [go_sem]; done) | with_reducible exact hold_al c1 _ _ | with_reducible exact hold_al c2 _ _ | with_reducible exact hold_al c3 _ _ | with_reducible exact hold_al c4 _ _ | with_reducible exact hold_al c5 _ _ | with_reducible exact hold_al c6 _ _ | with_reducible exact hold_al c7 _ _ | with_reducible exact hold_al c8 _ _ | (simp [go_sem, c1, c2, c3, c4, c5, c6, cf6, c7, cf7, c8, cf8, cz1, cy1, cz4, cy4, cz6, cy6]; done), by first | with_reducible assumption | (simp [go_sem]; done) | with_reducible exact hold_al c1 _ _ | with_reducible exact hold_al c2 _ _ | with_reducible exact hold_al c3 _ _ | with_reducible exact hold_al c4 _ _ | with_reducible exact hold_al c5 _ _ | with_reducible exact hold_al c6 _ _ | with_reducible exact hold_al c7 _ _ | with_reducible exact hold_al c8 _ _ | (simp [go_sem, c1, c2, c3, c4, c5, c6, cf6, c7, cf7, c8, cf8, cz1, cy1, cz4, cy4, cz6, cy6]; done), by first | with_reducible assumption | (simp [go_sem]; done) | with_reducible exact hold_alF c6 cf6 _ _ | with_reducible exact hold_alF c7 cf7 _ _ | with_reducible exact hold_alF c8 cf8 _ _ | (simp [go_sem, c1, c2, c3, c4, c5, c6, cf6, c7, cf7, c8, cf8, cz1, cy1, cz4, cy4, cz6, cy6]; done), by first | with_reducible assumption | (simp [go_sem]; done) | with_reducible exact hold_al c1 _ _ | with_reducible exact hold_al c2 _ _ | with_reducible exact hold_al c3 _ _ | with_reducible exact hold_al c4 _ _ | with_reducible exact hold_al c5 _ _ | with_reducible exact hold_al c6 _ _ | with_reducible exact hold_al c7 _ _ | with_reducible exact hold_al c8 _ _ | (simp [go_sem, c1, c2, c3, c4, c5, c6, cf6, c7, cf7, c8, cf8, cz1, cy1, cz4, cy4, cz6, cy6]; done), by first | with_reducible assumption | (simp [go_sem]; done) | with_reducible exact hold_alF c6 cf6 _ _ | with_reducible exact hold_alF c7 cf7 _ _ | with_reducible exact hold_alF c8 cf8 _ _ | (simp [go_sem, c1, c2, c3, c4, c5, c6, cf6, c7, cf7, c8, cf8, cz1, cy1, cz4, cy4, cz6, cy6]; done), by first | with_reducible assumption | (simp [go_sem]; done) | with_reducible exact hold_al c1 _ _ | with_reducible exact hold_al c2 _ _ | with_reducible exact hold_al c3 _ _ | with_reducible exact hold_al c4 _ _ | with_reducible exact hold_al c5 _ _ | with_reducible exact hold_al c6 _ _ | with_reducible exact hold_al c7 _ _ | with_reducible exact hold_al c8 _ _ | (simp [go_sem, c1, c2, c3, c4, c5, c6, cf6, c7, cf7, c8, cf8, cz1, cy1, cz4, cy4, cz6, cy6]; done), by first | with_reducible assumption | (simp [go_sem]; done) | with_reducible exact hold_alF c6 cf6 _ _ | with_reducible exact hold_alF c7 cf7 _ _ | with_reducible exact hold_alF c8 cf8 _ _ | (simp [go_sem, c1, c2, c3, c4, c5, c6, cf6, c7, cf7, c8, cf8, cz1, cy1, cz4, cy4, cz6, cy6]; done), by first | with_reducible assumption | (simp [go_sem]; done) | with_reducible exact hold_al c1 _ _ | with_reducible exact hold_al c2 _ _ | with_reducible exact hold_al c3 _ _ | with_reducible exact hold_al c4 _ _ | with_reducible exact hold_al c5 _ _ | with_reducible exact hold_al c6 _ _ | with_reducible exact hold_al c7 _ _ | with_reducible exact hold_al c8 _ _ | (simp [go_sem, c1, c2, c3, c4, c5, c6, cf6, c7, cf7, c8, cf8, cz1, cy1, cz4, cy4, cz6, cy6]; done), by first | with_reducible assumption | (simp [go_sem]; done) | with_reducible exact hold_al c1 _ _ | with_reducible exact hold_al c2 _ _ | with_reducible exact hold_al c3 _ _ | with_reducible exact hold_al c4 _ _ | with_reducible exact hold_al c5 _ _ | with_reducible exact hold_al c6 _ _ | with_reducible exact hold_al c7 _ _ | with_reducible exact hold_al c8 _ _ | (simp [go_sem, c1, c2, c3, c4, c5, c6, cf6, c7, cf7, c8, cf8, cz1, cy1, cz4, cy4, cz6, cy6]; done), by repeat (first | with_reducible exact Below.refl _ _ | with_reducible refine bl_alloc ?_ _ | with_reducible refine bl_drewN ?_ _ | with_reducible refine bl_drew ?_ | (with_reducible refine bl_set ?_ ?_ _; rotate_left; focus (first | (simp; done) | (simp; omega) | omega)) | with_reducible refine below_step ?_ (Bw.below _) | with_reducible refine below_step ?_ (by assumption))⟩ ?_
  rintro V2 ⟨hd1, hd2, hd3, hd4, hd5, hd6, fd6, hd7, fd7, hd8, fd8, hd9, hd10, hWd⟩ gd
  have d1 := Bw.hold hd1
  have d2 := Bw.hold hd2
  have d3 := Bw.hold hd3
  have d4 := Bw.hold hd4
  have d5 := Bw.hold hd5
  have d6 := Bw.hold hd6
  have df6 := Bw.free hd6 fd6
  have d7 := Bw.hold hd7
  have df7 := Bw.free hd7 fd7
  have d8 := Bw.hold hd8
  have df8 := Bw.free hd8 fd8
  have d9 := Bw.hold hd9
  have d10 := Bw.hold hd10
  have dz1 := fun g : Bw V2 => cell_lt (d1 g)
  have dy1 := fun g : Bw V2 => Nat.le_of_lt (dz1 g)
  have dz4 := fun g : Bw V2 => cell_lt (d4 g)
  have dy4 := fun g : Bw V2 => Nat.le_of_lt (dz4 g)
  have dz6 := fun g : Bw V2 => cell_lt (d6 g)
  have dy6 := fun g : Bw V2 => Nat.le_of_lt (dz6 g)
  have dz9 := fun g : Bw V2 => cell_lt (d9 g)
  have dy9 := fun g : Bw V2 => Nat.le_of_lt (dz9 g)
  clear hd1 hd2 hd3 hd4 hd5 hd6 fd6 hd7 fd7 hd8 fd8 hd9 hd10
  clear c1 c2 c3 c4 c5 c6 cf6 c7 cf7 c8 cf8 cz1 cy1 cz4 cy4 cz6 cy6
  refine (AD.out _).mono ?_
  rintro e_g3 w_g3 ⟨rfl, hb_g3⟩
  obtain ⟨g3, rfl⟩ := gd.next hb_g3
  clear hb_g3
  go_wp2_with fail
  refine bodyPost_ret (v := .agg #[.int .i64 (r + 1), .int .i64 x, .int .i64 y]) (by simp [results, Try.results36, go_sem, d1, d2, d3, d6, d7, d8, dz1, dz6, dy1, dy6]) rfl ⟨rfl, by repeat (first | with_reducible exact Below.refl _ _ | with_reducible refine bl_alloc ?_ _ | with_reducible refine bl_drewN ?_ _ | with_reducible refine bl_drew ?_ | (with_reducible refine bl_set ?_ ?_ _; rotate_left; focus (first | (simp; done) | (simp; omega) | omega)) | with_reducible refine below_step ?_ (Bw.below _) | with_reducible refine below_step ?_ (by assumption))⟩
theorem news3' (w : World) (x y z : Value) (e : TypeId) : ∀ j u, [x, y, z][j]? = some u → (w.alloc (.cells #[x, y, z] e)).cell? ((⟨w.heap.size, 0, none⟩ : Addr).add j) = some u := by
  intro j u hj
  match j, hj with
  | 0, hj => simp at hj; subst hj; simp [go_sem, Addr.add]
  | 1, hj => simp at hj; subst hj; simp [go_sem, Addr.add]
  | 2, hj => simp at hj; subst hj; simp [go_sem, Addr.add]
set_option maxRecDepth 100000 in
set_option maxHeartbeats 4000000 in
theorem cell_children (r a b : Int) (h : okB r a b = true) (hr : r ≠ 12) (w : World) :
    Calls Try.prog 19 #[.agg #[.int .i64 r, .int .i64 a, .int .i64 b]] w fun e w' =>
      ∃ v, e = .returned (.tuple #[v, .int .i64 0]) ∧ w'.ownsRow w.heap.size 25 3 v 7 (chRow (r + 1) (2 * a - b) (a + 3 * b) 7) ∧ Below w.heap.size w w' := by
  obtain ⟨⟨r1, r2⟩, hz, _⟩ := okB_true h
  obtain ⟨z1, z2, z3, z4⟩ := zOk_true hz
  have OK := cell_ok r a b
  rw [h] at OK
  have HO := Lib.hid OK
  have C0 := cell_child r a b 0 0 (by omega) (by omega) z1 z2 z3 z4 (by decide) (by decide) (by decide) (by decide)
  rw [Int.add_zero, Int.add_zero] at C0
  have H0 := Lib.hid C0
  have HC := Lib.hid (fun (n : Nat) => cell_child r a b (uA (n : Int)) (uB (n : Int)) (by omega) (by omega) z1 z2 z3 z4 (u_bd n).1 (u_bd n).2.1 (u_bd n).2.2.1 (u_bd n).2.2.2)
  obtain ⟨i0, hi, hz0, hz1, hz2⟩ := info_parts info_C3
  have hr12 : (r == 12) = false := by simp [hr]
  clear OK h hz C0 z1 z2 z3 z4
  generalize 2 * a - b = da at *
  generalize a + 3 * b = db at *
  go_enter Try.func19, Try.ntmps19
  go_wp2_with fail
  refine calls_start (fun V => V.cell? ⟨w.heap.size, 0, none⟩ = some (.int .i64 r) ∧ V.cell? ⟨w.heap.size, 1, none⟩ = some (.int .i64 a) ∧ V.cell? ⟨w.heap.size, 2, none⟩ = some (.int .i64 b) ∧ Below w.heap.size w V) ⟨by first | with_reducible assumption | (simp [go_sem]; done), by first | with_reducible assumption | (simp [go_sem]; done), by first | with_reducible assumption | (simp [go_sem]; done), by repeat (first | with_reducible exact Below.refl _ _ | with_reducible refine bl_alloc ?_ _ | with_reducible refine bl_drewN ?_ _ | with_reducible refine bl_drew ?_ | (with_reducible refine bl_set ?_ ?_ _; rotate_left; focus (first | (simp; done) | (simp; omega) | omega)) | with_reducible refine below_step ?_ (Bw.below _) | with_reducible refine below_step ?_ (by assumption))⟩ ?_
  rintro V ⟨hc1, hc2, hc3, hWc⟩ gc
  have c1 := Bw.hold hc1
  have c2 := Bw.hold hc2
  have c3 := Bw.hold hc3
  have cz1 := fun g : Bw V => cell_lt (c1 g)
  have cy1 := fun g : Bw V => Nat.le_of_lt (cz1 g)
  clear hc1 hc2 hc3
  refine (HO.out _).mono ?_
  rintro e_g2 w_g2 ⟨rfl, hb_g2⟩
  obtain ⟨g2, rfl⟩ := gc.next hb_g2
  clear hb_g2
  go_wp2_with fail
  refine (H0.out _).mono ?_
  rintro e_h w_h ⟨rfl, hb_h⟩
  obtain ⟨g3, rfl⟩ := g2.next hb_h
  clear hb_h
  have hB : w.heap.size ≤ g3.out.heap.size := Nat.le_trans hWc.size g3.below.size
  have hB2 : w.heap.size < g3.out.heap.size := cz1 g3
  go_wp2_with fail
  go_loopw [4, 18] (fun v k W => ∃ n : Nat, n ≤ 6 ∧ k = .int .i64 n ∧ W.ownsRow g3.out.heap.size 25 3 v (n + 1) (chRow (r + 1) da db (n + 1))
    ∧ W.cell? ⟨w.heap.size, 0, none⟩ = some (.int .i64 r) ∧ W.cell? ⟨w.heap.size, 1, none⟩ = some (.int .i64 a) ∧ W.cell? ⟨w.heap.size, 2, none⟩ = some (.int .i64 b) ∧ g3.out.heap.size ≤ W.heap.size ∧ Below w.heap.size w W) (fun _ k _ => 6 - (intOf k).toNat)
  case atStart => exact ⟨0, by omega, rfl, by have := own_lit3 g3.out (.int .i64 (r + 1)) (.int .i64 da) (.int .i64 db) 25 g3.out.heap.size (Nat.le_refl _); simpa [chRow, chX, chY] using this, by simp [go_sem, c1, cz1], by simp [go_sem, c2, cz1], by simp [go_sem, c3, cz1], (bl_alloc (Below.refl _ _) _).size, by repeat (first | with_reducible exact Below.refl _ _ | with_reducible refine bl_alloc ?_ _ | with_reducible refine bl_drewN ?_ _ | with_reducible refine bl_drew ?_ | (with_reducible refine bl_set ?_ ?_ _; rotate_left; focus (first | (simp; done) | (simp; omega) | omega)) | with_reducible refine below_step ?_ (Bw.below _) | with_reducible refine below_step ?_ (by assumption))⟩
  case round =>
    obtain ⟨n, hn, rfl, hown, e1, e2, e3, hgs, hb⟩ := hrel
    by_cases hlt : n < 6
    · have UN := unit_is n hlt _ _ rfl rfl
      have HU := Lib.hid UN
      have CH := HC.out n
      have HCH := Lib.hid CH
      have hX : Hid (chX da (n + 1) = da + uA (n : Int)) := Lib.hid rfl
      have hY : Hid (chY db (n + 1) = db + uB (n : Int)) := Lib.hid rfl
      clear UN CH
      generalize uA (n : Int) = x at *
      generalize uB (n : Int) = y at *
      have hown0 : wr.drew.ownsRow g3.out.heap.size 25 3 u4 (n + 1) (chRow (r + 1) da db (n + 1)) := own_bl hown (bl_drew (Below.refl _ _))
      have hm1 : n + 1 + 1 ≤ maxLen := by unfold maxLen; omega
      have hm2 : (n + 1 + 1) * 24 ≤ 140737488355328 := by omega
      have e1d : wr.drew.cell? ⟨w.heap.size, 0, none⟩ = some (.int .i64 r) := e1
      have e2d : wr.drew.cell? ⟨w.heap.size, 1, none⟩ = some (.int .i64 a) := e2
      have e3d : wr.drew.cell? ⟨w.heap.size, 2, none⟩ = some (.int .i64 b) := e3
      have hbd : Below w.heap.size w wr.drew := bl_drew hb
      have hgsd : g3.out.heap.size ≤ wr.drew.heap.size := hgs
      go_wp2_with fail
      go_region_held3 (fun W => W.cell? ⟨w.heap.size, 0, none⟩ = some (.int .i64 r) ∧ W.cell? ⟨w.heap.size, 1, none⟩ = some (.int .i64 a) ∧ W.cell? ⟨w.heap.size, 2, none⟩ = some (.int .i64 b))
        ((first | exact ⟨p1, p2, p3⟩ | exact ⟨q1, q2, q3⟩ | exact ⟨o1, o2, o3⟩ | exact ⟨m1, m2, m3⟩ | exact ⟨e1d, e2d, e3d⟩))
        (first
          | (go_at_call 37; refine (HU.out _).mono ?_; rintro e w5 ⟨rfl, hb5⟩; have m1 := bl_hold hb5 e1d; have m2 := bl_hold hb5 e2d; have m3 := bl_hold hb5 e3d; have hown5 := own_bl hown0 hb5; have hbe5 := below_step hbd hb5; have hg5 := Nat.le_trans hgsd hb5.size)
          | (go_at_call 36; refine (HCH.out _).mono ?_; rintro e w7 ⟨rfl, hb7⟩; have o1 := bl_hold hb7 m1; have o2 := bl_hold hb7 m2; have o3 := bl_hold hb7 m3; have hown7 := own_bl hown5 hb7; have hbe7 := below_step hbe5 hb7; have hg7 := Nat.le_trans hg5 hb7.size; have q1 := bl_hold (bl_alloc (Below.refl _ _) (.cells #[.int .i64 (r + 1), .int .i64 (da + x), .int .i64 (db + y)] 25)) o1; have q2 := bl_hold (bl_alloc (Below.refl _ _) (.cells #[.int .i64 (r + 1), .int .i64 (da + x), .int .i64 (db + y)] 25)) o2; have q3 := bl_hold (bl_alloc (Below.refl _ _) (.cells #[.int .i64 (r + 1), .int .i64 (da + x), .int .i64 (db + y)] 25)) o3)
          | (rw [if_pos (by rfl)]; refine wp_append_own _ (.tmp 21) (.tmp 26) 35 rfl g3.out.heap.size 25 i0 (.agg #[.int .i64 0, .int .i64 0, .int .i64 0]) 3 24 Try.underlying35 hi hz0 hz1 hz2 rfl (by decide) _ _ _ rfl (hown7.alloc _) ⟨w7.heap.size, 0, none⟩ 1 1 [.int .i64 (r + 1), .int .i64 (da + x), .int .i64 (db + y)] rfl rfl (news3' _ _ _ _ _) (ones3 _ _ _) hm1 hm2 (Nat.le_trans hg7 (bl_alloc (Below.refl _ _) _).size) ?_; intro v' w6 hown2 hgrow _; have p1 := gr_hold (hown7.alloc _) hgrow hB2 q1; have p2 := gr_hold (hown7.alloc _) hgrow hB2 q2; have p3 := gr_hold (hown7.alloc _) hgrow hB2 q3; have hV2 := bl_grown (hown7.alloc _) hB hgrow (bl_alloc hbe7 _); have hg6 := Nat.le_trans (Nat.le_trans hg7 (bl_alloc (Below.refl w7.heap.size w7) (.cells #[.int .i64 (r + 1), .int .i64 (da + x), .int .i64 (db + y)] 25)).size) hgrow.size))
      rw [← hX.out, ← hY.out] at hown2
      clear hown hown0 hown5 hown7 hgrow hb hbd hbe5 hbe7 m1 m2 m3 o1 o2 o3 q1 q2 q3
      go_wp2_with fail
      go_roundw
      case rel => exact ⟨n + 1, by omega, by go_num, hown2, p1, p2, p3, hg6, hV2⟩
      case measure => simp [intOf]; omega
    · obtain rfl : n = 6 := by omega
      go_wp2_with fail
      refine bodyPost_ret (v := .tuple #[u4, .int .i64 0]) (by simp [results, Try.results19, go_sem]) rfl ⟨u4, rfl, own_mono hown (by omega), by repeat (first | with_reducible exact Below.refl _ _ | with_reducible refine bl_alloc ?_ _ | with_reducible refine bl_drewN ?_ _ | with_reducible refine bl_drew ?_ | (with_reducible refine bl_set ?_ ?_ _; rotate_left; focus (first | (simp; done) | (simp; omega) | omega)) | with_reducible refine below_step ?_ (Bw.below _) | with_reducible refine below_step ?_ (by assumption))⟩
end Go.Proofs.Ytajojnbpmbkghaa

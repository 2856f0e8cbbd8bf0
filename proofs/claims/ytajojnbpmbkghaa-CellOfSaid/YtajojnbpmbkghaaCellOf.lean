/- CellOf: the cell of a point, of each size, is the one of the nearest centre; it may be; what is no point is refused. No condition. -/
import Derived.Test.YtajojnbpmbkghaaAwake4
namespace Go.Proofs.Ytajojnbpmbkghaa
open Go.RowKit
set_option linter.unusedSimpArgs false
set_option linter.unusedVariables false
set_option maxRecDepth 100000 in
set_option maxHeartbeats 4000000 in
theorem cellof_walk (x y r : Int) (hx : -9223372036854775808 ≤ x) (hx' : x ≤ 9223372036854775807) (hy : -9223372036854775808 ≤ y) (hy' : y ≤ 9223372036854775807) (hr : -9223372036854775808 ≤ r) (hr' : r ≤ 9223372036854775807) (w : World) : Calls Try.prog 9 #[.int .i64 x, .int .i64 y, .int .i64 r] w fun e w' => e = .returned (.bool true) ∧ Below w.heap.size w w' := by
  have PT := Lib.hid (law3_point x y hx hx' hy hy')
  obtain ⟨K, hK, hr0⟩ := res_of r
  obtain ⟨t1, t2⟩ := tmod_bd r 13 (by omega)
  obtain ⟨R, hR⟩ : ∃ R : Int, R = 12 - (K : Int) := ⟨_, rfl⟩
  obtain ⟨u1, u2⟩ := ptV_bd x
  obtain ⟨u3, u4⟩ := ptV_bd y
  have OK := cell_ok R (nearA (ptV x) (ptV y) K) (nearB (ptV x) (ptV y) K)
  rw [show okB R (nearA (ptV x) (ptV y) K) (nearB (ptV x) (ptV y) K) = true by rw [hR]; exact near_ok _ _ K hK u1 u2 u3 u4] at OK
  have HK := Lib.hid OK
  have N1 := Lib.hid (plane_near (ptV x) (ptV y) R K hK (by omega) (pt_wd x y))
  have O1 := Lib.hid (cell_of (ptV x) (ptV y) R K hK (by omega) (pt_wd x y))
  rw [← hR] at hr0
  clear hR OK
  generalize ptV x = X at *
  generalize ptV y = Y at *
  generalize nearA X Y K = za at *
  generalize nearB X Y K = zb at *
  obtain ⟨p, q, o, e0, k1, k2, wb, OF, NR, WD, he⟩ : ∃ (p q : Int) (o : Bool) (e0 c0 c1 : Int) (wb : Bool),
      Hid (∀ w, Calls Try.prog 28 #[.int .i64 x, .int .i64 y, .int .i64 r] w fun e w' => e = .returned (.tuple #[.agg #[.int .i64 (if o then r else 0), .int .i64 p, .int .i64 q], .int .i64 e0]) ∧ Below w.heap.size w w') ∧
      Hid (∀ w, Calls Try.prog 29 #[.int .i64 x, .int .i64 y, .int .i64 r] w fun e w' => e = .returned (.tuple #[.agg #[.int .i64 p, .int .i64 q], .bool o]) ∧ Below w.heap.size w w') ∧
      Hid (∀ w, Calls Try.prog 30 #[.int .i64 x, .int .i64 y] w fun e w' => e = .returned (.bool wb) ∧ w = w') ∧
      ((wb = false ∧ o = false ∧ e0 = 4 ∧ p = 0 ∧ q = 0) ∨ (wb = true ∧ o = false ∧ e0 = 1 ∧ p = 0 ∧ q = 0) ∨ (wb = true ∧ o = true ∧ e0 = 0)) := by
    have WD := ref_world x y
    rcases hd : wdB x y with _ | _
    · rw [hd] at WD
      exact ⟨0, 0, false, 4, 0, 0, false, Lib.hid (cell_of_no x y r hd), Lib.hid (ref_near_no x y r (.inl hd)), Lib.hid WD, .inl ⟨rfl, rfl, rfl, rfl, rfl⟩⟩
    · rw [hd] at WD
      rcases hr : rsB r with _ | _
      · exact ⟨0, 0, false, 1, 0, 0, true, Lib.hid (cell_of_res x y r hd hr), Lib.hid (ref_near_no x y r (.inr hr)), Lib.hid WD, .inr (.inl ⟨rfl, rfl, rfl, rfl, rfl⟩)⟩
      · obtain ⟨r1, r2⟩ := rsB_true hr
        obtain ⟨K, hK⟩ : ∃ K : Nat, 12 - r = (K : Int) := ⟨(12 - r).toNat, by omega⟩
        exact ⟨_, _, true, 0, 0, 0, true, Lib.hid (cell_of x y r K (by omega) hK hd), Lib.hid (ref_near x y r K (by omega) hK hd), Lib.hid WD, .inr (.inr ⟨rfl, rfl, rfl⟩)⟩
  rcases he with ⟨rfl, rfl, rfl, rfl, rfl⟩ | ⟨rfl, rfl, rfl, rfl, rfl⟩ | ⟨rfl, rfl, rfl⟩
  · skip
    go_enter Try.func9, Try.ntmps9
    go_wp2_with fail
    refine calls_start (fun V => Below w.heap.size w V) (by repeat (first | with_reducible exact Below.refl _ _ | with_reducible refine bl_alloc ?_ _ | with_reducible refine bl_drewN ?_ _ | with_reducible refine bl_drew ?_ | (with_reducible refine bl_set ?_ ?_ _; rotate_left; focus (first | (simp; done) | (simp; omega) | omega)) | with_reducible refine below_step ?_ (Bw.below _) | with_reducible refine below_step ?_ (by assumption))) ?_
    rintro V hWc gc
    refine (OF.out _).mono ?_
    rintro e_g2 w_g2 ⟨rfl, hb_g2⟩
    obtain ⟨g2, rfl⟩ := gc.next hb_g2
    clear hb_g2
    go_wp2_with fail
    refine calls_start (fun V2 => V2.cell? ⟨g2.out.heap.size, 0, none⟩ = some (.int .i64 0) ∧ V2.cell? ⟨g2.out.heap.size, 1, none⟩ = some (.int .i64 0) ∧ V2.cell? ⟨g2.out.heap.size, 2, none⟩ = some (.int .i64 0) ∧ Below w.heap.size w V2) ⟨by first | with_reducible assumption | (simp [go_sem]; done), by first | with_reducible assumption | (simp [go_sem]; done), by first | with_reducible assumption | (simp [go_sem]; done), by repeat (first | with_reducible exact Below.refl _ _ | with_reducible refine bl_alloc ?_ _ | with_reducible refine bl_drewN ?_ _ | with_reducible refine bl_drew ?_ | (with_reducible refine bl_set ?_ ?_ _; rotate_left; focus (first | (simp; done) | (simp; omega) | omega)) | with_reducible refine below_step ?_ (Bw.below _) | with_reducible refine below_step ?_ (by assumption))⟩ ?_
    rintro V2 ⟨hd1, hd2, hd3, hWd⟩ gd
    have d1 := Bw.hold hd1
    have d2 := Bw.hold hd2
    have d3 := Bw.hold hd3
    have dz1 := fun g : Bw V2 => cell_lt (d1 g)
    have dy1 := fun g : Bw V2 => Nat.le_of_lt (dz1 g)
    clear hd1 hd2 hd3
    refine (NR.out _).mono ?_
    rintro e_g3 w_g3 ⟨rfl, hb_g3⟩
    obtain ⟨g3, rfl⟩ := gd.next hb_g3
    clear hb_g3
    go_wp2_with fail
    refine calls_start (fun V3 => V3.cell? ⟨g2.out.heap.size, 0, none⟩ = some (.int .i64 0) ∧ V3.cell? ⟨g2.out.heap.size, 1, none⟩ = some (.int .i64 0) ∧ V3.cell? ⟨g2.out.heap.size, 2, none⟩ = some (.int .i64 0) ∧ V3.cell? ⟨g3.out.heap.size, 0, none⟩ = some (.int .i64 0) ∧ V3.cell? ⟨g3.out.heap.size, 1, none⟩ = some (.int .i64 0) ∧ Below w.heap.size w V3) ⟨by first | with_reducible assumption | (simp [go_sem]; done) | with_reducible exact hold_al d1 _ _ | with_reducible exact hold_al d2 _ _ | with_reducible exact hold_al d3 _ _ | (simp [go_sem, d1, d2, d3, dz1, dy1]; done), by first | with_reducible assumption | (simp [go_sem]; done) | with_reducible exact hold_al d1 _ _ | with_reducible exact hold_al d2 _ _ | with_reducible exact hold_al d3 _ _ | (simp [go_sem, d1, d2, d3, dz1, dy1]; done), by first | with_reducible assumption | (simp [go_sem]; done) | with_reducible exact hold_al d1 _ _ | with_reducible exact hold_al d2 _ _ | with_reducible exact hold_al d3 _ _ | (simp [go_sem, d1, d2, d3, dz1, dy1]; done), by first | with_reducible assumption | (simp [go_sem]; done) | with_reducible exact hold_al d1 _ _ | with_reducible exact hold_al d2 _ _ | with_reducible exact hold_al d3 _ _ | (simp [go_sem, d1, d2, d3, dz1, dy1]; done), by first | with_reducible assumption | (simp [go_sem]; done) | with_reducible exact hold_al d1 _ _ | with_reducible exact hold_al d2 _ _ | with_reducible exact hold_al d3 _ _ | (simp [go_sem, d1, d2, d3, dz1, dy1]; done), by repeat (first | with_reducible exact Below.refl _ _ | with_reducible refine bl_alloc ?_ _ | with_reducible refine bl_drewN ?_ _ | with_reducible refine bl_drew ?_ | (with_reducible refine bl_set ?_ ?_ _; rotate_left; focus (first | (simp; done) | (simp; omega) | omega)) | with_reducible refine below_step ?_ (Bw.below _) | with_reducible refine below_step ?_ (by assumption))⟩ ?_
    rintro V3 ⟨hm1, hm2, hm3, hm4, hm5, hWm⟩ gm
    have m1 := Bw.hold hm1
    have m2 := Bw.hold hm2
    have m3 := Bw.hold hm3
    have m4 := Bw.hold hm4
    have m5 := Bw.hold hm5
    have mz1 := fun g : Bw V3 => cell_lt (m1 g)
    have my1 := fun g : Bw V3 => Nat.le_of_lt (mz1 g)
    have mz4 := fun g : Bw V3 => cell_lt (m4 g)
    have my4 := fun g : Bw V3 => Nat.le_of_lt (mz4 g)
    clear hm1 hm2 hm3 hm4 hm5
    refine (WD.out _).mono ?_
    rintro e w1 ⟨rfl, rfl⟩
    go_wp2_with fail
    refine (PT.out _).mono ?_
    rintro e w1 ⟨rfl, rfl⟩
    go_wp2_with fail
    refine calls_start (fun V4 => Below w.heap.size w V4) (by repeat (first | with_reducible exact Below.refl _ _ | with_reducible refine bl_alloc ?_ _ | with_reducible refine bl_drewN ?_ _ | with_reducible refine bl_drew ?_ | (with_reducible refine bl_set ?_ ?_ _; rotate_left; focus (first | (simp; done) | (simp; omega) | omega)) | with_reducible refine below_step ?_ (Bw.below _) | with_reducible refine below_step ?_ (by assumption))) ?_
    rintro V4 hWn gn
    refine (O1.out _).mono ?_
    rintro e_g4 w_g4 ⟨rfl, hb_g4⟩
    obtain ⟨g4, rfl⟩ := gn.next hb_g4
    clear hb_g4
    go_wp2_with fail
    refine calls_start (fun V5 => V5.cell? ⟨g4.out.heap.size, 0, none⟩ = some (.int .i64 R) ∧ V5.cell? ⟨g4.out.heap.size, 1, none⟩ = some (.int .i64 za) ∧ V5.cell? ⟨g4.out.heap.size, 2, none⟩ = some (.int .i64 zb) ∧ Below w.heap.size w V5) ⟨by first | with_reducible assumption | (simp [go_sem]; done), by first | with_reducible assumption | (simp [go_sem]; done), by first | with_reducible assumption | (simp [go_sem]; done), by repeat (first | with_reducible exact Below.refl _ _ | with_reducible refine bl_alloc ?_ _ | with_reducible refine bl_drewN ?_ _ | with_reducible refine bl_drew ?_ | (with_reducible refine bl_set ?_ ?_ _; rotate_left; focus (first | (simp; done) | (simp; omega) | omega)) | with_reducible refine below_step ?_ (Bw.below _) | with_reducible refine below_step ?_ (by assumption))⟩ ?_
    rintro V5 ⟨hh1, hh2, hh3, hWh⟩ gh
    have h1 := Bw.hold hh1
    have h2 := Bw.hold hh2
    have h3 := Bw.hold hh3
    have hz1 := fun g : Bw V5 => cell_lt (h1 g)
    have hy1 := fun g : Bw V5 => Nat.le_of_lt (hz1 g)
    clear hh1 hh2 hh3
    refine (N1.out _).mono ?_
    rintro e_g5 w_g5 ⟨rfl, hb_g5⟩
    obtain ⟨g5, rfl⟩ := gh.next hb_g5
    clear hb_g5
    go_wp2_with fail
    refine calls_start (fun V6 => V6.cell? ⟨g4.out.heap.size, 0, none⟩ = some (.int .i64 R) ∧ V6.cell? ⟨g4.out.heap.size, 1, none⟩ = some (.int .i64 za) ∧ V6.cell? ⟨g4.out.heap.size, 2, none⟩ = some (.int .i64 zb) ∧ V6.cell? ⟨g5.out.heap.size, 0, none⟩ = some (.int .i64 za) ∧ V6.cell? ⟨g5.out.heap.size, 1, none⟩ = some (.int .i64 zb) ∧ Below w.heap.size w V6) ⟨by first | with_reducible assumption | (simp [go_sem]; done) | with_reducible exact hold_al h1 _ _ | with_reducible exact hold_al h2 _ _ | with_reducible exact hold_al h3 _ _ | (simp [go_sem, h1, h2, h3, hz1, hy1]; done), by first | with_reducible assumption | (simp [go_sem]; done) | with_reducible exact hold_al h1 _ _ | with_reducible exact hold_al h2 _ _ | with_reducible exact hold_al h3 _ _ | (simp [go_sem, h1, h2, h3, hz1, hy1]; done), by first | with_reducible assumption | (simp [go_sem]; done) | with_reducible exact hold_al h1 _ _ | with_reducible exact hold_al h2 _ _ | with_reducible exact hold_al h3 _ _ | (simp [go_sem, h1, h2, h3, hz1, hy1]; done), by first | with_reducible assumption | (simp [go_sem]; done) | with_reducible exact hold_al h1 _ _ | with_reducible exact hold_al h2 _ _ | with_reducible exact hold_al h3 _ _ | (simp [go_sem, h1, h2, h3, hz1, hy1]; done), by first | with_reducible assumption | (simp [go_sem]; done) | with_reducible exact hold_al h1 _ _ | with_reducible exact hold_al h2 _ _ | with_reducible exact hold_al h3 _ _ | (simp [go_sem, h1, h2, h3, hz1, hy1]; done), by repeat (first | with_reducible exact Below.refl _ _ | with_reducible refine bl_alloc ?_ _ | with_reducible refine bl_drewN ?_ _ | with_reducible refine bl_drew ?_ | (with_reducible refine bl_set ?_ ?_ _; rotate_left; focus (first | (simp; done) | (simp; omega) | omega)) | with_reducible refine below_step ?_ (Bw.below _) | with_reducible refine below_step ?_ (by assumption))⟩ ?_
    rintro V6 ⟨hl1, hl2, hl3, hl4, hl5, hWl⟩ gl
    have l1 := Bw.hold hl1
    have l2 := Bw.hold hl2
    have l3 := Bw.hold hl3
    have l4 := Bw.hold hl4
    have l5 := Bw.hold hl5
    have lz1 := fun g : Bw V6 => cell_lt (l1 g)
    have ly1 := fun g : Bw V6 => Nat.le_of_lt (lz1 g)
    have lz4 := fun g : Bw V6 => cell_lt (l4 g)
    have ly4 := fun g : Bw V6 => Nat.le_of_lt (lz4 g)
    clear hl1 hl2 hl3 hl4 hl5
    refine (HK.out _).mono ?_
    rintro e_g6 w_g6 ⟨rfl, hb_g6⟩
    obtain ⟨g6, rfl⟩ := gl.next hb_g6
    clear hb_g6
    go_wp2_with fail
    refine (awake4 _).mono ?_
    rintro e_g7 w_g7 ⟨rfl, hb_g7⟩
    obtain ⟨g7, rfl⟩ := g6.next hb_g7
    clear hb_g7
    go_wp2_with fail
    go_ret
    exact ⟨rfl, by repeat (first | with_reducible exact Below.refl _ _ | with_reducible refine bl_alloc ?_ _ | with_reducible refine bl_drewN ?_ _ | with_reducible refine bl_drew ?_ | (with_reducible refine bl_set ?_ ?_ _; rotate_left; focus (first | (simp; done) | (simp; omega) | omega)) | with_reducible refine below_step ?_ (Bw.below _) | with_reducible refine below_step ?_ (by assumption))⟩
  · skip
    go_enter Try.func9, Try.ntmps9
    go_wp2_with fail
    refine calls_start (fun V => Below w.heap.size w V) (by repeat (first | with_reducible exact Below.refl _ _ | with_reducible refine bl_alloc ?_ _ | with_reducible refine bl_drewN ?_ _ | with_reducible refine bl_drew ?_ | (with_reducible refine bl_set ?_ ?_ _; rotate_left; focus (first | (simp; done) | (simp; omega) | omega)) | with_reducible refine below_step ?_ (Bw.below _) | with_reducible refine below_step ?_ (by assumption))) ?_
    rintro V hWc gc
    refine (OF.out _).mono ?_
    rintro e_g2 w_g2 ⟨rfl, hb_g2⟩
    obtain ⟨g2, rfl⟩ := gc.next hb_g2
    clear hb_g2
    go_wp2_with fail
    refine calls_start (fun V2 => V2.cell? ⟨g2.out.heap.size, 0, none⟩ = some (.int .i64 0) ∧ V2.cell? ⟨g2.out.heap.size, 1, none⟩ = some (.int .i64 0) ∧ V2.cell? ⟨g2.out.heap.size, 2, none⟩ = some (.int .i64 0) ∧ Below w.heap.size w V2) ⟨by first | with_reducible assumption | (simp [go_sem]; done), by first | with_reducible assumption | (simp [go_sem]; done), by first | with_reducible assumption | (simp [go_sem]; done), by repeat (first | with_reducible exact Below.refl _ _ | with_reducible refine bl_alloc ?_ _ | with_reducible refine bl_drewN ?_ _ | with_reducible refine bl_drew ?_ | (with_reducible refine bl_set ?_ ?_ _; rotate_left; focus (first | (simp; done) | (simp; omega) | omega)) | with_reducible refine below_step ?_ (Bw.below _) | with_reducible refine below_step ?_ (by assumption))⟩ ?_
    rintro V2 ⟨hd1, hd2, hd3, hWd⟩ gd
    have d1 := Bw.hold hd1
    have d2 := Bw.hold hd2
    have d3 := Bw.hold hd3
    have dz1 := fun g : Bw V2 => cell_lt (d1 g)
    have dy1 := fun g : Bw V2 => Nat.le_of_lt (dz1 g)
    clear hd1 hd2 hd3
    refine (NR.out _).mono ?_
    rintro e_g3 w_g3 ⟨rfl, hb_g3⟩
    obtain ⟨g3, rfl⟩ := gd.next hb_g3
    clear hb_g3
    go_wp2_with fail
    refine calls_start (fun V3 => V3.cell? ⟨g2.out.heap.size, 0, none⟩ = some (.int .i64 0) ∧ V3.cell? ⟨g2.out.heap.size, 1, none⟩ = some (.int .i64 0) ∧ V3.cell? ⟨g2.out.heap.size, 2, none⟩ = some (.int .i64 0) ∧ V3.cell? ⟨g3.out.heap.size, 0, none⟩ = some (.int .i64 0) ∧ V3.cell? ⟨g3.out.heap.size, 1, none⟩ = some (.int .i64 0) ∧ Below w.heap.size w V3) ⟨by first | with_reducible assumption | (simp [go_sem]; done) | with_reducible exact hold_al d1 _ _ | with_reducible exact hold_al d2 _ _ | with_reducible exact hold_al d3 _ _ | (simp [go_sem, d1, d2, d3, dz1, dy1]; done), by first | with_reducible assumption | (simp [go_sem]; done) | with_reducible exact hold_al d1 _ _ | with_reducible exact hold_al d2 _ _ | with_reducible exact hold_al d3 _ _ | (simp [go_sem, d1, d2, d3, dz1, dy1]; done), by first | with_reducible assumption | (simp [go_sem]; done) | with_reducible exact hold_al d1 _ _ | with_reducible exact hold_al d2 _ _ | with_reducible exact hold_al d3 _ _ | (simp [go_sem, d1, d2, d3, dz1, dy1]; done), by first | with_reducible assumption | (simp [go_sem]; done) | with_reducible exact hold_al d1 _ _ | with_reducible exact hold_al d2 _ _ | with_reducible exact hold_al d3 _ _ | (simp [go_sem, d1, d2, d3, dz1, dy1]; done), by first | with_reducible assumption | (simp [go_sem]; done) | with_reducible exact hold_al d1 _ _ | with_reducible exact hold_al d2 _ _ | with_reducible exact hold_al d3 _ _ | (simp [go_sem, d1, d2, d3, dz1, dy1]; done), by repeat (first | with_reducible exact Below.refl _ _ | with_reducible refine bl_alloc ?_ _ | with_reducible refine bl_drewN ?_ _ | with_reducible refine bl_drew ?_ | (with_reducible refine bl_set ?_ ?_ _; rotate_left; focus (first | (simp; done) | (simp; omega) | omega)) | with_reducible refine below_step ?_ (Bw.below _) | with_reducible refine below_step ?_ (by assumption))⟩ ?_
    rintro V3 ⟨hm1, hm2, hm3, hm4, hm5, hWm⟩ gm
    have m1 := Bw.hold hm1
    have m2 := Bw.hold hm2
    have m3 := Bw.hold hm3
    have m4 := Bw.hold hm4
    have m5 := Bw.hold hm5
    have mz1 := fun g : Bw V3 => cell_lt (m1 g)
    have my1 := fun g : Bw V3 => Nat.le_of_lt (mz1 g)
    have mz4 := fun g : Bw V3 => cell_lt (m4 g)
    have my4 := fun g : Bw V3 => Nat.le_of_lt (mz4 g)
    clear hm1 hm2 hm3 hm4 hm5
    refine (WD.out _).mono ?_
    rintro e w1 ⟨rfl, rfl⟩
    go_wp2_with fail
    refine (PT.out _).mono ?_
    rintro e w1 ⟨rfl, rfl⟩
    go_wp2_with fail
    refine calls_start (fun V4 => Below w.heap.size w V4) (by repeat (first | with_reducible exact Below.refl _ _ | with_reducible refine bl_alloc ?_ _ | with_reducible refine bl_drewN ?_ _ | with_reducible refine bl_drew ?_ | (with_reducible refine bl_set ?_ ?_ _; rotate_left; focus (first | (simp; done) | (simp; omega) | omega)) | with_reducible refine below_step ?_ (Bw.below _) | with_reducible refine below_step ?_ (by assumption))) ?_
    rintro V4 hWn gn
    refine (O1.out _).mono ?_
    rintro e_g4 w_g4 ⟨rfl, hb_g4⟩
    obtain ⟨g4, rfl⟩ := gn.next hb_g4
    clear hb_g4
    go_wp2_with fail
    refine calls_start (fun V5 => V5.cell? ⟨g4.out.heap.size, 0, none⟩ = some (.int .i64 R) ∧ V5.cell? ⟨g4.out.heap.size, 1, none⟩ = some (.int .i64 za) ∧ V5.cell? ⟨g4.out.heap.size, 2, none⟩ = some (.int .i64 zb) ∧ Below w.heap.size w V5) ⟨by first | with_reducible assumption | (simp [go_sem]; done), by first | with_reducible assumption | (simp [go_sem]; done), by first | with_reducible assumption | (simp [go_sem]; done), by repeat (first | with_reducible exact Below.refl _ _ | with_reducible refine bl_alloc ?_ _ | with_reducible refine bl_drewN ?_ _ | with_reducible refine bl_drew ?_ | (with_reducible refine bl_set ?_ ?_ _; rotate_left; focus (first | (simp; done) | (simp; omega) | omega)) | with_reducible refine below_step ?_ (Bw.below _) | with_reducible refine below_step ?_ (by assumption))⟩ ?_
    rintro V5 ⟨hh1, hh2, hh3, hWh⟩ gh
    have h1 := Bw.hold hh1
    have h2 := Bw.hold hh2
    have h3 := Bw.hold hh3
    have hz1 := fun g : Bw V5 => cell_lt (h1 g)
    have hy1 := fun g : Bw V5 => Nat.le_of_lt (hz1 g)
    clear hh1 hh2 hh3
    refine (N1.out _).mono ?_
    rintro e_g5 w_g5 ⟨rfl, hb_g5⟩
    obtain ⟨g5, rfl⟩ := gh.next hb_g5
    clear hb_g5
    go_wp2_with fail
    refine calls_start (fun V6 => V6.cell? ⟨g4.out.heap.size, 0, none⟩ = some (.int .i64 R) ∧ V6.cell? ⟨g4.out.heap.size, 1, none⟩ = some (.int .i64 za) ∧ V6.cell? ⟨g4.out.heap.size, 2, none⟩ = some (.int .i64 zb) ∧ V6.cell? ⟨g5.out.heap.size, 0, none⟩ = some (.int .i64 za) ∧ V6.cell? ⟨g5.out.heap.size, 1, none⟩ = some (.int .i64 zb) ∧ Below w.heap.size w V6) ⟨by first | with_reducible assumption | (simp [go_sem]; done) | with_reducible exact hold_al h1 _ _ | with_reducible exact hold_al h2 _ _ | with_reducible exact hold_al h3 _ _ | (simp [go_sem, h1, h2, h3, hz1, hy1]; done), by first | with_reducible assumption | (simp [go_sem]; done) | with_reducible exact hold_al h1 _ _ | with_reducible exact hold_al h2 _ _ | with_reducible exact hold_al h3 _ _ | (simp [go_sem, h1, h2, h3, hz1, hy1]; done), by first | with_reducible assumption | (simp [go_sem]; done) | with_reducible exact hold_al h1 _ _ | with_reducible exact hold_al h2 _ _ | with_reducible exact hold_al h3 _ _ | (simp [go_sem, h1, h2, h3, hz1, hy1]; done), by first | with_reducible assumption | (simp [go_sem]; done) | with_reducible exact hold_al h1 _ _ | with_reducible exact hold_al h2 _ _ | with_reducible exact hold_al h3 _ _ | (simp [go_sem, h1, h2, h3, hz1, hy1]; done), by first | with_reducible assumption | (simp [go_sem]; done) | with_reducible exact hold_al h1 _ _ | with_reducible exact hold_al h2 _ _ | with_reducible exact hold_al h3 _ _ | (simp [go_sem, h1, h2, h3, hz1, hy1]; done), by repeat (first | with_reducible exact Below.refl _ _ | with_reducible refine bl_alloc ?_ _ | with_reducible refine bl_drewN ?_ _ | with_reducible refine bl_drew ?_ | (with_reducible refine bl_set ?_ ?_ _; rotate_left; focus (first | (simp; done) | (simp; omega) | omega)) | with_reducible refine below_step ?_ (Bw.below _) | with_reducible refine below_step ?_ (by assumption))⟩ ?_
    rintro V6 ⟨hl1, hl2, hl3, hl4, hl5, hWl⟩ gl
    have l1 := Bw.hold hl1
    have l2 := Bw.hold hl2
    have l3 := Bw.hold hl3
    have l4 := Bw.hold hl4
    have l5 := Bw.hold hl5
    have lz1 := fun g : Bw V6 => cell_lt (l1 g)
    have ly1 := fun g : Bw V6 => Nat.le_of_lt (lz1 g)
    have lz4 := fun g : Bw V6 => cell_lt (l4 g)
    have ly4 := fun g : Bw V6 => Nat.le_of_lt (lz4 g)
    clear hl1 hl2 hl3 hl4 hl5
    refine (HK.out _).mono ?_
    rintro e_g6 w_g6 ⟨rfl, hb_g6⟩
    obtain ⟨g6, rfl⟩ := gl.next hb_g6
    clear hb_g6
    go_wp2_with fail
    refine (awake4 _).mono ?_
    rintro e_g7 w_g7 ⟨rfl, hb_g7⟩
    obtain ⟨g7, rfl⟩ := g6.next hb_g7
    clear hb_g7
    go_wp2_with fail
    go_ret
    exact ⟨rfl, by repeat (first | with_reducible exact Below.refl _ _ | with_reducible refine bl_alloc ?_ _ | with_reducible refine bl_drewN ?_ _ | with_reducible refine bl_drew ?_ | (with_reducible refine bl_set ?_ ?_ _; rotate_left; focus (first | (simp; done) | (simp; omega) | omega)) | with_reducible refine below_step ?_ (Bw.below _) | with_reducible refine below_step ?_ (by assumption))⟩
  · skip
    go_enter Try.func9, Try.ntmps9
    go_wp2_with fail
    refine calls_start (fun V => Below w.heap.size w V) (by repeat (first | with_reducible exact Below.refl _ _ | with_reducible refine bl_alloc ?_ _ | with_reducible refine bl_drewN ?_ _ | with_reducible refine bl_drew ?_ | (with_reducible refine bl_set ?_ ?_ _; rotate_left; focus (first | (simp; done) | (simp; omega) | omega)) | with_reducible refine below_step ?_ (Bw.below _) | with_reducible refine below_step ?_ (by assumption))) ?_
    rintro V hWc gc
    refine (OF.out _).mono ?_
    rintro e_g2 w_g2 ⟨rfl, hb_g2⟩
    obtain ⟨g2, rfl⟩ := gc.next hb_g2
    clear hb_g2
    go_wp2_with fail
    refine calls_start (fun V2 => V2.cell? ⟨g2.out.heap.size, 0, none⟩ = some (.int .i64 r) ∧ V2.cell? ⟨g2.out.heap.size, 1, none⟩ = some (.int .i64 p) ∧ V2.cell? ⟨g2.out.heap.size, 2, none⟩ = some (.int .i64 q) ∧ Below w.heap.size w V2) ⟨by first | with_reducible assumption | (simp [go_sem]; done), by first | with_reducible assumption | (simp [go_sem]; done), by first | with_reducible assumption | (simp [go_sem]; done), by repeat (first | with_reducible exact Below.refl _ _ | with_reducible refine bl_alloc ?_ _ | with_reducible refine bl_drewN ?_ _ | with_reducible refine bl_drew ?_ | (with_reducible refine bl_set ?_ ?_ _; rotate_left; focus (first | (simp; done) | (simp; omega) | omega)) | with_reducible refine below_step ?_ (Bw.below _) | with_reducible refine below_step ?_ (by assumption))⟩ ?_
    rintro V2 ⟨hd1, hd2, hd3, hWd⟩ gd
    have d1 := Bw.hold hd1
    have d2 := Bw.hold hd2
    have d3 := Bw.hold hd3
    have dz1 := fun g : Bw V2 => cell_lt (d1 g)
    have dy1 := fun g : Bw V2 => Nat.le_of_lt (dz1 g)
    clear hd1 hd2 hd3
    refine (NR.out _).mono ?_
    rintro e_g3 w_g3 ⟨rfl, hb_g3⟩
    obtain ⟨g3, rfl⟩ := gd.next hb_g3
    clear hb_g3
    go_wp2_with fail
    refine calls_start (fun V3 => V3.cell? ⟨g2.out.heap.size, 0, none⟩ = some (.int .i64 r) ∧ V3.cell? ⟨g2.out.heap.size, 1, none⟩ = some (.int .i64 p) ∧ V3.cell? ⟨g2.out.heap.size, 2, none⟩ = some (.int .i64 q) ∧ V3.cell? ⟨g3.out.heap.size, 0, none⟩ = some (.int .i64 p) ∧ V3.cell? ⟨g3.out.heap.size, 1, none⟩ = some (.int .i64 q) ∧ Below w.heap.size w V3) ⟨by first | with_reducible assumption | (simp [go_sem]; done) | with_reducible exact hold_al d1 _ _ | with_reducible exact hold_al d2 _ _ | with_reducible exact hold_al d3 _ _ | (simp [go_sem, d1, d2, d3, dz1, dy1]; done), by first | with_reducible assumption | (simp [go_sem]; done) | with_reducible exact hold_al d1 _ _ | with_reducible exact hold_al d2 _ _ | with_reducible exact hold_al d3 _ _ | (simp [go_sem, d1, d2, d3, dz1, dy1]; done), by first | with_reducible assumption | (simp [go_sem]; done) | with_reducible exact hold_al d1 _ _ | with_reducible exact hold_al d2 _ _ | with_reducible exact hold_al d3 _ _ | (simp [go_sem, d1, d2, d3, dz1, dy1]; done), by first | with_reducible assumption | (simp [go_sem]; done) | with_reducible exact hold_al d1 _ _ | with_reducible exact hold_al d2 _ _ | with_reducible exact hold_al d3 _ _ | (simp [go_sem, d1, d2, d3, dz1, dy1]; done), by first | with_reducible assumption | (simp [go_sem]; done) | with_reducible exact hold_al d1 _ _ | with_reducible exact hold_al d2 _ _ | with_reducible exact hold_al d3 _ _ | (simp [go_sem, d1, d2, d3, dz1, dy1]; done), by repeat (first | with_reducible exact Below.refl _ _ | with_reducible refine bl_alloc ?_ _ | with_reducible refine bl_drewN ?_ _ | with_reducible refine bl_drew ?_ | (with_reducible refine bl_set ?_ ?_ _; rotate_left; focus (first | (simp; done) | (simp; omega) | omega)) | with_reducible refine below_step ?_ (Bw.below _) | with_reducible refine below_step ?_ (by assumption))⟩ ?_
    rintro V3 ⟨hm1, hm2, hm3, hm4, hm5, hWm⟩ gm
    have m1 := Bw.hold hm1
    have m2 := Bw.hold hm2
    have m3 := Bw.hold hm3
    have m4 := Bw.hold hm4
    have m5 := Bw.hold hm5
    have mz1 := fun g : Bw V3 => cell_lt (m1 g)
    have my1 := fun g : Bw V3 => Nat.le_of_lt (mz1 g)
    have mz4 := fun g : Bw V3 => cell_lt (m4 g)
    have my4 := fun g : Bw V3 => Nat.le_of_lt (mz4 g)
    clear hm1 hm2 hm3 hm4 hm5
    refine (WD.out _).mono ?_
    rintro e w1 ⟨rfl, rfl⟩
    go_wp2_with fail
    refine (PT.out _).mono ?_
    rintro e w1 ⟨rfl, rfl⟩
    go_wp2_with fail
    refine calls_start (fun V4 => Below w.heap.size w V4) (by repeat (first | with_reducible exact Below.refl _ _ | with_reducible refine bl_alloc ?_ _ | with_reducible refine bl_drewN ?_ _ | with_reducible refine bl_drew ?_ | (with_reducible refine bl_set ?_ ?_ _; rotate_left; focus (first | (simp; done) | (simp; omega) | omega)) | with_reducible refine below_step ?_ (Bw.below _) | with_reducible refine below_step ?_ (by assumption))) ?_
    rintro V4 hWn gn
    refine (O1.out _).mono ?_
    rintro e_g4 w_g4 ⟨rfl, hb_g4⟩
    obtain ⟨g4, rfl⟩ := gn.next hb_g4
    clear hb_g4
    go_wp2_with fail
    refine calls_start (fun V5 => V5.cell? ⟨g4.out.heap.size, 0, none⟩ = some (.int .i64 R) ∧ V5.cell? ⟨g4.out.heap.size, 1, none⟩ = some (.int .i64 za) ∧ V5.cell? ⟨g4.out.heap.size, 2, none⟩ = some (.int .i64 zb) ∧ Below w.heap.size w V5) ⟨by first | with_reducible assumption | (simp [go_sem]; done), by first | with_reducible assumption | (simp [go_sem]; done), by first | with_reducible assumption | (simp [go_sem]; done), by repeat (first | with_reducible exact Below.refl _ _ | with_reducible refine bl_alloc ?_ _ | with_reducible refine bl_drewN ?_ _ | with_reducible refine bl_drew ?_ | (with_reducible refine bl_set ?_ ?_ _; rotate_left; focus (first | (simp; done) | (simp; omega) | omega)) | with_reducible refine below_step ?_ (Bw.below _) | with_reducible refine below_step ?_ (by assumption))⟩ ?_
    rintro V5 ⟨hh1, hh2, hh3, hWh⟩ gh
    have h1 := Bw.hold hh1
    have h2 := Bw.hold hh2
    have h3 := Bw.hold hh3
    have hz1 := fun g : Bw V5 => cell_lt (h1 g)
    have hy1 := fun g : Bw V5 => Nat.le_of_lt (hz1 g)
    clear hh1 hh2 hh3
    refine (N1.out _).mono ?_
    rintro e_g5 w_g5 ⟨rfl, hb_g5⟩
    obtain ⟨g5, rfl⟩ := gh.next hb_g5
    clear hb_g5
    go_wp2_with fail
    refine calls_start (fun V6 => V6.cell? ⟨g4.out.heap.size, 0, none⟩ = some (.int .i64 R) ∧ V6.cell? ⟨g4.out.heap.size, 1, none⟩ = some (.int .i64 za) ∧ V6.cell? ⟨g4.out.heap.size, 2, none⟩ = some (.int .i64 zb) ∧ V6.cell? ⟨g5.out.heap.size, 0, none⟩ = some (.int .i64 za) ∧ V6.cell? ⟨g5.out.heap.size, 1, none⟩ = some (.int .i64 zb) ∧ Below w.heap.size w V6) ⟨by first | with_reducible assumption | (simp [go_sem]; done) | with_reducible exact hold_al h1 _ _ | with_reducible exact hold_al h2 _ _ | with_reducible exact hold_al h3 _ _ | (simp [go_sem, h1, h2, h3, hz1, hy1]; done), by first | with_reducible assumption | (simp [go_sem]; done) | with_reducible exact hold_al h1 _ _ | with_reducible exact hold_al h2 _ _ | with_reducible exact hold_al h3 _ _ | (simp [go_sem, h1, h2, h3, hz1, hy1]; done), by first | with_reducible assumption | (simp [go_sem]; done) | with_reducible exact hold_al h1 _ _ | with_reducible exact hold_al h2 _ _ | with_reducible exact hold_al h3 _ _ | (simp [go_sem, h1, h2, h3, hz1, hy1]; done), by first | with_reducible assumption | (simp [go_sem]; done) | with_reducible exact hold_al h1 _ _ | with_reducible exact hold_al h2 _ _ | with_reducible exact hold_al h3 _ _ | (simp [go_sem, h1, h2, h3, hz1, hy1]; done), by first | with_reducible assumption | (simp [go_sem]; done) | with_reducible exact hold_al h1 _ _ | with_reducible exact hold_al h2 _ _ | with_reducible exact hold_al h3 _ _ | (simp [go_sem, h1, h2, h3, hz1, hy1]; done), by repeat (first | with_reducible exact Below.refl _ _ | with_reducible refine bl_alloc ?_ _ | with_reducible refine bl_drewN ?_ _ | with_reducible refine bl_drew ?_ | (with_reducible refine bl_set ?_ ?_ _; rotate_left; focus (first | (simp; done) | (simp; omega) | omega)) | with_reducible refine below_step ?_ (Bw.below _) | with_reducible refine below_step ?_ (by assumption))⟩ ?_
    rintro V6 ⟨hl1, hl2, hl3, hl4, hl5, hWl⟩ gl
    have l1 := Bw.hold hl1
    have l2 := Bw.hold hl2
    have l3 := Bw.hold hl3
    have l4 := Bw.hold hl4
    have l5 := Bw.hold hl5
    have lz1 := fun g : Bw V6 => cell_lt (l1 g)
    have ly1 := fun g : Bw V6 => Nat.le_of_lt (lz1 g)
    have lz4 := fun g : Bw V6 => cell_lt (l4 g)
    have ly4 := fun g : Bw V6 => Nat.le_of_lt (lz4 g)
    clear hl1 hl2 hl3 hl4 hl5
    refine (HK.out _).mono ?_
    rintro e_g6 w_g6 ⟨rfl, hb_g6⟩
    obtain ⟨g6, rfl⟩ := gl.next hb_g6
    clear hb_g6
    go_wp2_with fail
    refine (awake4 _).mono ?_
    rintro e_g7 w_g7 ⟨rfl, hb_g7⟩
    obtain ⟨g7, rfl⟩ := g6.next hb_g7
    clear hb_g7
    go_wp2_with fail
    go_ret
    exact ⟨rfl, by repeat (first | with_reducible exact Below.refl _ _ | with_reducible refine bl_alloc ?_ _ | with_reducible refine bl_drewN ?_ _ | with_reducible refine bl_drew ?_ | (with_reducible refine bl_set ?_ ?_ _; rotate_left; focus (first | (simp; done) | (simp; omega) | omega)) | with_reducible refine below_step ?_ (Bw.below _) | with_reducible refine below_step ?_ (by assumption))⟩
/-! THE STATEMENT CellOf -/
section
open Go.ChangeShapes Go.WideShapes Go.ChangeAt Go.RowKit Go.Joins
set_option linter.unusedVariables false
set_option maxRecDepth 100000 in
theorem cellOf_lifted (os : Os) (started : os.Started) (H : Type) (enc : TypeId × Value → H) :
    ReturnsInHanded {} Try.checked os 9 .any (Rows.cellOfSpec.pre6 enc Try.prog Try.f9 Rows.cellOfRow.domain false) (Rows.cellOfSpec.post enc Try.prog Try.f9 false true false false) := by
  refine returnsInHanded_of_change (C := Try.checked) (show ownKnob Try.prog.godebug = none by kernel_rfl) started (by kernel_rfl) Try.func9
    (ChangeSpec.witness6 (enc := enc) (C := Try.checked) false ⟨#[], #[.int .i64 0, .int .i64 0, .int .i64 0], []⟩ 8 (by kernel_rfl) (by kernel_rfl) (by kernel_rfl) (by kernel_rfl)) ?_
  intro W base args ds gs before hval0 hW hcnd _
  have hval : ∀ (j : Nat) t v, Try.f9.params[j]? = some t → args[j]? = some v → Value.okWide Try.prog W .any base t v := hval0
  have hW' := hW
  obtain ⟨p, q, hA0, hV, rfl, hfz, hnd⟩ := hW
  have hA : DataW.TrodAll enc Try.prog W 0 (fun _ => true) true Try.f9.params.toList args.toList ds p := hA0
  rw [Try.params9] at hA hval
  obtain ⟨v0, vs0, d0, ds0, p0, q0, hargs, rfl, rfl, h0, r0⟩ := trodAll_cons hA
  obtain ⟨v1, vs1, d1, ds1, p1, q1, rfl, rfl, rfl, h1, r1⟩ := trodAll_cons r0
  obtain ⟨v2, vs2, d2, ds2, p2, q2, rfl, rfl, rfl, h2, r2⟩ := trodAll_cons r1
  obtain ⟨rfl, rfl, rfl⟩ := trodAll_nil r2
  obtain rfl : args = #[v0, v1, v2] := by cases args; simp_all
  obtain ⟨rfl, rfl⟩ := trodVars_none hV
  obtain ⟨x, rfl, rfl, rfl, wf_x⟩ := open_int Try.underlying2 (hval 0 2 v0 rfl rfl) h0
  obtain ⟨y, rfl, rfl, rfl, wf_y⟩ := open_int Try.underlying2 (hval 1 2 v1 rfl rfl) h1
  obtain ⟨r, rfl, rfl, rfl, wf_r⟩ := open_int Try.underlying3 (hval 2 3 v2 rfl rfl) h2
  clear hA0 hval0
  simp only [List.append_nil] at hW'
  refine (cellof_walk x y r (wf_i64 wf_x).1 (wf_i64 wf_x).2 (wf_i64 wf_y).1 (wf_i64 wf_y).2 (wf_i64 wf_r).1 (wf_i64 wf_r).2 W).mono fun e W' ⟨he, hb⟩ => ?_
  subst he
  exact ⟨_, rfl, post_of_below (pa := []) (pv := []) hW' (fun _ _ _ => (trodAll_cons_mk (shut_bool Try.underlying4 _) trodAll_mk0)) (fun sp _ => (trodAll_cons_mk (shut_int Try.underlying2 wf_x) (trodAll_cons_mk (shut_int Try.underlying2 wf_y) (trodAll_cons_mk (shut_int Try.underlying3 wf_r) trodAll_mk0)))) (fun _ _ => rfl) rfl hb
    (ok_one (by kernel_rfl) rfl (okWide_bool_mk Try.underlying4 _))⟩
theorem cellOf_holds : Rows.CellOfSaid :=
  OpenClaim.holds_of_wide 9 Try.f9 rfl rfl rfl rfl rfl rfl rfl ⟨rfl, rfl, rfl, rfl, rfl⟩ rfl rfl rfl rfl rfl (by kernel_rfl) Try.func9 (by kernel_rfl)
    (of_decide_eq_true (by kernel_rfl)) (by unfold Func.isWrapper; first | (rw [if_pos (by decide +kernel)]; kernel_rfl) | (rw [if_neg (by decide +kernel)]; exact ⟨rfl, rfl⟩))
    (fun os started H enc _ => cellOf_lifted os started H enc)
end
#print axioms cellOf_holds
end Go.Proofs.Ytajojnbpmbkghaa

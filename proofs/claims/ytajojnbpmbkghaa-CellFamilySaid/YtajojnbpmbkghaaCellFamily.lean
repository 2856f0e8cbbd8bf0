/- CellFamily: a cell is just one of its parent's seven children, which are unlike, and each of whose parent is it; its digit says which. No condition. -/
import Derived.Test.YtajojnbpmbkghaaCellUps
import Derived.Test.YtajojnbpmbkghaaKidsLaw
namespace Go.Proofs.Ytajojnbpmbkghaa
open Go.RowKit
set_option linter.unusedSimpArgs false
set_option linter.unusedVariables false
/-- A cell is the child of its parent that its digit says. -/
theorem self_kid (a b : Int) : ∃ j : Nat, j < 7 ∧ chX (2 * upA a b - upB a b) j = a ∧ chY (upA a b + 3 * upB a b) j = b ∧ dgz a b = j := by
  obtain ⟨e1, e2⟩ := up_down a b
  have hd : dgz a b = dgt (lfA a b) (lfB a b) := rfl
  rcases lf_cases a b with ⟨h1, h2⟩ | ⟨h1, h2⟩ | ⟨h1, h2⟩ | ⟨h1, h2⟩ | ⟨h1, h2⟩ | ⟨h1, h2⟩ | ⟨h1, h2⟩ <;> rw [h1, h2] at hd <;> rw [h1] at e1 <;> rw [h2] at e2
  · exact ⟨0, by omega, by simp [chX]; omega, by simp [chY]; omega, hd.trans (by decide)⟩
  · exact ⟨1, by omega, by simp [chX, uA]; omega, by simp [chY, uB]; omega, hd.trans (by decide)⟩
  · exact ⟨2, by omega, by simp [chX, uA]; omega, by simp [chY, uB]; omega, hd.trans (by decide)⟩
  · exact ⟨3, by omega, by simp [chX, uA]; omega, by simp [chY, uB]; omega, hd.trans (by decide)⟩
  · exact ⟨4, by omega, by simp [chX, uA]; omega, by simp [chY, uB]; omega, hd.trans (by decide)⟩
  · exact ⟨5, by omega, by simp [chX, uA]; omega, by simp [chY, uB]; omega, hd.trans (by decide)⟩
  · exact ⟨6, by omega, by simp [chX, uA]; omega, by simp [chY, uB]; omega, hd.trans (by decide)⟩
theorem kids_unlike (a b : Int) (i j : Nat) (hi : i < 7) (hj : j < 7) (h1 : chX (2 * a - b) i = chX (2 * a - b) j) (h2 : chY (a + 3 * b) i = chY (a + 3 * b) j) : i = j := by
  have e1 := ch_dgz a b i hi
  have e2 := ch_dgz a b j hj
  rw [h1, h2, e2] at e1
  omega
def KidCells (V : World) (hg : Nat) (r da db : Int) : Prop := ∀ j : Nat, j < 7 → V.cell? ⟨hg, j * 3, none⟩ = some (.int .i64 r) ∧ V.cell? ⟨hg, j * 3 + 1, none⟩ = some (.int .i64 (chX da j)) ∧ V.cell? ⟨hg, j * 3 + 2, none⟩ = some (.int .i64 (chY db j))
def cnt1 (j k : Nat) : Int := if j < k then 1 else 0
theorem cnt1_step (j k : Nat) : cnt1 j (k + 1) = if k = j then cnt1 j k + 1 else cnt1 j k := by
  unfold cnt1
  split <;> split <;> split <;> omega
set_option maxRecDepth 100000 in
set_option maxHeartbeats 8000000 in
theorem cellfamily_walk (x y r : Int) (hx : -9223372036854775808 ≤ x) (hx' : x ≤ 9223372036854775807) (hy : -9223372036854775808 ≤ y) (hy' : y ≤ 9223372036854775807) (hr : -9223372036854775808 ≤ r) (hr' : r ≤ 9223372036854775807) (w : World) : Calls Try.prog 5 #[.int .i64 x, .int .i64 y, .int .i64 r] w fun e w' => e = .returned (.bool true) ∧ Below w.heap.size w w' := by
  have SM0 := law4_some x y r hx hx' hy hy' hr hr'
  generalize (r.tmod 13 + 13).tmod 13 = R at SM0
  have SM := Lib.hid SM0
  clear SM0
  go_enter Try.func5, Try.ntmps5
  go_wp2_with fail
  refine (SM.out _).mono ?_
  rintro e_h w_h ⟨a, b, rfl, hok, hb_h⟩
  obtain ⟨⟨r1, r2⟩, hz, _⟩ := okB_true hok
  have HOK := Lib.hid hok
  clear SM hz
  by_cases h0 : R = 0
  · subst h0
    clear r1 r2 hok
    go_wp2_with fail
    refine calls_start (fun V => V.cell? ⟨w_h.heap.size, 0, none⟩ = some (.int .i64 0) ∧ V.cell? ⟨w_h.heap.size, 1, none⟩ = some (.int .i64 a) ∧ V.cell? ⟨w_h.heap.size, 2, none⟩ = some (.int .i64 b) ∧ Below w.heap.size w V) ⟨by first | with_reducible assumption | (simp [go_sem]; done), by first | with_reducible assumption | (simp [go_sem]; done), by first | with_reducible assumption | (simp [go_sem]; done), by repeat (first | with_reducible exact Below.refl _ _ | with_reducible refine bl_alloc ?_ _ | with_reducible refine bl_drewN ?_ _ | with_reducible refine bl_drew ?_ | (with_reducible refine bl_set ?_ ?_ _; rotate_left; focus (first | (simp; done) | (simp; omega) | omega)) | with_reducible refine below_step ?_ (Bw.below _) | with_reducible refine below_step ?_ (by assumption))⟩ ?_
    rintro V ⟨hc1, hc2, hc3, hWc⟩ gc
    have c1 := Bw.hold hc1
    have c2 := Bw.hold hc2
    have c3 := Bw.hold hc3
    have cz1 := fun g : Bw V => cell_lt (c1 g)
    have cy1 := fun g : Bw V => Nat.le_of_lt (cz1 g)
    clear hc1 hc2 hc3
    clear hb_h
    have KD := cell_children 0 a b HOK.out (by omega)
    rw [show (0 : Int) + 1 = 1 by decide] at KD
    have HKD := Lib.hid KD
    have KOK : Hid (∀ j : Nat, j < 7 → okB 1 (chX (2 * a - b) j) (chY (a + 3 * b) j) = true) := Lib.hid fun j hj => kid_ok a b 0 j (by omega) hj HOK.out
    have KDG : Hid (∀ j : Nat, j < 7 → digV 1 (chX (2 * a - b) j) (chY (a + 3 * b) j) = (j : Int)) := Lib.hid fun j hj => kid_dig a b 0 j (by omega) hj HOK.out
    have KUP : Hid (∀ j : Nat, j < 7 → upA (chX (2 * a - b) j) (chY (a + 3 * b) j) = a ∧ upB (chX (2 * a - b) j) (chY (a + 3 * b) j) = b) := Lib.hid fun j hj => ch_up a b j hj
    clear KD
    generalize 2 * a - b = da at *
    generalize a + 3 * b = db at *
    refine (HKD.out _).mono ?_
    rintro e_k w_k ⟨v, rfl, own_k, hb_k⟩
    obtain ⟨g5, rfl⟩ := gc.next hb_k
    clear hb_k
    obtain ⟨hg, cap, rfl, hgb, hcs⟩ := own_kids own_k
    clear own_k HKD
    go_wp2_with fail
    refine wp_start (fun V => KidCells V hg 1 da db ∧ V.cell? ⟨w_h.heap.size, 0, none⟩ = some (.int .i64 0) ∧ V.cell? ⟨w_h.heap.size, 1, none⟩ = some (.int .i64 a) ∧ V.cell? ⟨w_h.heap.size, 2, none⟩ = some (.int .i64 b) ∧ Below w.heap.size w V) ⟨hcs, c1 _, c2 _, c3 _, by repeat (first | with_reducible exact Below.refl _ _ | with_reducible refine bl_alloc ?_ _ | with_reducible refine bl_drewN ?_ _ | with_reducible refine bl_drew ?_ | (with_reducible refine bl_set ?_ ?_ _; rotate_left; focus (first | (simp; done) | (simp; omega) | omega)) | with_reducible refine below_step ?_ (Bw.below _) | with_reducible refine below_step ?_ (by assumption))⟩ ?_
    rintro V5 ⟨hkc, f1, f2, f3, hV5⟩ g5'
    have t1 := Bw.hold f1
    have t2 := Bw.hold f2
    have t3 := Bw.hold f3
    clear hcs f1 f2 f3
    clear c1 c2 c3 cz1 cy1
    go_loopw [16] (fun i W => ∃ k : Nat, k ≤ 7 ∧ i = .int .i64 k ∧ Below V5.heap.size V5 W) (fun i _ => 7 - (intOf i).toNat)
    case atStart => exact ⟨0, by omega, rfl, by repeat (first | with_reducible exact Below.refl _ _ | with_reducible refine bl_alloc ?_ _ | with_reducible refine bl_drewN ?_ _ | with_reducible refine bl_drew ?_ | (with_reducible refine bl_set ?_ ?_ _; rotate_left; focus (first | (simp; done) | (simp; omega) | omega)) | with_reducible refine below_step ?_ (Bw.below _) | with_reducible refine below_step ?_ (by assumption))⟩
    case round =>
      obtain ⟨k, hk, rfl, hb⟩ := hrel
      obtain ⟨g, rfl⟩ := bw_of hb
      by_cases hlt : k < 7
      · obtain ⟨k1, k2, k3⟩ := hkc k hlt
        have m1 := Bw.hold k1
        have m2 := Bw.hold k2
        have m3 := Bw.hold k3
        have PA := cell_parent 1 (chX da k) (chY db k) (KOK.out k hlt) (by omega)
        rw [(KUP.out k hlt).1, (KUP.out k hlt).2, show (1 : Int) - 1 = 0 by omega] at PA
        have DG := cell_Digit 1 (chX da k) (chY db k)
        rw [KDG.out k hlt] at DG
        have OK := cell_ok 1 (chX da k) (chY db k)
        rw [KOK.out k hlt] at OK
        have HPA := Lib.hid PA
        have HDG := Lib.hid DG
        have HO := Lib.hid OK
        have tz := fun g : Bw V5 => cell_lt (t1 g)
        have mz := fun g : Bw V5 => cell_lt (m1 g)
        clear PA DG OK k1 k2 k3
        generalize chX da k = cx at *
        generalize chY db k = cy at *
        go_wp2_with fail
        refine (HPA.out _).mono ?_
        rintro e_p w_p ⟨rfl, hb_p⟩
        obtain ⟨g6, rfl⟩ := g.next hb_p
        clear hb_p
        go_wp2_with fail
        have y4 := hold_al m1 g6 (.cells #[.int .i64 0, .int .i64 a, .int .i64 b] 25)
        have y5 := hold_al m2 g6 (.cells #[.int .i64 0, .int .i64 a, .int .i64 b] 25)
        have y6 := hold_al m3 g6 (.cells #[.int .i64 0, .int .i64 a, .int .i64 b] 25)
        refine calls_start (fun V6 => V6.cell? ⟨g6.out.heap.size, 0, none⟩ = some (.int .i64 0) ∧ V6.cell? ⟨g6.out.heap.size, 1, none⟩ = some (.int .i64 a) ∧ V6.cell? ⟨g6.out.heap.size, 2, none⟩ = some (.int .i64 b) ∧ V6.cell? ⟨hg, k * 3, none⟩ = some (.int .i64 1) ∧ V6.cell? ⟨hg, k * 3 + 1, none⟩ = some (.int .i64 cx) ∧ V6.cell? ⟨hg, k * 3 + 2, none⟩ = some (.int .i64 cy) ∧ Below V5.heap.size V5 V6) ⟨by first | with_reducible assumption | (simp [go_sem]; done), by first | with_reducible assumption | (simp [go_sem]; done), by first | with_reducible assumption | (simp [go_sem]; done), by first | with_reducible assumption | (simp [go_sem]; done), by first | with_reducible assumption | (simp [go_sem]; done), by first | with_reducible assumption | (simp [go_sem]; done), by repeat (first | with_reducible exact Below.refl _ _ | with_reducible refine bl_alloc ?_ _ | with_reducible refine bl_drewN ?_ _ | with_reducible refine bl_drew ?_ | (with_reducible refine bl_set ?_ ?_ _; rotate_left; focus (first | (simp; done) | (simp; omega) | omega)) | with_reducible refine below_step ?_ (Bw.below _) | with_reducible refine below_step ?_ (by assumption))⟩ ?_
        rintro V6 ⟨hu1, hu2, hu3, hu4, hu5, hu6, hWu⟩ gu
        have u1 := Bw.hold hu1
        have u2 := Bw.hold hu2
        have u3 := Bw.hold hu3
        have u4 := Bw.hold hu4
        have u5 := Bw.hold hu5
        have u6 := Bw.hold hu6
        have uz1 := fun g : Bw V6 => cell_lt (u1 g)
        have uy1 := fun g : Bw V6 => Nat.le_of_lt (uz1 g)
        have uz4 := fun g : Bw V6 => cell_lt (u4 g)
        have uy4 := fun g : Bw V6 => Nat.le_of_lt (uz4 g)
        clear hu1 hu2 hu3 hu4 hu5 hu6
        clear m1 m2 m3
        refine (HDG.out _).mono ?_
        rintro e_g7 w_g7 ⟨rfl, hb_g7⟩
        obtain ⟨g7, rfl⟩ := gu.next hb_g7
        clear hb_g7
        go_wp2_with fail
        refine (HO.out _).mono ?_
        rintro e_g8 w_g8 ⟨rfl, hb_g8⟩
        obtain ⟨g8, rfl⟩ := g7.next hb_g8
        clear hb_g8
        go_wp2_with fail
        go_roundw
        case rel => exact ⟨k + 1, by omega, by go_num, by repeat (first | with_reducible exact Below.refl _ _ | with_reducible refine bl_alloc ?_ _ | with_reducible refine bl_drewN ?_ _ | with_reducible refine bl_drew ?_ | (with_reducible refine bl_set ?_ ?_ _; rotate_left; focus (first | (simp; done) | (simp; omega) | omega)) | with_reducible refine below_step ?_ (Bw.below _) | with_reducible refine below_step ?_ (by assumption))⟩
        case measure => simp [intOf]; omega
      · obtain rfl : k = 7 := by omega
        go_wp2_with fail
        refine calls_start (fun V7 => Below V5.heap.size V5 V7) (by repeat (first | with_reducible exact Below.refl _ _ | with_reducible refine bl_alloc ?_ _ | with_reducible refine bl_drewN ?_ _ | with_reducible refine bl_drew ?_ | (with_reducible refine bl_set ?_ ?_ _; rotate_left; focus (first | (simp; done) | (simp; omega) | omega)) | with_reducible refine below_step ?_ (Bw.below _) | with_reducible refine below_step ?_ (by assumption))) ?_
        rintro V7 hWtw gtw
        refine (awake4 _).mono ?_
        rintro e_g9 w_g9 ⟨rfl, hb_g9⟩
        obtain ⟨g9, rfl⟩ := gtw.next hb_g9
        clear hb_g9
        go_wp2_with fail
        go_ret
        exact ⟨rfl, by repeat (first | with_reducible exact Below.refl _ _ | with_reducible refine bl_alloc ?_ _ | with_reducible refine bl_drewN ?_ _ | with_reducible refine bl_drew ?_ | (with_reducible refine bl_set ?_ ?_ _; rotate_left; focus (first | (simp; done) | (simp; omega) | omega)) | with_reducible refine below_step ?_ (Bw.below _) | with_reducible refine below_step ?_ (by assumption))⟩
  · have hpos : 0 < R := by omega
    have PA := Lib.hid (cell_parent R a b HOK.out (by omega))
    obtain ⟨j0, hj0, hx0, hy0, hd0⟩ := self_kid a b
    have DG := cell_Digit R a b
    rw [show digV R a b = (j0 : Int) by unfold digV; rw [if_pos ⟨HOK.out, by omega⟩]; exact hd0] at DG
    have HDG := Lib.hid DG
    have po := ok_up R a b (R - 1) 1 HOK.out (by omega) (by omega)
    have KD := cell_children (R - 1) (upA a b) (upB a b) po (by omega)
    rw [show R - 1 + 1 = R by omega] at KD
    have HKD := Lib.hid KD
    have HUN : Hid (∀ i : Nat, i < 7 → i ≠ j0 → ¬ (chX (2 * upA a b - upB a b) i = a ∧ chY (upA a b + 3 * upB a b) i = b)) := Lib.hid fun i hi hne h => hne (kids_unlike _ _ i j0 hi hj0 (h.1.trans hx0.symm) (h.2.trans hy0.symm))
    have HX0 := Lib.hid hx0
    have HY0 := Lib.hid hy0
    clear DG po KD hx0 hy0 hd0 hok
    generalize 2 * upA a b - upB a b = pa at *
    generalize upA a b + 3 * upB a b = pb at *
    generalize upA a b = ua at *
    generalize upB a b = ub at *
    go_wp2_with fail
    refine calls_start (fun V => V.cell? ⟨w_h.heap.size, 0, none⟩ = some (.int .i64 R) ∧ V.cell? ⟨w_h.heap.size, 1, none⟩ = some (.int .i64 a) ∧ V.cell? ⟨w_h.heap.size, 2, none⟩ = some (.int .i64 b) ∧ Below w.heap.size w V) ⟨by first | with_reducible assumption | (simp [go_sem]; done), by first | with_reducible assumption | (simp [go_sem]; done), by first | with_reducible assumption | (simp [go_sem]; done), by repeat (first | with_reducible exact Below.refl _ _ | with_reducible refine bl_alloc ?_ _ | with_reducible refine bl_drewN ?_ _ | with_reducible refine bl_drew ?_ | (with_reducible refine bl_set ?_ ?_ _; rotate_left; focus (first | (simp; done) | (simp; omega) | omega)) | with_reducible refine below_step ?_ (Bw.below _) | with_reducible refine below_step ?_ (by assumption))⟩ ?_
    rintro V ⟨hc1, hc2, hc3, hWc⟩ gc
    have c1 := Bw.hold hc1
    have c2 := Bw.hold hc2
    have c3 := Bw.hold hc3
    have cz1 := fun g : Bw V => cell_lt (c1 g)
    have cy1 := fun g : Bw V => Nat.le_of_lt (cz1 g)
    clear hc1 hc2 hc3
    clear hb_h
    refine (PA.out _).mono ?_
    rintro e_g2 w_g2 ⟨rfl, hb_g2⟩
    obtain ⟨g2, rfl⟩ := gc.next hb_g2
    clear hb_g2
    go_wp2_with fail
    refine calls_start (fun V2 => V2.cell? ⟨w_h.heap.size, 0, none⟩ = some (.int .i64 R) ∧ V2.cell? ⟨w_h.heap.size, 1, none⟩ = some (.int .i64 a) ∧ V2.cell? ⟨w_h.heap.size, 2, none⟩ = some (.int .i64 b) ∧ V2.cell? ⟨g2.out.heap.size, 0, none⟩ = some (.int .i64 (R - 1)) ∧ V2.cell? ⟨g2.out.heap.size, 1, none⟩ = some (.int .i64 ua) ∧ V2.cell? ⟨g2.out.heap.size, 2, none⟩ = some (.int .i64 ub) ∧ Below w.heap.size w V2) ⟨by first | with_reducible assumption | (simp [go_sem]; done) | with_reducible exact hold_al c1 _ _ | with_reducible exact hold_al c2 _ _ | with_reducible exact hold_al c3 _ _ | (simp [go_sem, c1, c2, c3, cz1, cy1]; done), by first | with_reducible assumption | (simp [go_sem]; done) | with_reducible exact hold_al c1 _ _ | with_reducible exact hold_al c2 _ _ | with_reducible exact hold_al c3 _ _ | (simp [go_sem, c1, c2, c3, cz1, cy1]; done), by first | with_reducible assumption | (simp [go_sem]; done) | with_reducible exact hold_al c1 _ _ | with_reducible exact hold_al c2 _ _ | with_reducible exact hold_al c3 _ _ | (simp [go_sem, c1, c2, c3, cz1, cy1]; done), by first | with_reducible assumption | (simp [go_sem]; done) | with_reducible exact hold_al c1 _ _ | with_reducible exact hold_al c2 _ _ | with_reducible exact hold_al c3 _ _ | (simp [go_sem, c1, c2, c3, cz1, cy1]; done), by first | with_reducible assumption | (simp [go_sem]; done) | with_reducible exact hold_al c1 _ _ | with_reducible exact hold_al c2 _ _ | with_reducible exact hold_al c3 _ _ | (simp [go_sem, c1, c2, c3, cz1, cy1]; done), by first | with_reducible assumption | (simp [go_sem]; done) | with_reducible exact hold_al c1 _ _ | with_reducible exact hold_al c2 _ _ | with_reducible exact hold_al c3 _ _ | (simp [go_sem, c1, c2, c3, cz1, cy1]; done), by repeat (first | with_reducible exact Below.refl _ _ | with_reducible refine bl_alloc ?_ _ | with_reducible refine bl_drewN ?_ _ | with_reducible refine bl_drew ?_ | (with_reducible refine bl_set ?_ ?_ _; rotate_left; focus (first | (simp; done) | (simp; omega) | omega)) | with_reducible refine below_step ?_ (Bw.below _) | with_reducible refine below_step ?_ (by assumption))⟩ ?_
    rintro V2 ⟨hd1, hd2, hd3, hd4, hd5, hd6, hWd⟩ gd
    have d1 := Bw.hold hd1
    have d2 := Bw.hold hd2
    have d3 := Bw.hold hd3
    have d4 := Bw.hold hd4
    have d5 := Bw.hold hd5
    have d6 := Bw.hold hd6
    have dz1 := fun g : Bw V2 => cell_lt (d1 g)
    have dy1 := fun g : Bw V2 => Nat.le_of_lt (dz1 g)
    have dz4 := fun g : Bw V2 => cell_lt (d4 g)
    have dy4 := fun g : Bw V2 => Nat.le_of_lt (dz4 g)
    clear hd1 hd2 hd3 hd4 hd5 hd6
    clear c1 c2 c3 cz1 cy1
    refine (HKD.out _).mono ?_
    rintro e_k w_k ⟨v, rfl, own_k, hb_k⟩
    obtain ⟨g3, rfl⟩ := gd.next hb_k
    clear hb_k
    obtain ⟨hg0, cap0, rfl, hgb0, hcs⟩ := own_kids own_k
    clear own_k HKD PA
    go_wp2_with fail
    refine wp_start (fun V => KidCells V hg0 R pa pb ∧ V.cell? ⟨w_h.heap.size, 0, none⟩ = some (.int .i64 R) ∧ V.cell? ⟨w_h.heap.size, 1, none⟩ = some (.int .i64 a) ∧ V.cell? ⟨w_h.heap.size, 2, none⟩ = some (.int .i64 b) ∧ Below w.heap.size w V) ⟨hcs, d1 _, d2 _, d3 _, by repeat (first | with_reducible exact Below.refl _ _ | with_reducible refine bl_alloc ?_ _ | with_reducible refine bl_drewN ?_ _ | with_reducible refine bl_drew ?_ | (with_reducible refine bl_set ?_ ?_ _; rotate_left; focus (first | (simp; done) | (simp; omega) | omega)) | with_reducible refine below_step ?_ (Bw.below _) | with_reducible refine below_step ?_ (by assumption))⟩ ?_
    rintro V3 ⟨hkc, f1, f2, f3, hV3⟩ g3'
    have s1 := Bw.hold f1
    have s2 := Bw.hold f2
    have s3 := Bw.hold f3
    clear hcs f1 f2 f3
    clear d1 d2 d3 d4 d5 d6 dz1 dy1 dz4 dy4
    go_loopw [12, 13] (fun n i W => ∃ k : Nat, k ≤ 7 ∧ i = .int .i64 k ∧ n = .int .i64 (cnt1 j0 k) ∧ Below V3.heap.size V3 W) (fun _ i _ => 7 - (intOf i).toNat)
    case atStart => exact ⟨0, by omega, rfl, rfl, by repeat (first | with_reducible exact Below.refl _ _ | with_reducible refine bl_alloc ?_ _ | with_reducible refine bl_drewN ?_ _ | with_reducible refine bl_drew ?_ | (with_reducible refine bl_set ?_ ?_ _; rotate_left; focus (first | (simp; done) | (simp; omega) | omega)) | with_reducible refine below_step ?_ (Bw.below _) | with_reducible refine below_step ?_ (by assumption))⟩
    case round =>
      obtain ⟨k, hk, rfl, rfl, hb⟩ := hrel
      obtain ⟨g, rfl⟩ := bw_of hb
      have hc1 : 0 ≤ cnt1 j0 k := by unfold cnt1; split <;> omega
      have hc2 : cnt1 j0 k ≤ 1 := by unfold cnt1; split <;> omega
      have hcs := cnt1_step j0 k
      by_cases hlt : k < 7
      · obtain ⟨k1, k2, k3⟩ := hkc k hlt
        have n1 := k1
        have m1 := Bw.hold k1
        have m2 := Bw.hold k2
        have m3 := Bw.hold k3
        have hn0 : (0 : Int) ≤ (k : Int) := by omega
        have hn7 : (k : Int) < 7 := by omega
        by_cases hkj : k = j0
        · rw [if_pos hkj] at hcs
          rw [hkj, HX0.out] at m2
          rw [hkj, HY0.out] at m3
          rw [← hkj] at m2 m3
          have hcs' := Lib.hid hcs
          have hjj : ((j0 : Int) == (k : Int)) = true := by simp; omega
          have hjj' : (j0 : Int) = (k : Int) := by omega
          have HJ := Lib.hid hjj'
          clear k1 k2 k3 n1 hcs hjj hjj'
          generalize cnt1 j0 k = cn at *
          have hkj2 : Hid (k = j0) := Lib.hid hkj
          have HDG2 := HDG.out
          rw [← hkj] at HDG2
          have HDG3 := Lib.hid HDG2
          clear hkj HDG2
          go_wp2_with fail
          have t1 := s1 g
          have t2 := s2 g
          have t3 := s3 g
          have o1 := m1 g
          have o2 := m2 g
          have o3 := m3 g
          have hbg := g.below
          have hz1 := cell_lt t1
          clear m1 m2 m3
          generalize Bw.out g = w0 at *
          go_region
          go_wp2_with fail
          obtain ⟨g6, hg6⟩ := bw_of (show Below V3.heap.size V3 w0.drew from bl_drew hbg)
          rw [← hg6]
          refine (HDG3.out _).mono ?_
          rintro e_q w_q ⟨rfl, hb_q⟩
          obtain ⟨g7, rfl⟩ := g6.next hb_q
          clear hb_q
          go_wp2_with fail
          go_roundw
          case rel => exact ⟨k + 1, by omega, by go_num, by rw [hcs'.out], by repeat (first | with_reducible exact Below.refl _ _ | with_reducible refine bl_alloc ?_ _ | with_reducible refine bl_drewN ?_ _ | with_reducible refine bl_drew ?_ | (with_reducible refine bl_set ?_ ?_ _; rotate_left; focus (first | (simp; done) | (simp; omega) | omega)) | with_reducible refine below_step ?_ (Bw.below _) | with_reducible refine below_step ?_ (by assumption))⟩
          case measure => simp [intOf]; omega
        · rw [if_neg hkj] at hcs
          have hcs' := Lib.hid hcs
          have hne := HUN.out k hlt hkj
          clear k1 k2 k3 n1 hcs hkj
          generalize cnt1 j0 k = cn at *
          generalize chX pa k = cx at *
          generalize chY pb k = cy at *
          by_cases hcx : cx = a
          · have q1 : (cx == a) = true := by simp [hcx]
            have q2 : (cy == b) = false := by
              rcases h : (cy == b) with _ | _
              · rfl
              · exact absurd ⟨hcx, by simpa using h⟩ hne
            clear hne hcx
            go_wp2_with fail
            have t1 := s1 g
            have t2 := s2 g
            have t3 := s3 g
            have o1 := m1 g
            have o2 := m2 g
            have o3 := m3 g
            have hbg := g.below
            clear m1 m2 m3
            generalize Bw.out g = w0 at *
            go_region
            go_wp2_with fail
            go_roundw
            case rel => exact ⟨k + 1, by omega, by go_num, by rw [hcs'.out], by repeat (first | with_reducible exact Below.refl _ _ | with_reducible refine bl_alloc ?_ _ | with_reducible refine bl_drewN ?_ _ | with_reducible refine bl_drew ?_ | (with_reducible refine bl_set ?_ ?_ _; rotate_left; focus (first | (simp; done) | (simp; omega) | omega)) | with_reducible refine below_step ?_ (Bw.below _) | with_reducible refine below_step ?_ (by assumption))⟩
            case measure => simp [intOf]; omega
          · have q1 : (cx == a) = false := by simp [hcx]
            clear hne hcx
            go_wp2_with fail
            have t1 := s1 g
            have t2 := s2 g
            have t3 := s3 g
            have o1 := m1 g
            have o2 := m2 g
            have o3 := m3 g
            have hbg := g.below
            clear m1 m2 m3
            generalize Bw.out g = w0 at *
            go_region
            go_wp2_with fail
            go_roundw
            case rel => exact ⟨k + 1, by omega, by go_num, by rw [hcs'.out], by repeat (first | with_reducible exact Below.refl _ _ | with_reducible refine bl_alloc ?_ _ | with_reducible refine bl_drewN ?_ _ | with_reducible refine bl_drew ?_ | (with_reducible refine bl_set ?_ ?_ _; rotate_left; focus (first | (simp; done) | (simp; omega) | omega)) | with_reducible refine below_step ?_ (Bw.below _) | with_reducible refine below_step ?_ (by assumption))⟩
            case measure => simp [intOf]; omega
      · obtain rfl : k = 7 := by omega
        have hc7 : cnt1 j0 7 = 1 := by unfold cnt1; rw [if_pos (by omega)]
        rw [hc7] at hc1 hc2
        by_cases h12 : R = 12
        · subst h12
          go_wp2_with fail
          refine calls_start (fun V9 => Below w.heap.size w V9) (by repeat (first | with_reducible exact Below.refl _ _ | with_reducible refine bl_alloc ?_ _ | with_reducible refine bl_drewN ?_ _ | with_reducible refine bl_drew ?_ | (with_reducible refine bl_set ?_ ?_ _; rotate_left; focus (first | (simp; done) | (simp; omega) | omega)) | with_reducible refine below_step ?_ (Bw.below _) | with_reducible refine below_step ?_ (by assumption))) ?_
          rintro V9 hWtz gtz
          refine (awake4 _).mono ?_
          rintro e_g9 w_g9 ⟨rfl, hb_g9⟩
          obtain ⟨g9, rfl⟩ := gtz.next hb_g9
          clear hb_g9
          go_wp2_with fail
          go_ret
          exact ⟨rfl, by repeat (first | with_reducible exact Below.refl _ _ | with_reducible refine bl_alloc ?_ _ | with_reducible refine bl_drewN ?_ _ | with_reducible refine bl_drew ?_ | (with_reducible refine bl_set ?_ ?_ _; rotate_left; focus (first | (simp; done) | (simp; omega) | omega)) | with_reducible refine below_step ?_ (Bw.below _) | with_reducible refine below_step ?_ (by assumption))⟩
        · have hlt12 : R < 12 := by omega
          have KD := cell_children R a b HOK.out (by omega)
          have HKD := Lib.hid KD
          have KOK : Hid (∀ j : Nat, j < 7 → okB (R + 1) (chX (2 * a - b) j) (chY (a + 3 * b) j) = true) := Lib.hid fun j hj => by obtain ⟨n, hn⟩ : ∃ n : Nat, R = (n : Int) := ⟨R.toNat, by omega⟩; have h := HOK.out; rw [hn] at h ⊢; exact kid_ok a b n j (by omega) hj h
          have KDG : Hid (∀ j : Nat, j < 7 → digV (R + 1) (chX (2 * a - b) j) (chY (a + 3 * b) j) = (j : Int)) := Lib.hid fun j hj => by obtain ⟨n, hn⟩ : ∃ n : Nat, R = (n : Int) := ⟨R.toNat, by omega⟩; have h := HOK.out; rw [hn] at h ⊢; exact kid_dig a b n j (by omega) hj h
          have KUP : Hid (∀ j : Nat, j < 7 → upA (chX (2 * a - b) j) (chY (a + 3 * b) j) = a ∧ upB (chX (2 * a - b) j) (chY (a + 3 * b) j) = b) := Lib.hid fun j hj => ch_up a b j hj
          clear KD
          generalize 2 * a - b = da at *
          generalize a + 3 * b = db at *
          have hr12 : (R == 12) = false := by simp [h12]
          have y1 := s1 g
          have y2 := s2 g
          have y3 := s3 g
          go_wp2_with fail
          refine calls_start (fun V4 => V4.cell? ⟨w_h.heap.size, 0, none⟩ = some (.int .i64 R) ∧ V4.cell? ⟨w_h.heap.size, 1, none⟩ = some (.int .i64 a) ∧ V4.cell? ⟨w_h.heap.size, 2, none⟩ = some (.int .i64 b) ∧ Below V3.heap.size V3 V4) ⟨by first | with_reducible assumption | (simp [go_sem]; done), by first | with_reducible assumption | (simp [go_sem]; done), by first | with_reducible assumption | (simp [go_sem]; done), by repeat (first | with_reducible exact Below.refl _ _ | with_reducible refine bl_alloc ?_ _ | with_reducible refine bl_drewN ?_ _ | with_reducible refine bl_drew ?_ | (with_reducible refine bl_set ?_ ?_ _; rotate_left; focus (first | (simp; done) | (simp; omega) | omega)) | with_reducible refine below_step ?_ (Bw.below _) | with_reducible refine below_step ?_ (by assumption))⟩ ?_
          rintro V4 ⟨hq1, hq2, hq3, hWq⟩ gq
          have q1 := Bw.hold hq1
          have q2 := Bw.hold hq2
          have q3 := Bw.hold hq3
          have qz1 := fun g : Bw V4 => cell_lt (q1 g)
          have qy1 := fun g : Bw V4 => Nat.le_of_lt (qz1 g)
          clear hq1 hq2 hq3
          refine (HKD.out _).mono ?_
          rintro e_k w_k ⟨v, rfl, own_k, hb_k⟩
          obtain ⟨g5, rfl⟩ := gq.next hb_k
          clear hb_k
          obtain ⟨hg, cap, rfl, hgb, hcs⟩ := own_kids own_k
          clear own_k HKD
          go_wp2_with fail
          refine wp_start (fun V => KidCells V hg (R + 1) da db ∧ V.cell? ⟨w_h.heap.size, 0, none⟩ = some (.int .i64 R) ∧ V.cell? ⟨w_h.heap.size, 1, none⟩ = some (.int .i64 a) ∧ V.cell? ⟨w_h.heap.size, 2, none⟩ = some (.int .i64 b) ∧ Below w.heap.size w V) ⟨hcs, q1 _, q2 _, q3 _, by repeat (first | with_reducible exact Below.refl _ _ | with_reducible refine bl_alloc ?_ _ | with_reducible refine bl_drewN ?_ _ | with_reducible refine bl_drew ?_ | (with_reducible refine bl_set ?_ ?_ _; rotate_left; focus (first | (simp; done) | (simp; omega) | omega)) | with_reducible refine below_step ?_ (Bw.below _) | with_reducible refine below_step ?_ (by assumption))⟩ ?_
          rintro V5 ⟨hkc, f1, f2, f3, hV5⟩ g5'
          have t1 := Bw.hold f1
          have t2 := Bw.hold f2
          have t3 := Bw.hold f3
          clear hcs f1 f2 f3
          clear q1 q2 q3 qz1 qy1
          go_loopw [16] (fun i W => ∃ k : Nat, k ≤ 7 ∧ i = .int .i64 k ∧ Below V5.heap.size V5 W) (fun i _ => 7 - (intOf i).toNat)
          case atStart => exact ⟨0, by omega, rfl, by repeat (first | with_reducible exact Below.refl _ _ | with_reducible refine bl_alloc ?_ _ | with_reducible refine bl_drewN ?_ _ | with_reducible refine bl_drew ?_ | (with_reducible refine bl_set ?_ ?_ _; rotate_left; focus (first | (simp; done) | (simp; omega) | omega)) | with_reducible refine below_step ?_ (Bw.below _) | with_reducible refine below_step ?_ (by assumption))⟩
          case round =>
            obtain ⟨k, hk, rfl, hb⟩ := hrel
            obtain ⟨g, rfl⟩ := bw_of hb
            by_cases hlt : k < 7
            · obtain ⟨k1, k2, k3⟩ := hkc k hlt
              have m1 := Bw.hold k1
              have m2 := Bw.hold k2
              have m3 := Bw.hold k3
              have PA := cell_parent (R + 1) (chX da k) (chY db k) (KOK.out k hlt) (by omega)
              rw [(KUP.out k hlt).1, (KUP.out k hlt).2, show ((R + 1) : Int) - 1 = R by omega] at PA
              have DG := cell_Digit (R + 1) (chX da k) (chY db k)
              rw [KDG.out k hlt] at DG
              have OK := cell_ok (R + 1) (chX da k) (chY db k)
              rw [KOK.out k hlt] at OK
              have HPA := Lib.hid PA
              have HDG := Lib.hid DG
              have HO := Lib.hid OK
              have tz := fun g : Bw V5 => cell_lt (t1 g)
              have mz := fun g : Bw V5 => cell_lt (m1 g)
              clear PA DG OK k1 k2 k3
              generalize chX da k = cx at *
              generalize chY db k = cy at *
              go_wp2_with fail
              refine (HPA.out _).mono ?_
              rintro e_p w_p ⟨rfl, hb_p⟩
              obtain ⟨g6, rfl⟩ := g.next hb_p
              clear hb_p
              go_wp2_with fail
              have y4 := hold_al m1 g6 (.cells #[.int .i64 R, .int .i64 a, .int .i64 b] 25)
              have y5 := hold_al m2 g6 (.cells #[.int .i64 R, .int .i64 a, .int .i64 b] 25)
              have y6 := hold_al m3 g6 (.cells #[.int .i64 R, .int .i64 a, .int .i64 b] 25)
              refine calls_start (fun V6 => V6.cell? ⟨g6.out.heap.size, 0, none⟩ = some (.int .i64 R) ∧ V6.cell? ⟨g6.out.heap.size, 1, none⟩ = some (.int .i64 a) ∧ V6.cell? ⟨g6.out.heap.size, 2, none⟩ = some (.int .i64 b) ∧ V6.cell? ⟨hg, k * 3, none⟩ = some (.int .i64 (R + 1)) ∧ V6.cell? ⟨hg, k * 3 + 1, none⟩ = some (.int .i64 cx) ∧ V6.cell? ⟨hg, k * 3 + 2, none⟩ = some (.int .i64 cy) ∧ Below V5.heap.size V5 V6) ⟨by first | with_reducible assumption | (simp [go_sem]; done), by first | with_reducible assumption | (simp [go_sem]; done), by first | with_reducible assumption | (simp [go_sem]; done), by first | with_reducible assumption | (simp [go_sem]; done), by first | with_reducible assumption | (simp [go_sem]; done), by first | with_reducible assumption | (simp [go_sem]; done), by repeat (first | with_reducible exact Below.refl _ _ | with_reducible refine bl_alloc ?_ _ | with_reducible refine bl_drewN ?_ _ | with_reducible refine bl_drew ?_ | (with_reducible refine bl_set ?_ ?_ _; rotate_left; focus (first | (simp; done) | (simp; omega) | omega)) | with_reducible refine below_step ?_ (Bw.below _) | with_reducible refine below_step ?_ (by assumption))⟩ ?_
              rintro V6 ⟨hu1, hu2, hu3, hu4, hu5, hu6, hWu⟩ gu
              have u1 := Bw.hold hu1
              have u2 := Bw.hold hu2
              have u3 := Bw.hold hu3
              have u4 := Bw.hold hu4
              have u5 := Bw.hold hu5
              have u6 := Bw.hold hu6
              have uz1 := fun g : Bw V6 => cell_lt (u1 g)
              have uy1 := fun g : Bw V6 => Nat.le_of_lt (uz1 g)
              have uz4 := fun g : Bw V6 => cell_lt (u4 g)
              have uy4 := fun g : Bw V6 => Nat.le_of_lt (uz4 g)
              clear hu1 hu2 hu3 hu4 hu5 hu6
              clear m1 m2 m3
              refine (HDG.out _).mono ?_
              rintro e_g7 w_g7 ⟨rfl, hb_g7⟩
              obtain ⟨g7, rfl⟩ := gu.next hb_g7
              clear hb_g7
              go_wp2_with fail
              refine (HO.out _).mono ?_
              rintro e_g8 w_g8 ⟨rfl, hb_g8⟩
              obtain ⟨g8, rfl⟩ := g7.next hb_g8
              clear hb_g8
              go_wp2_with fail
              go_roundw
              case rel => exact ⟨k + 1, by omega, by go_num, by repeat (first | with_reducible exact Below.refl _ _ | with_reducible refine bl_alloc ?_ _ | with_reducible refine bl_drewN ?_ _ | with_reducible refine bl_drew ?_ | (with_reducible refine bl_set ?_ ?_ _; rotate_left; focus (first | (simp; done) | (simp; omega) | omega)) | with_reducible refine below_step ?_ (Bw.below _) | with_reducible refine below_step ?_ (by assumption))⟩
              case measure => simp [intOf]; omega
            · obtain rfl : k = 7 := by omega
              go_wp2_with fail
              refine calls_start (fun V7 => Below V5.heap.size V5 V7) (by repeat (first | with_reducible exact Below.refl _ _ | with_reducible refine bl_alloc ?_ _ | with_reducible refine bl_drewN ?_ _ | with_reducible refine bl_drew ?_ | (with_reducible refine bl_set ?_ ?_ _; rotate_left; focus (first | (simp; done) | (simp; omega) | omega)) | with_reducible refine below_step ?_ (Bw.below _) | with_reducible refine below_step ?_ (by assumption))) ?_
              rintro V7 hWtw gtw
              refine (awake4 _).mono ?_
              rintro e_g9 w_g9 ⟨rfl, hb_g9⟩
              obtain ⟨g9, rfl⟩ := gtw.next hb_g9
              clear hb_g9
              go_wp2_with fail
              go_ret
              exact ⟨rfl, by repeat (first | with_reducible exact Below.refl _ _ | with_reducible refine bl_alloc ?_ _ | with_reducible refine bl_drewN ?_ _ | with_reducible refine bl_drew ?_ | (with_reducible refine bl_set ?_ ?_ _; rotate_left; focus (first | (simp; done) | (simp; omega) | omega)) | with_reducible refine below_step ?_ (Bw.below _) | with_reducible refine below_step ?_ (by assumption))⟩
/-! THE STATEMENT CellFamily -/
section
open Go.ChangeShapes Go.WideShapes Go.ChangeAt Go.RowKit Go.Joins
set_option linter.unusedVariables false
set_option maxRecDepth 100000 in
theorem cellFamily_lifted (os : Os) (started : os.Started) (H : Type) (enc : TypeId × Value → H) :
    ReturnsInHanded {} Try.checked os 5 .any (Rows.cellFamilySpec.pre6 enc Try.prog Try.f5 Rows.cellFamilyRow.domain false) (Rows.cellFamilySpec.post enc Try.prog Try.f5 false true false false) := by
  refine returnsInHanded_of_change (C := Try.checked) (show ownKnob Try.prog.godebug = none by kernel_rfl) started (by kernel_rfl) Try.func5
    (ChangeSpec.witness6 (enc := enc) (C := Try.checked) false ⟨#[], #[.int .i64 0, .int .i64 0, .int .i64 0], []⟩ 8 (by kernel_rfl) (by kernel_rfl) (by kernel_rfl) (by kernel_rfl)) ?_
  intro W base args ds gs before hval0 hW hcnd _
  have hval : ∀ (j : Nat) t v, Try.f5.params[j]? = some t → args[j]? = some v → Value.okWide Try.prog W .any base t v := hval0
  have hW' := hW
  obtain ⟨p, q, hA0, hV, rfl, hfz, hnd⟩ := hW
  have hA : DataW.TrodAll enc Try.prog W 0 (fun _ => true) true Try.f5.params.toList args.toList ds p := hA0
  rw [Try.params5] at hA hval
  obtain ⟨v0, vs0, d0, ds0, p0, q0, hargs, rfl, rfl, h0, r0⟩ := trodAll_cons hA
  obtain ⟨v1, vs1, d1, ds1, p1, q1, rfl, rfl, rfl, h1, r1⟩ := trodAll_cons r0
  obtain ⟨v2, vs2, d2, ds2, p2, q2, rfl, rfl, rfl, h2, r2⟩ := trodAll_cons r1
  obtain ⟨rfl, rfl, rfl⟩ := trodAll_nil r2
  obtain rfl : args = #[v0, v1, v2] := by cases args; simp_all
  obtain ⟨rfl, rfl⟩ := trodVars_none hV
  obtain ⟨x, rfl, rfl, rfl, wf_x⟩ := open_int Try.underlying2 (hval 0 2 v0 rfl rfl) h0
  obtain ⟨y, rfl, rfl, rfl, wf_y⟩ := open_int Try.underlying2 (hval 1 2 v1 rfl rfl) h1
  obtain ⟨r, rfl, rfl, rfl, wf_r⟩ := open_int Try.underlying3 (hval 2 3 v2 rfl rfl) h2
  clear hA0 hval0
  simp only [List.append_nil] at hW'
  refine (cellfamily_walk x y r (wf_i64 wf_x).1 (wf_i64 wf_x).2 (wf_i64 wf_y).1 (wf_i64 wf_y).2 (wf_i64 wf_r).1 (wf_i64 wf_r).2 W).mono fun e W' ⟨he, hb⟩ => ?_
  subst he
  exact ⟨_, rfl, post_of_below (pa := []) (pv := []) hW' (fun _ _ _ => (trodAll_cons_mk (shut_bool Try.underlying4 _) trodAll_mk0)) (fun sp _ => (trodAll_cons_mk (shut_int Try.underlying2 wf_x) (trodAll_cons_mk (shut_int Try.underlying2 wf_y) (trodAll_cons_mk (shut_int Try.underlying3 wf_r) trodAll_mk0)))) (fun _ _ => rfl) rfl hb
    (ok_one (by kernel_rfl) rfl (okWide_bool_mk Try.underlying4 _))⟩
theorem cellFamily_holds : Rows.CellFamilySaid :=
  OpenClaim.holds_of_wide 5 Try.f5 rfl rfl rfl rfl rfl rfl rfl ⟨rfl, rfl, rfl, rfl, rfl⟩ rfl rfl rfl rfl rfl (by kernel_rfl) Try.func5 (by kernel_rfl)
    (of_decide_eq_true (by kernel_rfl)) (by unfold Func.isWrapper; first | (rw [if_pos (by decide +kernel)]; kernel_rfl) | (rw [if_neg (by decide +kernel)]; exact ⟨rfl, rfl⟩))
    (fun os started H enc _ => cellFamily_lifted os started H enc)
end
#print axioms cellFamily_holds
end Go.Proofs.Ytajojnbpmbkghaa

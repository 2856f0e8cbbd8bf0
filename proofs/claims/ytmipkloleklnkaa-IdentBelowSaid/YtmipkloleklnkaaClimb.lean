
/- The walks of cell's climb, Up and Base. -/
import Derived.Test.YtmipkloleklnkaaAwake4
namespace Go.Proofs.Ytmipkloleklnkaa
open Go.RowKit
set_option linter.unusedSimpArgs false
set_option linter.unusedVariables false
set_option maxRecDepth 100000 in
set_option maxHeartbeats 2000000 in
theorem cell_climb (r s a b : Int) (n : Nat) (hn : r - s = (n : Int)) (hr : 0 ≤ s) (hr' : r ≤ 12) (hz : zOk a b = true) (w : World) :
    Calls Try.prog 47 #[.agg #[.int .i64 r, .int .i64 a, .int .i64 b], .int .i64 s] w fun e w' => e = .returned (.agg #[.int .i64 s, .int .i64 (zz a b n).1, .int .i64 (zz a b n).2]) ∧ Below w.heap.size w w' := by
  obtain ⟨h1, h2, h3, h4⟩ := zOk_true hz
  have ZB := Lib.hid (zz_bd a b 1073741824 (by omega) h1 h2 h3 h4)
  clear hz h1 h2 h3 h4
  go_enter Try.func47, Try.ntmps47
  go_wp2_with fail
  go_loopg [] n (fun k W => ∃ i : Nat, i + k = n ∧ W.cell? ⟨w.heap.size, 0, none⟩ = some (.int .i64 (r - (i : Int))) ∧ W.cell? ⟨w.heap.size, 1, none⟩ = some (.int .i64 (zz a b i).1) ∧ W.cell? ⟨w.heap.size, 2, none⟩ = some (.int .i64 (zz a b i).2)
    ∧ W.frozen? ⟨w.heap.size, 0, none⟩ = false ∧ W.frozen? ⟨w.heap.size, 1, none⟩ = false ∧ W.frozen? ⟨w.heap.size, 2, none⟩ = false
    ∧ W.cell? ⟨w.heap.size + 1, 0, none⟩ = some (.int .i64 0) ∧ W.cell? ⟨w.heap.size + 1, 1, none⟩ = some (.int .i64 0) ∧ W.cell? ⟨w.heap.size + 1, 2, none⟩ = some (.int .i64 0)
    ∧ W.frozen? ⟨w.heap.size + 1, 0, none⟩ = false ∧ W.frozen? ⟨w.heap.size + 1, 1, none⟩ = false ∧ W.frozen? ⟨w.heap.size + 1, 2, none⟩ = false ∧ Below w.heap.size w W)
  case atStart => exact ⟨0, by omega, by simp [go_sem], by simp [go_sem, zz], by simp [go_sem, zz], by simp [go_sem], by simp [go_sem], by simp [go_sem], by simp [go_sem], by simp [go_sem], by simp [go_sem], by simp [go_sem], by simp [go_sem], by simp [go_sem], by repeat (first | with_reducible exact Below.refl _ _ | with_reducible refine bl_alloc ?_ _ | with_reducible refine bl_drewN ?_ _ | with_reducible refine bl_drew ?_ | (with_reducible refine bl_set ?_ ?_ _; rotate_left; focus (first | (simp; done) | (simp; omega) | omega)) | with_reducible refine below_step ?_ (Bw.below _) | with_reducible refine below_step ?_ (by assumption))⟩
  case round =>
    obtain ⟨i, hi, e1, e2, e3, ef1, ef2, ef3, d1, d2, d3, df1, df2, df3, hb⟩ := hrel
    obtain ⟨x, hx⟩ : ∃ x, r - (i : Int) = x := ⟨_, rfl⟩
    rw [hx] at e1
    have HX := Lib.hid hx
    obtain ⟨z1, z2, z3, z4⟩ := ZB.out i
    rcases Nat.eq_zero_or_pos gk with h0 | h0
    · subst h0
      have hxs : x = s := by omega
      obtain rfl : i = n := by omega
      subst hxs
      clear hx HX
      obtain ⟨za, hza⟩ : ∃ za, (zz a b i).1 = za := ⟨_, rfl⟩
      obtain ⟨zb, hzb⟩ : ∃ zb, (zz a b i).2 = zb := ⟨_, rfl⟩
      rw [hza] at e2
      rw [hzb] at e3
      have HA := Lib.hid hza
      have HB := Lib.hid hzb
      clear hza hzb z1 z2 z3 z4
      go_wp2_with fail
      refine bodyPost_ret (v := .agg #[.int .i64 x, .int .i64 za, .int .i64 zb]) (by simp [results, Try.results47, go_sem, d1, d2, d3]) rfl ⟨by rw [HA.out, HB.out], by repeat (first | with_reducible exact Below.refl _ _ | with_reducible refine bl_alloc ?_ _ | with_reducible refine bl_drewN ?_ _ | with_reducible refine bl_drew ?_ | (with_reducible refine bl_set ?_ ?_ _; rotate_left; focus (first | (simp; done) | (simp; omega) | omega)) | with_reducible refine below_step ?_ (Bw.below _) | with_reducible refine below_step ?_ (by assumption))⟩
    · have hlt : s < x := by omega
      have hx1 : x ≤ 12 := by omega
      have ST := cell_step x (zz a b i).1 (zz a b i).2 (by omega) (by omega) z1 z2 z3 z4
      rw [show upA (zz a b i).1 (zz a b i).2 = (zz a b (i + 1)).1 from rfl, show upB (zz a b i).1 (zz a b i).2 = (zz a b (i + 1)).2 from rfl] at ST
      obtain ⟨ua, hua⟩ : ∃ ua, (zz a b (i + 1)).1 = ua := ⟨_, rfl⟩
      obtain ⟨ub, hub⟩ : ∃ ub, (zz a b (i + 1)).2 = ub := ⟨_, rfl⟩
      rw [hua, hub] at ST
      have HUA := Lib.hid hua
      have HUB := Lib.hid hub
      have HST := Lib.hid ST
      clear hua hub ST z1 z2 z3 z4 hx
      generalize (zz a b i).1 = p at *
      generalize (zz a b i).2 = q at *
      go_wp2_with fail
      refine calls_start (fun V => V.cell? ⟨w.heap.size, 0, none⟩ = some (.int .i64 x) ∧ V.frozen? ⟨w.heap.size, 0, none⟩ = false ∧ V.cell? ⟨w.heap.size, 1, none⟩ = some (.int .i64 p) ∧ V.frozen? ⟨w.heap.size, 1, none⟩ = false ∧ V.cell? ⟨w.heap.size, 2, none⟩ = some (.int .i64 q) ∧ V.frozen? ⟨w.heap.size, 2, none⟩ = false ∧ V.cell? ⟨w.heap.size + 1, 0, none⟩ = some (.int .i64 0) ∧ V.frozen? ⟨w.heap.size + 1, 0, none⟩ = false ∧ V.cell? ⟨w.heap.size + 1, 1, none⟩ = some (.int .i64 0) ∧ V.frozen? ⟨w.heap.size + 1, 1, none⟩ = false ∧ V.cell? ⟨w.heap.size + 1, 2, none⟩ = some (.int .i64 0) ∧ V.frozen? ⟨w.heap.size + 1, 2, none⟩ = false ∧ Below w.heap.size w V) ⟨by first | with_reducible assumption | (simp [go_sem]; done), by first | with_reducible assumption | (simp [go_sem]; done), by first | with_reducible assumption | (simp [go_sem]; done), by first | with_reducible assumption | (simp [go_sem]; done), by first | with_reducible assumption | (simp [go_sem]; done), by first | with_reducible assumption | (simp [go_sem]; done), by first | with_reducible assumption | (simp [go_sem]; done), by first | with_reducible assumption | (simp [go_sem]; done), by first | with_reducible assumption | (simp [go_sem]; done), by first | with_reducible assumption | (simp [go_sem]; done), by first | with_reducible assumption | (simp [go_sem]; done), by first | with_reducible assumption | (simp [go_sem]; done), by repeat (first | with_reducible exact Below.refl _ _ | with_reducible refine bl_alloc ?_ _ | with_reducible refine bl_drewN ?_ _ | with_reducible refine bl_drew ?_ | (with_reducible refine bl_set ?_ ?_ _; rotate_left; focus (first | (simp; done) | (simp; omega) | omega)) | with_reducible refine below_step ?_ (Bw.below _) | with_reducible refine below_step ?_ (by assumption))⟩ ?_
      rintro V ⟨hc1, fc1, hc2, fc2, hc3, fc3, hc4, fc4, hc5, fc5, hc6, fc6, hWc⟩ gc
      have c1 := Bw.hold hc1
      have cf1 := Bw.free hc1 fc1
      have c2 := Bw.hold hc2
      have cf2 := Bw.free hc2 fc2
      have c3 := Bw.hold hc3
      have cf3 := Bw.free hc3 fc3
      have c4 := Bw.hold hc4
      have cf4 := Bw.free hc4 fc4
      have c5 := Bw.hold hc5
      have cf5 := Bw.free hc5 fc5
      have c6 := Bw.hold hc6
      have cf6 := Bw.free hc6 fc6
      have cz1 := fun g : Bw V => cell_lt (c1 g)
      have cy1 := fun g : Bw V => Nat.le_of_lt (cz1 g)
      have cz4 := fun g : Bw V => cell_lt (c4 g)
      have cy4 := fun g : Bw V => Nat.le_of_lt (cz4 g)
      clear hc1 fc1 hc2 fc2 hc3 fc3 hc4 fc4 hc5 fc5 hc6 fc6
      clear e1 e2 e3 ef1 ef2 ef3 d1 d2 d3 df1 df2 df3 hb
      refine (HST.out _).mono ?_
      rintro e_g2 w_g2 ⟨rfl, hb_g2⟩
      obtain ⟨g2, rfl⟩ := gc.next hb_g2
      clear hb_g2
      go_wp2_with fail
      go_roundg (gk - 1)
      case measure => omega
      case rel => exact ⟨i + 1, by omega, by rw [show r - ((i + 1 : Nat) : Int) = x - 1 by have := HX.out; omega]; simp [go_sem, c1, c2, c3], by rw [HUA.out]; simp [go_sem, c1, c2, c3], by rw [HUB.out]; simp [go_sem, c1, c2, c3], by simp [go_sem, cf1, cf2, cf3], by simp [go_sem, cf1, cf2, cf3], by simp [go_sem, cf1, cf2, cf3],
        by simp [go_sem, c4, c5, c6], by simp [go_sem, c4, c5, c6], by simp [go_sem, c4, c5, c6], by simp [go_sem, cf4, cf5, cf6], by simp [go_sem, cf4, cf5, cf6], by simp [go_sem, cf4, cf5, cf6], by repeat (first | with_reducible exact Below.refl _ _ | with_reducible refine bl_alloc ?_ _ | with_reducible refine bl_drewN ?_ _ | with_reducible refine bl_drew ?_ | (with_reducible refine bl_set ?_ ?_ _; rotate_left; focus (first | (simp; done) | (simp; omega) | omega)) | with_reducible refine below_step ?_ (Bw.below _) | with_reducible refine below_step ?_ (by assumption))⟩
set_option maxHeartbeats 1000000 in
theorem cell_up (r a b s : Int) (n : Nat) (hn : r - s = (n : Int)) (hs : 0 ≤ s) (h : okB r a b = true) (w : World) :
    Calls Try.prog 23 #[.agg #[.int .i64 r, .int .i64 a, .int .i64 b], .int .i64 s] w fun e w' => e = .returned (.tuple #[.agg #[.int .i64 s, .int .i64 (zz a b n).1, .int .i64 (zz a b n).2], .int .i64 0]) ∧ Below w.heap.size w w' := by
  obtain ⟨⟨r1, r2⟩, hz, _⟩ := okB_true h
  have OK := cell_ok r a b
  rw [h] at OK
  have HO := Lib.hid OK
  have CL := Lib.hid (cell_climb r s a b n hn hs r2 hz)
  have hsr : s ≤ r := by omega
  clear OK h hz hn
  generalize (zz a b n).1 = p at *
  generalize (zz a b n).2 = q at *
  go_enter Try.func23, Try.ntmps23
  go_wp2_with fail
  refine calls_start (fun V => V.cell? ⟨w.heap.size, 0, none⟩ = some (.int .i64 r) ∧ V.cell? ⟨w.heap.size, 1, none⟩ = some (.int .i64 a) ∧ V.cell? ⟨w.heap.size, 2, none⟩ = some (.int .i64 b) ∧ V.cell? ⟨w.heap.size + 1, 0, none⟩ = some (.int .i64 0) ∧ V.frozen? ⟨w.heap.size + 1, 0, none⟩ = false ∧ V.cell? ⟨w.heap.size + 1, 1, none⟩ = some (.int .i64 0) ∧ V.frozen? ⟨w.heap.size + 1, 1, none⟩ = false ∧ V.cell? ⟨w.heap.size + 1, 2, none⟩ = some (.int .i64 0) ∧ V.frozen? ⟨w.heap.size + 1, 2, none⟩ = false ∧ Below w.heap.size w V) ⟨by first | with_reducible assumption | (simp [go_sem]; done), by first | with_reducible assumption | (simp [go_sem]; done), by first | with_reducible assumption | (simp [go_sem]; done), by first | with_reducible assumption | (simp [go_sem]; done), by first | with_reducible assumption | (simp [go_sem]; done), by first | with_reducible assumption | (simp [go_sem]; done), by first | with_reducible assumption | (simp [go_sem]; done), by first | with_reducible assumption | (simp [go_sem]; done), by first | with_reducible assumption | (simp [go_sem]; done), by repeat (first | with_reducible exact Below.refl _ _ | with_reducible refine bl_alloc ?_ _ | with_reducible refine bl_drewN ?_ _ | with_reducible refine bl_drew ?_ | (with_reducible refine bl_set ?_ ?_ _; rotate_left; focus (first | (simp; done) | (simp; omega) | omega)) | with_reducible refine below_step ?_ (Bw.below _) | with_reducible refine below_step ?_ (by assumption))⟩ ?_
  rintro V ⟨hc1, hc2, hc3, hc4, fc4, hc5, fc5, hc6, fc6, hWc⟩ gc
  have c1 := Bw.hold hc1
  have c2 := Bw.hold hc2
  have c3 := Bw.hold hc3
  have c4 := Bw.hold hc4
  have cf4 := Bw.free hc4 fc4
  have c5 := Bw.hold hc5
  have cf5 := Bw.free hc5 fc5
  have c6 := Bw.hold hc6
  have cf6 := Bw.free hc6 fc6
  have cz1 := fun g : Bw V => cell_lt (c1 g)
  have cy1 := fun g : Bw V => Nat.le_of_lt (cz1 g)
  have cz4 := fun g : Bw V => cell_lt (c4 g)
  have cy4 := fun g : Bw V => Nat.le_of_lt (cz4 g)
  clear hc1 hc2 hc3 hc4 fc4 hc5 fc5 hc6 fc6
  refine (HO.out _).mono ?_
  rintro e_g2 w_g2 ⟨rfl, hb_g2⟩
  obtain ⟨g2, rfl⟩ := gc.next hb_g2
  clear hb_g2
  go_wp2_with fail
  refine (CL.out _).mono ?_
  rintro e_g3 w_g3 ⟨rfl, hb_g3⟩
  obtain ⟨g3, rfl⟩ := g2.next hb_g3
  clear hb_g3
  go_wp2_with fail
  refine bodyPost_ret (v := .tuple #[.agg #[.int .i64 s, .int .i64 p, .int .i64 q], .int .i64 0]) (by simp [results, Try.results23, go_sem, c1, c2, c3, c4, c5, c6, cz1, cz4, cy1, cy4]) rfl ⟨rfl, by repeat (first | with_reducible exact Below.refl _ _ | with_reducible refine bl_alloc ?_ _ | with_reducible refine bl_drewN ?_ _ | with_reducible refine bl_drew ?_ | (with_reducible refine bl_set ?_ ?_ _; rotate_left; focus (first | (simp; done) | (simp; omega) | omega)) | with_reducible refine below_step ?_ (Bw.below _) | with_reducible refine below_step ?_ (by assumption))⟩
set_option maxHeartbeats 1000000 in
theorem cell_up_no (r a b s : Int) (h : okB r a b = false) (w : World) :
    Calls Try.prog 23 #[.agg #[.int .i64 r, .int .i64 a, .int .i64 b], .int .i64 s] w fun e w' => e = .returned (.tuple #[.agg #[.int .i64 0, .int .i64 0, .int .i64 0], .int .i64 2]) ∧ Below w.heap.size w w' := by
  have OK := cell_ok r a b
  rw [h] at OK
  have HO := Lib.hid OK
  clear OK h
  go_enter Try.func23, Try.ntmps23
  go_wp2_with fail
  refine calls_start (fun V => V.cell? ⟨w.heap.size, 0, none⟩ = some (.int .i64 r) ∧ V.cell? ⟨w.heap.size, 1, none⟩ = some (.int .i64 a) ∧ V.cell? ⟨w.heap.size, 2, none⟩ = some (.int .i64 b) ∧ V.cell? ⟨w.heap.size + 1, 0, none⟩ = some (.int .i64 0) ∧ V.frozen? ⟨w.heap.size + 1, 0, none⟩ = false ∧ V.cell? ⟨w.heap.size + 1, 1, none⟩ = some (.int .i64 0) ∧ V.frozen? ⟨w.heap.size + 1, 1, none⟩ = false ∧ V.cell? ⟨w.heap.size + 1, 2, none⟩ = some (.int .i64 0) ∧ V.frozen? ⟨w.heap.size + 1, 2, none⟩ = false ∧ Below w.heap.size w V) ⟨by first | with_reducible assumption | (simp [go_sem]; done), by first | with_reducible assumption | (simp [go_sem]; done), by first | with_reducible assumption | (simp [go_sem]; done), by first | with_reducible assumption | (simp [go_sem]; done), by first | with_reducible assumption | (simp [go_sem]; done), by first | with_reducible assumption | (simp [go_sem]; done), by first | with_reducible assumption | (simp [go_sem]; done), by first | with_reducible assumption | (simp [go_sem]; done), by first | with_reducible assumption | (simp [go_sem]; done), by repeat (first | with_reducible exact Below.refl _ _ | with_reducible refine bl_alloc ?_ _ | with_reducible refine bl_drewN ?_ _ | with_reducible refine bl_drew ?_ | (with_reducible refine bl_set ?_ ?_ _; rotate_left; focus (first | (simp; done) | (simp; omega) | omega)) | with_reducible refine below_step ?_ (Bw.below _) | with_reducible refine below_step ?_ (by assumption))⟩ ?_
  rintro V ⟨hc1, hc2, hc3, hc4, fc4, hc5, fc5, hc6, fc6, hWc⟩ gc
  have c1 := Bw.hold hc1
  have c2 := Bw.hold hc2
  have c3 := Bw.hold hc3
  have c4 := Bw.hold hc4
  have cf4 := Bw.free hc4 fc4
  have c5 := Bw.hold hc5
  have cf5 := Bw.free hc5 fc5
  have c6 := Bw.hold hc6
  have cf6 := Bw.free hc6 fc6
  have cz1 := fun g : Bw V => cell_lt (c1 g)
  have cy1 := fun g : Bw V => Nat.le_of_lt (cz1 g)
  have cz4 := fun g : Bw V => cell_lt (c4 g)
  have cy4 := fun g : Bw V => Nat.le_of_lt (cz4 g)
  clear hc1 hc2 hc3 hc4 fc4 hc5 fc5 hc6 fc6
  refine (HO.out _).mono ?_
  rintro e_g2 w_g2 ⟨rfl, hb_g2⟩
  obtain ⟨g2, rfl⟩ := gc.next hb_g2
  clear hb_g2
  go_wp2_with fail
  refine bodyPost_ret (v := .tuple #[.agg #[.int .i64 0, .int .i64 0, .int .i64 0], .int .i64 2]) (by simp [results, Try.results23, go_sem, c1, c2, c3, c4, c5, c6, cz1, cz4, cy1, cy4]) rfl ⟨rfl, by repeat (first | with_reducible exact Below.refl _ _ | with_reducible refine bl_alloc ?_ _ | with_reducible refine bl_drewN ?_ _ | with_reducible refine bl_drew ?_ | (with_reducible refine bl_set ?_ ?_ _; rotate_left; focus (first | (simp; done) | (simp; omega) | omega)) | with_reducible refine below_step ?_ (Bw.below _) | with_reducible refine below_step ?_ (by assumption))⟩
set_option maxHeartbeats 1000000 in
theorem cell_up_res (r a b s : Int) (h : okB r a b = true) (hs : s < 0 ∨ r < s) (w : World) :
    Calls Try.prog 23 #[.agg #[.int .i64 r, .int .i64 a, .int .i64 b], .int .i64 s] w fun e w' => e = .returned (.tuple #[.agg #[.int .i64 0, .int .i64 0, .int .i64 0], .int .i64 1]) ∧ Below w.heap.size w w' := by
  have OK := cell_ok r a b
  rw [h] at OK
  have HO := Lib.hid OK
  clear OK h
  by_cases h1 : s < 0
  · clear hs
    go_enter Try.func23, Try.ntmps23
    go_wp2_with fail
    refine calls_start (fun V => V.cell? ⟨w.heap.size, 0, none⟩ = some (.int .i64 r) ∧ V.cell? ⟨w.heap.size, 1, none⟩ = some (.int .i64 a) ∧ V.cell? ⟨w.heap.size, 2, none⟩ = some (.int .i64 b) ∧ V.cell? ⟨w.heap.size + 1, 0, none⟩ = some (.int .i64 0) ∧ V.frozen? ⟨w.heap.size + 1, 0, none⟩ = false ∧ V.cell? ⟨w.heap.size + 1, 1, none⟩ = some (.int .i64 0) ∧ V.frozen? ⟨w.heap.size + 1, 1, none⟩ = false ∧ V.cell? ⟨w.heap.size + 1, 2, none⟩ = some (.int .i64 0) ∧ V.frozen? ⟨w.heap.size + 1, 2, none⟩ = false ∧ Below w.heap.size w V) ⟨by first | with_reducible assumption | (simp [go_sem]; done), by first | with_reducible assumption | (simp [go_sem]; done), by first | with_reducible assumption | (simp [go_sem]; done), by first | with_reducible assumption | (simp [go_sem]; done), by first | with_reducible assumption | (simp [go_sem]; done), by first | with_reducible assumption | (simp [go_sem]; done), by first | with_reducible assumption | (simp [go_sem]; done), by first | with_reducible assumption | (simp [go_sem]; done), by first | with_reducible assumption | (simp [go_sem]; done), by repeat (first | with_reducible exact Below.refl _ _ | with_reducible refine bl_alloc ?_ _ | with_reducible refine bl_drewN ?_ _ | with_reducible refine bl_drew ?_ | (with_reducible refine bl_set ?_ ?_ _; rotate_left; focus (first | (simp; done) | (simp; omega) | omega)) | with_reducible refine below_step ?_ (Bw.below _) | with_reducible refine below_step ?_ (by assumption))⟩ ?_
    rintro V ⟨hc1, hc2, hc3, hc4, fc4, hc5, fc5, hc6, fc6, hWc⟩ gc
    have c1 := Bw.hold hc1
    have c2 := Bw.hold hc2
    have c3 := Bw.hold hc3
    have c4 := Bw.hold hc4
    have cf4 := Bw.free hc4 fc4
    have c5 := Bw.hold hc5
    have cf5 := Bw.free hc5 fc5
    have c6 := Bw.hold hc6
    have cf6 := Bw.free hc6 fc6
    have cz1 := fun g : Bw V => cell_lt (c1 g)
    have cy1 := fun g : Bw V => Nat.le_of_lt (cz1 g)
    have cz4 := fun g : Bw V => cell_lt (c4 g)
    have cy4 := fun g : Bw V => Nat.le_of_lt (cz4 g)
    clear hc1 hc2 hc3 hc4 fc4 hc5 fc5 hc6 fc6
    refine (HO.out _).mono ?_
    rintro e_g2 w_g2 ⟨rfl, hb_g2⟩
    obtain ⟨g2, rfl⟩ := gc.next hb_g2
    clear hb_g2
    go_wp2_with fail
    refine bodyPost_ret (v := .tuple #[.agg #[.int .i64 0, .int .i64 0, .int .i64 0], .int .i64 1]) (by simp [results, Try.results23, go_sem, c1, c2, c3, c4, c5, c6, cz1, cz4, cy1, cy4]) rfl ⟨rfl, by repeat (first | with_reducible exact Below.refl _ _ | with_reducible refine bl_alloc ?_ _ | with_reducible refine bl_drewN ?_ _ | with_reducible refine bl_drew ?_ | (with_reducible refine bl_set ?_ ?_ _; rotate_left; focus (first | (simp; done) | (simp; omega) | omega)) | with_reducible refine below_step ?_ (Bw.below _) | with_reducible refine below_step ?_ (by assumption))⟩
  · have h2 : r < s := by omega
    clear hs
    go_enter Try.func23, Try.ntmps23
    go_wp2_with fail
    refine calls_start (fun V => V.cell? ⟨w.heap.size, 0, none⟩ = some (.int .i64 r) ∧ V.cell? ⟨w.heap.size, 1, none⟩ = some (.int .i64 a) ∧ V.cell? ⟨w.heap.size, 2, none⟩ = some (.int .i64 b) ∧ V.cell? ⟨w.heap.size + 1, 0, none⟩ = some (.int .i64 0) ∧ V.frozen? ⟨w.heap.size + 1, 0, none⟩ = false ∧ V.cell? ⟨w.heap.size + 1, 1, none⟩ = some (.int .i64 0) ∧ V.frozen? ⟨w.heap.size + 1, 1, none⟩ = false ∧ V.cell? ⟨w.heap.size + 1, 2, none⟩ = some (.int .i64 0) ∧ V.frozen? ⟨w.heap.size + 1, 2, none⟩ = false ∧ Below w.heap.size w V) ⟨by first | with_reducible assumption | (simp [go_sem]; done), by first | with_reducible assumption | (simp [go_sem]; done), by first | with_reducible assumption | (simp [go_sem]; done), by first | with_reducible assumption | (simp [go_sem]; done), by first | with_reducible assumption | (simp [go_sem]; done), by first | with_reducible assumption | (simp [go_sem]; done), by first | with_reducible assumption | (simp [go_sem]; done), by first | with_reducible assumption | (simp [go_sem]; done), by first | with_reducible assumption | (simp [go_sem]; done), by repeat (first | with_reducible exact Below.refl _ _ | with_reducible refine bl_alloc ?_ _ | with_reducible refine bl_drewN ?_ _ | with_reducible refine bl_drew ?_ | (with_reducible refine bl_set ?_ ?_ _; rotate_left; focus (first | (simp; done) | (simp; omega) | omega)) | with_reducible refine below_step ?_ (Bw.below _) | with_reducible refine below_step ?_ (by assumption))⟩ ?_
    rintro V ⟨hc1, hc2, hc3, hc4, fc4, hc5, fc5, hc6, fc6, hWc⟩ gc
    have c1 := Bw.hold hc1
    have c2 := Bw.hold hc2
    have c3 := Bw.hold hc3
    have c4 := Bw.hold hc4
    have cf4 := Bw.free hc4 fc4
    have c5 := Bw.hold hc5
    have cf5 := Bw.free hc5 fc5
    have c6 := Bw.hold hc6
    have cf6 := Bw.free hc6 fc6
    have cz1 := fun g : Bw V => cell_lt (c1 g)
    have cy1 := fun g : Bw V => Nat.le_of_lt (cz1 g)
    have cz4 := fun g : Bw V => cell_lt (c4 g)
    have cy4 := fun g : Bw V => Nat.le_of_lt (cz4 g)
    clear hc1 hc2 hc3 hc4 fc4 hc5 fc5 hc6 fc6
    refine (HO.out _).mono ?_
    rintro e_g2 w_g2 ⟨rfl, hb_g2⟩
    obtain ⟨g2, rfl⟩ := gc.next hb_g2
    clear hb_g2
    go_wp2_with fail
    refine bodyPost_ret (v := .tuple #[.agg #[.int .i64 0, .int .i64 0, .int .i64 0], .int .i64 1]) (by simp [results, Try.results23, go_sem, c1, c2, c3, c4, c5, c6, cz1, cz4, cy1, cy4]) rfl ⟨rfl, by repeat (first | with_reducible exact Below.refl _ _ | with_reducible refine bl_alloc ?_ _ | with_reducible refine bl_drewN ?_ _ | with_reducible refine bl_drew ?_ | (with_reducible refine bl_set ?_ ?_ _; rotate_left; focus (first | (simp; done) | (simp; omega) | omega)) | with_reducible refine below_step ?_ (Bw.below _) | with_reducible refine below_step ?_ (by assumption))⟩
/-- Base is Up to size nought, whatever it answers. -/
theorem cell_base (r a b p q s e0 : Int) (h : ∀ w : World, Calls Try.prog 23 #[.agg #[.int .i64 r, .int .i64 a, .int .i64 b], .int .i64 0] w fun e w' => e = .returned (.tuple #[.agg #[.int .i64 s, .int .i64 p, .int .i64 q], .int .i64 e0]) ∧ Below w.heap.size w w') (w : World) :
    Calls Try.prog 25 #[.agg #[.int .i64 r, .int .i64 a, .int .i64 b]] w fun e w' => e = .returned (.tuple #[.agg #[.int .i64 s, .int .i64 p, .int .i64 q], .int .i64 e0]) ∧ Below w.heap.size w w' := by
  have HU := Lib.hid h
  clear h
  go_enter Try.func25, Try.ntmps25
  go_wp2_with fail
  refine calls_start (fun V => V.cell? ⟨w.heap.size, 0, none⟩ = some (.int .i64 r) ∧ V.cell? ⟨w.heap.size, 1, none⟩ = some (.int .i64 a) ∧ V.cell? ⟨w.heap.size, 2, none⟩ = some (.int .i64 b) ∧ V.cell? ⟨w.heap.size + 1, 0, none⟩ = some (.int .i64 0) ∧ V.frozen? ⟨w.heap.size + 1, 0, none⟩ = false ∧ V.cell? ⟨w.heap.size + 1, 1, none⟩ = some (.int .i64 0) ∧ V.frozen? ⟨w.heap.size + 1, 1, none⟩ = false ∧ V.cell? ⟨w.heap.size + 1, 2, none⟩ = some (.int .i64 0) ∧ V.frozen? ⟨w.heap.size + 1, 2, none⟩ = false ∧ Below w.heap.size w V) ⟨by first | with_reducible assumption | (simp [go_sem]; done), by first | with_reducible assumption | (simp [go_sem]; done), by first | with_reducible assumption | (simp [go_sem]; done), by first | with_reducible assumption | (simp [go_sem]; done), by first | with_reducible assumption | (simp [go_sem]; done), by first | with_reducible assumption | (simp [go_sem]; done), by first | with_reducible assumption | (simp [go_sem]; done), by first | with_reducible assumption | (simp [go_sem]; done), by first | with_reducible assumption | (simp [go_sem]; done), by repeat (first | with_reducible exact Below.refl _ _ | with_reducible refine bl_alloc ?_ _ | with_reducible refine bl_drewN ?_ _ | with_reducible refine bl_drew ?_ | (with_reducible refine bl_set ?_ ?_ _; rotate_left; focus (first | (simp; done) | (simp; omega) | omega)) | with_reducible refine below_step ?_ (Bw.below _) | with_reducible refine below_step ?_ (by assumption))⟩ ?_
  rintro V ⟨hc1, hc2, hc3, hc4, fc4, hc5, fc5, hc6, fc6, hWc⟩ gc
  have c1 := Bw.hold hc1
  have c2 := Bw.hold hc2
  have c3 := Bw.hold hc3
  have c4 := Bw.hold hc4
  have cf4 := Bw.free hc4 fc4
  have c5 := Bw.hold hc5
  have cf5 := Bw.free hc5 fc5
  have c6 := Bw.hold hc6
  have cf6 := Bw.free hc6 fc6
  have cz1 := fun g : Bw V => cell_lt (c1 g)
  have cy1 := fun g : Bw V => Nat.le_of_lt (cz1 g)
  have cz4 := fun g : Bw V => cell_lt (c4 g)
  have cy4 := fun g : Bw V => Nat.le_of_lt (cz4 g)
  clear hc1 hc2 hc3 hc4 fc4 hc5 fc5 hc6 fc6
  refine (HU.out _).mono ?_
  rintro e_g2 w_g2 ⟨rfl, hb_g2⟩
  obtain ⟨g2, rfl⟩ := gc.next hb_g2
  clear hb_g2
  go_wp2_with fail
  refine bodyPost_ret (v := .tuple #[.agg #[.int .i64 s, .int .i64 p, .int .i64 q], .int .i64 e0]) (by simp [results, Try.results25, go_sem, c1, c2, c3, c4, c5, c6, cz1, cz4, cy1, cy4]) rfl ⟨rfl, by repeat (first | with_reducible exact Below.refl _ _ | with_reducible refine bl_alloc ?_ _ | with_reducible refine bl_drewN ?_ _ | with_reducible refine bl_drew ?_ | (with_reducible refine bl_set ?_ ?_ _; rotate_left; focus (first | (simp; done) | (simp; omega) | omega)) | with_reducible refine below_step ?_ (Bw.below _) | with_reducible refine below_step ?_ (by assumption))⟩
end Go.Proofs.Ytmipkloleklnkaa

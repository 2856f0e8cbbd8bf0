
/- The walks of the reference's Word, and of Of where there is no word. -/
import Derived.Test.YtmipkloleklnkaaIdOf
namespace Go.Proofs.Ytmipkloleklnkaa
open Go.RowKit
set_option linter.unusedSimpArgs false
set_option linter.unusedVariables false
theorem ret_ui {x y z : Int} (h : x = y) : Ending.returned (.tuple #[.int .u64 x, .int .i64 z]) = Ending.returned (.tuple #[.int .u64 y, .int .i64 z]) := by rw [h]
set_option maxHeartbeats 1000000 in
theorem ref_word_no (r a b : Int) (h : okB r a b = false) (w : World) :
    Calls Try.prog 19 #[.agg #[.int .i64 r, .int .i64 a, .int .i64 b]] w fun e w' => e = .returned (.tuple #[.int .u64 0, .int .i64 2]) ∧ Below w.heap.size w w' := by
  have OK := ref_ok r a b
  rw [h] at OK
  have HO := Lib.hid OK
  clear OK h
  go_enter Try.func19, Try.ntmps19
  go_wp2_with fail
  refine calls_start (fun V => V.cell? ⟨w.heap.size, 0, none⟩ = some (.int .i64 r) ∧ V.cell? ⟨w.heap.size, 1, none⟩ = some (.int .i64 a) ∧ V.cell? ⟨w.heap.size, 2, none⟩ = some (.int .i64 b) ∧ Below w.heap.size w V) ⟨by first | with_reducible assumption | (simp [go_sem]; done), by first | with_reducible assumption | (simp [go_sem]; done), by first | with_reducible assumption | (simp [go_sem]; done), by repeat (first | with_reducible exact Below.refl _ _ | with_reducible refine bl_alloc ?_ _ | with_reducible refine bl_drewN ?_ _ | with_reducible refine bl_drew ?_ | (with_reducible refine bl_set ?_ ?_ _; rotate_left; focus (first | (simp; done) | (simp; omega) | omega)) | with_reducible refine below_step ?_ (Bw.below _) | with_reducible refine below_step ?_ (by assumption))⟩ ?_
  rintro V ⟨hc1, hc2, hc3, hWc⟩ gc
  have c1 := Bw.hold hc1
  have c2 := Bw.hold hc2
  have c3 := Bw.hold hc3
  have cz1 := fun g : Bw V => cell_lt (c1 g)
  have cy1 := fun g : Bw V => Nat.le_of_lt (cz1 g)
  clear hc1 hc2 hc3
  refine (HO.out _).mono ?_
  rintro e_g2 w_g2 ⟨rfl, hb_g2⟩
  obtain ⟨g2, rfl⟩ := gc.next hb_g2
  clear hb_g2
  go_wp2_with fail
  go_ret2
  exact ⟨rfl, by repeat (first | with_reducible exact Below.refl _ _ | with_reducible refine bl_alloc ?_ _ | with_reducible refine bl_drewN ?_ _ | with_reducible refine bl_drew ?_ | (with_reducible refine bl_set ?_ ?_ _; rotate_left; focus (first | (simp; done) | (simp; omega) | omega)) | with_reducible refine below_step ?_ (Bw.below _) | with_reducible refine below_step ?_ (by assumption))⟩
set_option maxRecDepth 100000 in
set_option maxHeartbeats 4000000 in
theorem ref_word_yes (a b : Int) (R : Nat) (h : okB (R : Int) a b = true) (w : World) :
    Calls Try.prog 19 #[.agg #[.int .i64 (R : Int), .int .i64 a, .int .i64 b]] w fun e w' => e = .returned (.tuple #[.int .u64 (wv a b R), .int .i64 0]) ∧ Below w.heap.size w w' := by
  obtain ⟨⟨_, r2⟩, hz, hb0⟩ := okB_true h
  have hR : R ≤ 12 := by omega
  obtain ⟨h1, h2, h3, h4⟩ := zOk_true hz
  have ZB := Lib.hid (zz_bd a b 1073741824 (by omega) h1 h2 h3 h4)
  obtain ⟨hA, hB⟩ := base_bd h
  rw [Int.toNat_natCast] at hA hB
  have OK := ref_ok (R : Int) a b
  rw [h] at OK
  have HO := Lib.hid OK
  have gE := gV_bd a b R 0
  rw [gV_end] at gE
  obtain ⟨x1, x2, x3, t1, t2, t3, t4⟩ := tail_put (zz a b R).1 (zz a b R).2 (ds (dl a b R) 12) R hR hA hB gE
  change _ = wv a b R at t4
  have GE := Lib.hid (gV_end a b R)
  have GS := Lib.hid (gV_start a b R)
  have WS := Lib.hid (wr_step a b R)
  have HI := Lib.hid (fun j => dl_in a b R j)
  clear OK hz hb0 h1 h2 h3 h4
  go_enter Try.func19, Try.ntmps19
  go_wp2_with fail
  refine calls_start (fun V => V.cell? ⟨w.heap.size, 0, none⟩ = some (.int .i64 (R : Int)) ∧ V.cell? ⟨w.heap.size, 1, none⟩ = some (.int .i64 a) ∧ V.cell? ⟨w.heap.size, 2, none⟩ = some (.int .i64 b) ∧ Below w.heap.size w V) ⟨by first | with_reducible assumption | (simp [go_sem]; done), by first | with_reducible assumption | (simp [go_sem]; done), by first | with_reducible assumption | (simp [go_sem]; done), by repeat (first | with_reducible exact Below.refl _ _ | with_reducible refine bl_alloc ?_ _ | with_reducible refine bl_drewN ?_ _ | with_reducible refine bl_drew ?_ | (with_reducible refine bl_set ?_ ?_ _; rotate_left; focus (first | (simp; done) | (simp; omega) | omega)) | with_reducible refine below_step ?_ (Bw.below _) | with_reducible refine below_step ?_ (by assumption))⟩ ?_
  rintro V ⟨hta1, hta2, hta3, hWta⟩ gta
  have ta1 := Bw.hold hta1
  have ta2 := Bw.hold hta2
  have ta3 := Bw.hold hta3
  have taz1 := fun g : Bw V => cell_lt (ta1 g)
  have tay1 := fun g : Bw V => Nat.le_of_lt (taz1 g)
  clear hta1 hta2 hta3
  refine (HO.out _).mono ?_
  rintro e_g1 w_g1 ⟨rfl, hb_g1⟩
  obtain ⟨g1, rfl⟩ := gta.next hb_g1
  clear hb_g1
  go_wp2_with fail
  have hlt := taz1 g1
  go_loopg [5, 6] R (fun n v i W => n ≤ R ∧ v = .int .u64 (gV a b R n) ∧ i = .int .i64 (n : Int) ∧ W.cell? ⟨w.heap.size, 0, none⟩ = some (.int .i64 (R : Int))
    ∧ W.cell? ⟨g1.out.heap.size, 0, none⟩ = some (.int .i64 (zz a b (R - n)).1) ∧ W.cell? ⟨g1.out.heap.size, 1, none⟩ = some (.int .i64 (zz a b (R - n)).2)
    ∧ W.frozen? ⟨g1.out.heap.size, 0, none⟩ = false ∧ W.frozen? ⟨g1.out.heap.size, 1, none⟩ = false ∧ Below w.heap.size w W)
  case atStart => exact ⟨Nat.le_refl _, by rw [GS.out], rfl, (cell_al hlt _).trans (ta1 g1), by rw [Nat.sub_self]; simp [go_sem]; rfl, by rw [Nat.sub_self]; simp [go_sem]; rfl, by simp [go_sem], by simp [go_sem], by repeat (first | with_reducible exact Below.refl _ _ | with_reducible refine bl_alloc ?_ _ | with_reducible refine bl_drewN ?_ _ | with_reducible refine bl_drew ?_ | (with_reducible refine bl_set ?_ ?_ _; rotate_left; focus (first | (simp; done) | (simp; omega) | omega)) | with_reducible refine below_step ?_ (Bw.below _) | with_reducible refine below_step ?_ (by assumption))⟩
  case round =>
    obtain ⟨hn, rfl, rfl, e1, e2, e3, ef2, ef3, hb⟩ := hrel
    rcases Nat.eq_zero_or_pos gk with h0 | h0
    · subst h0
      rw [GE.out]
      rw [Nat.sub_zero] at e2 e3
      generalize ds (dl a b R) 12 = V0 at *
      generalize (zz a b R).1 = A at *
      generalize (zz a b R).2 = B at *
      obtain ⟨WV, hWV⟩ : ∃ WV, wv a b R = WV := ⟨_, rfl⟩
      rw [hWV] at t4
      have HWV := Lib.hid hWV
      clear hWV
      go_wp2_with fail
      go_ret2
      exact ⟨ret_ui HWV.out.symm, by repeat (first | with_reducible exact Below.refl _ _ | with_reducible refine bl_alloc ?_ _ | with_reducible refine bl_drewN ?_ _ | with_reducible refine bl_drew ?_ | (with_reducible refine bl_set ?_ ?_ _; rotate_left; focus (first | (simp; done) | (simp; omega) | omega)) | with_reducible refine below_step ?_ (Bw.below _) | with_reducible refine below_step ?_ (by assumption))⟩
    · obtain ⟨m, rfl⟩ : ∃ m, gk = m + 1 := ⟨gk - 1, by omega⟩
      obtain ⟨z1, z2, z3, z4⟩ := ZB.out (R - (m + 1))
      have PA := ref_parent (zz a b (R - (m + 1))).1 (zz a b (R - (m + 1))).2 z1 z2 z3 z4
      rw [show upA (zz a b (R - (m + 1))).1 (zz a b (R - (m + 1))).2 = (zz a b (R - m)).1 by rw [show R - m = R - (m + 1) + 1 by omega]; rfl, show upB (zz a b (R - (m + 1))).1 (zz a b (R - (m + 1))).2 = (zz a b (R - m)).2 by rw [show R - m = R - (m + 1) + 1 by omega]; rfl,
        show dgz (zz a b (R - (m + 1))).1 (zz a b (R - (m + 1))).2 = dl a b R (m + 1) from (if_pos hn).symm] at PA
      obtain ⟨d1, d2⟩ := HI.out (m + 1) hn
      obtain ⟨v2, w1, w2, w3, w4⟩ := WS.out m (by omega)
      obtain ⟨i, hi⟩ : ∃ i : Int, ((m + 1 : Nat) : Int) = i := ⟨_, rfl⟩
      rw [show (m : Int) + 1 = i by omega] at w1 w3
      rw [hi]
      have i1 : 1 ≤ i := by omega
      have i2 : i ≤ 12 := by omega
      have hmi : Hid (i - 1 = (m : Int)) := Lib.hid (by omega)
      have HPA := Lib.hid PA
      clear PA z1 z2 z3 z4 hi
      obtain ⟨M7, hM7⟩ : ∃ M7 : Int, 7 * 2 ^ (33 - 3 * m) = M7 := ⟨_, rfl⟩
      rw [hM7] at w1 w2
      obtain ⟨D7, hD7⟩ : ∃ D7 : Int, dl a b R (m + 1) * 2 ^ (33 - 3 * m) = D7 := ⟨_, rfl⟩
      rw [hD7] at w3 w4
      clear hM7 hD7
      generalize dl a b R (m + 1) = d at *
      generalize gV a b R (m + 1) = G1 at *
      obtain ⟨G0, hG0⟩ : ∃ G0, gV a b R m = G0 := ⟨_, rfl⟩
      rw [hG0] at w4
      have HG0 := Lib.hid hG0
      obtain ⟨p, hp⟩ : ∃ p, (zz a b (R - m)).1 = p := ⟨_, rfl⟩
      obtain ⟨q, hq⟩ : ∃ q, (zz a b (R - m)).2 = q := ⟨_, rfl⟩
      have HP := Lib.hid hp
      have HQ := Lib.hid hq
      rw [hp, hq] at HPA
      clear hG0 hp hq
      generalize (zz a b (R - (m + 1))).1 = pp at *
      generalize (zz a b (R - (m + 1))).2 = qq at *
      clear t1 t2 t3 t4 gE hA hB
      go_wp2_with fail
      refine calls_start (fun V1 => V1.cell? ⟨w.heap.size, 0, none⟩ = some (.int .i64 (R : Int)) ∧ V1.cell? ⟨g1.out.heap.size, 0, none⟩ = some (.int .i64 pp) ∧ V1.frozen? ⟨g1.out.heap.size, 0, none⟩ = false ∧ V1.cell? ⟨g1.out.heap.size, 1, none⟩ = some (.int .i64 qq) ∧ V1.frozen? ⟨g1.out.heap.size, 1, none⟩ = false ∧ Below w.heap.size w V1) ⟨by first | with_reducible assumption | (simp [go_sem]; done), by first | with_reducible assumption | (simp [go_sem]; done), by first | with_reducible assumption | (simp [go_sem]; done), by first | with_reducible assumption | (simp [go_sem]; done), by first | with_reducible assumption | (simp [go_sem]; done), by repeat (first | with_reducible exact Below.refl _ _ | with_reducible refine bl_alloc ?_ _ | with_reducible refine bl_drewN ?_ _ | with_reducible refine bl_drew ?_ | (with_reducible refine bl_set ?_ ?_ _; rotate_left; focus (first | (simp; done) | (simp; omega) | omega)) | with_reducible refine below_step ?_ (Bw.below _) | with_reducible refine below_step ?_ (by assumption))⟩ ?_
      rintro V1 ⟨htb1, htb2, ftb2, htb3, ftb3, hWtb⟩ gtb
      have tb1 := Bw.hold htb1
      have tb2 := Bw.hold htb2
      have tbf2 := Bw.free htb2 ftb2
      have tb3 := Bw.hold htb3
      have tbf3 := Bw.free htb3 ftb3
      have tbz1 := fun g : Bw V1 => cell_lt (tb1 g)
      have tby1 := fun g : Bw V1 => Nat.le_of_lt (tbz1 g)
      have tbz2 := fun g : Bw V1 => cell_lt (tb2 g)
      have tby2 := fun g : Bw V1 => Nat.le_of_lt (tbz2 g)
      clear htb1 htb2 ftb2 htb3 ftb3
      clear e1 e2 e3 ef2 ef3 hb
      refine (HPA.out _).mono ?_
      rintro e_g2 w_g2 ⟨rfl, hb_g2⟩
      obtain ⟨g2, rfl⟩ := gtb.next hb_g2
      clear hb_g2
      go_wp2_with fail
      refine wp_start (fun V2 => V2.cell? ⟨w.heap.size, 0, none⟩ = some (.int .i64 (R : Int)) ∧ V2.cell? ⟨g1.out.heap.size, 0, none⟩ = some (.int .i64 pp) ∧ V2.frozen? ⟨g1.out.heap.size, 0, none⟩ = false ∧ V2.cell? ⟨g1.out.heap.size, 1, none⟩ = some (.int .i64 qq) ∧ V2.frozen? ⟨g1.out.heap.size, 1, none⟩ = false ∧ V2.cell? ⟨g2.out.heap.size, 0, none⟩ = some (.int .i64 p) ∧ V2.cell? ⟨g2.out.heap.size, 1, none⟩ = some (.int .i64 q) ∧ Below w.heap.size w V2) ⟨by first | with_reducible assumption | (simp [go_sem]; done) | with_reducible exact hold_al tb1 _ _ | with_reducible exact hold_al tb2 _ _ | with_reducible exact hold_al tb3 _ _ | (simp [go_sem, tb1, tb2, tbf2, tb3, tbf3, tbz1, tby1, tbz2, tby2]; done), by first | with_reducible assumption | (simp [go_sem]; done) | with_reducible exact hold_al tb1 _ _ | with_reducible exact hold_al tb2 _ _ | with_reducible exact hold_al tb3 _ _ | (simp [go_sem, tb1, tb2, tbf2, tb3, tbf3, tbz1, tby1, tbz2, tby2]; done), by first | with_reducible assumption | (simp [go_sem]; done) | with_reducible exact hold_alF tb2 tbf2 _ _ | with_reducible exact hold_alF tb3 tbf3 _ _ | (simp [go_sem, tb1, tb2, tbf2, tb3, tbf3, tbz1, tby1, tbz2, tby2]; done), by first | with_reducible assumption | (simp [go_sem]; done) | with_reducible exact hold_al tb1 _ _ | with_reducible exact hold_al tb2 _ _ | with_reducible exact hold_al tb3 _ _ | (simp [go_sem, tb1, tb2, tbf2, tb3, tbf3, tbz1, tby1, tbz2, tby2]; done), by first | with_reducible assumption | (simp [go_sem]; done) | with_reducible exact hold_alF tb2 tbf2 _ _ | with_reducible exact hold_alF tb3 tbf3 _ _ | (simp [go_sem, tb1, tb2, tbf2, tb3, tbf3, tbz1, tby1, tbz2, tby2]; done), by first | with_reducible assumption | (simp [go_sem]; done) | with_reducible exact hold_al tb1 _ _ | with_reducible exact hold_al tb2 _ _ | with_reducible exact hold_al tb3 _ _ | (simp [go_sem, tb1, tb2, tbf2, tb3, tbf3, tbz1, tby1, tbz2, tby2]; done), by first | with_reducible assumption | (simp [go_sem]; done) | with_reducible exact hold_al tb1 _ _ | with_reducible exact hold_al tb2 _ _ | with_reducible exact hold_al tb3 _ _ | (simp [go_sem, tb1, tb2, tbf2, tb3, tbf3, tbz1, tby1, tbz2, tby2]; done), by repeat (first | with_reducible exact Below.refl _ _ | with_reducible refine bl_alloc ?_ _ | with_reducible refine bl_drewN ?_ _ | with_reducible refine bl_drew ?_ | (with_reducible refine bl_set ?_ ?_ _; rotate_left; focus (first | (simp; done) | (simp; omega) | omega)) | with_reducible refine below_step ?_ (Bw.below _) | with_reducible refine below_step ?_ (by assumption))⟩ ?_
      rintro V2 ⟨htc1, htc2, ftc2, htc3, ftc3, htc4, htc5, hWtc⟩ gtc
      have tc1 := Bw.hold htc1
      have tc2 := Bw.hold htc2
      have tcf2 := Bw.free htc2 ftc2
      have tc3 := Bw.hold htc3
      have tcf3 := Bw.free htc3 ftc3
      have tc4 := Bw.hold htc4
      have tc5 := Bw.hold htc5
      have tcz1 := fun g : Bw V2 => cell_lt (tc1 g)
      have tcy1 := fun g : Bw V2 => Nat.le_of_lt (tcz1 g)
      have tcz2 := fun g : Bw V2 => cell_lt (tc2 g)
      have tcy2 := fun g : Bw V2 => Nat.le_of_lt (tcz2 g)
      have tcz4 := fun g : Bw V2 => cell_lt (tc4 g)
      have tcy4 := fun g : Bw V2 => Nat.le_of_lt (tcz4 g)
      clear htc1 htc2 ftc2 htc3 ftc3 htc4 htc5
      clear tb1 tb2 tbf2 tb3 tbf3 tbz1 tby1 tbz2 tby2
      go_quiet (fail)
      go_wp2_with fail
      go_roundg m
      case measure => omega
      case rel => exact ⟨by omega, by rw [HG0.out], by rw [hmi.out], by simp [go_sem, tc1], by rw [HP.out]; simp [go_sem, tc2, tc3], by rw [HQ.out]; simp [go_sem, tc2, tc3], by simp [go_sem, tcf2, tcf3], by simp [go_sem, tcf2, tcf3], by repeat (first | with_reducible exact Below.refl _ _ | with_reducible refine bl_alloc ?_ _ | with_reducible refine bl_drewN ?_ _ | with_reducible refine bl_drew ?_ | (with_reducible refine bl_set ?_ ?_ _; rotate_left; focus (first | (simp; done) | (simp; omega) | omega)) | with_reducible refine below_step ?_ (Bw.below _) | with_reducible refine below_step ?_ (by assumption))⟩
set_option maxRecDepth 100000 in
set_option maxHeartbeats 2000000 in
theorem id_of_no (r a b : Int) (h : okB r a b = false) (w : World) :
    Calls Try.prog 17 #[.agg #[.int .i64 r, .int .i64 a, .int .i64 b]] w fun e w' => e = .returned (.tuple #[.int .u64 0, .int .i64 2]) ∧ Below w.heap.size w w' := by
  have WY : ∃ (z1 z2 d0 d1 d2 d3 d4 d5 d6 d7 d8 d9 d10 d11 d12 : Int), Hid (∀ w, Calls Try.prog 38 #[.agg #[.int .i64 r, .int .i64 a, .int .i64 b]] w fun e w' =>
      e = .returned (.tuple #[.agg #[.int .i64 z1, .int .i64 z2], .agg #[.int .i64 d0, .int .i64 d1, .int .i64 d2, .int .i64 d3, .int .i64 d4, .int .i64 d5, .int .i64 d6, .int .i64 d7, .int .i64 d8, .int .i64 d9, .int .i64 d10, .int .i64 d11, .int .i64 d12], .bool false]) ∧ Below w.heap.size w w') := by
    rcases h2 : (rsB r && zOk a b) with _ | _
    · exact ⟨0, 0, 0, 0, 0, 0, 0, 0, 0, 0, 0, 0, 0, 0, 0, Lib.hid (cell_way_no r a b h2)⟩
    · have hr := h2
      rw [Bool.and_eq_true] at hr
      have hrr : 0 ≤ r ∧ r ≤ 12 := of_decide_eq_true hr.1
      obtain ⟨R, rfl⟩ := Int.eq_ofNat_of_zero_le hrr.1
      have W0 := cell_way a b R (by omega) hr.2
      have e : baseB (zz a b R) = false := by
        unfold okB at h
        rw [h2, Int.toNat_natCast, Bool.true_and] at h
        exact h
      rw [e] at W0
      exact ⟨_, _, _, _, _, _, _, _, _, _, _, _, _, _, _, Lib.hid W0⟩
  obtain ⟨z1, z2, d0, d1, d2, d3, d4, d5, d6, d7, d8, d9, d10, d11, d12, HW⟩ := WY
  clear h
  go_enter Try.func17, Try.ntmps17
  go_wp2_with fail
  refine calls_start (fun V => V.cell? ⟨w.heap.size, 0, none⟩ = some (.int .i64 r) ∧ V.cell? ⟨w.heap.size, 1, none⟩ = some (.int .i64 a) ∧ V.cell? ⟨w.heap.size, 2, none⟩ = some (.int .i64 b) ∧ Below w.heap.size w V) ⟨by first | with_reducible assumption | (simp [go_sem]; done), by first | with_reducible assumption | (simp [go_sem]; done), by first | with_reducible assumption | (simp [go_sem]; done), by repeat (first | with_reducible exact Below.refl _ _ | with_reducible refine bl_alloc ?_ _ | with_reducible refine bl_drewN ?_ _ | with_reducible refine bl_drew ?_ | (with_reducible refine bl_set ?_ ?_ _; rotate_left; focus (first | (simp; done) | (simp; omega) | omega)) | with_reducible refine below_step ?_ (Bw.below _) | with_reducible refine below_step ?_ (by assumption))⟩ ?_
  rintro V ⟨hc1, hc2, hc3, hWc⟩ gc
  have c1 := Bw.hold hc1
  have c2 := Bw.hold hc2
  have c3 := Bw.hold hc3
  have cz1 := fun g : Bw V => cell_lt (c1 g)
  have cy1 := fun g : Bw V => Nat.le_of_lt (cz1 g)
  clear hc1 hc2 hc3
  refine (HW.out _).mono ?_
  rintro e_g2 w_g2 ⟨rfl, hb_g2⟩
  obtain ⟨g2, rfl⟩ := gc.next hb_g2
  clear hb_g2
  go_wp2_with fail
  go_ret2
  exact ⟨rfl, by repeat (first | with_reducible exact Below.refl _ _ | with_reducible refine bl_alloc ?_ _ | with_reducible refine bl_drewN ?_ _ | with_reducible refine bl_drew ?_ | (with_reducible refine bl_set ?_ ?_ _; rotate_left; focus (first | (simp; done) | (simp; omega) | omega)) | with_reducible refine below_step ?_ (Bw.below _) | with_reducible refine below_step ?_ (by assumption))⟩
end Go.Proofs.Ytmipkloleklnkaa

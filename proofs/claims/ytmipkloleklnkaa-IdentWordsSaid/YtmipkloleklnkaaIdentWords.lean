/- IdentWords: a cell's word is the reference's, and is read again; a cell that may not be has none. No condition. -/
import Derived.Test.YtmipkloleklnkaaIdMore
import Derived.Test.YtmipkloleklnkaaRowC
namespace Go.Proofs.Ytmipkloleklnkaa
open Go.RowKit
set_option linter.unusedSimpArgs false
set_option linter.unusedVariables false
set_option maxRecDepth 100000 in
set_option maxHeartbeats 8000000 in
theorem identwords_walk (s c d x y r : Int) (hs : -9223372036854775808 ≤ s) (hs' : s ≤ 9223372036854775807) (hc : -9223372036854775808 ≤ c) (hc' : c ≤ 9223372036854775807) (hd : -9223372036854775808 ≤ d) (hd' : d ≤ 9223372036854775807) (hx : -9223372036854775808 ≤ x) (hx' : x ≤ 9223372036854775807) (hy : -9223372036854775808 ≤ y) (hy' : y ≤ 9223372036854775807) (hr : -9223372036854775808 ≤ r) (hr' : r ≤ 9223372036854775807) (w : World) :
    Calls Try.prog 5 #[.agg #[.int .i64 s, .int .i64 c, .int .i64 d], .int .i64 x, .int .i64 y, .int .i64 r] w fun e w' => e = .returned (.bool true) ∧ Below w.heap.size w w' := by
  have SM0 := law4_some x y r hx hx' hy hy' hr hr'
  generalize (r.tmod 13 + 13).tmod 13 = R at SM0
  have SM := Lib.hid SM0
  clear SM0 hs hs' hc hc' hd hd' hx hx' hy hy' hr hr'
  go_enter Try.func5, Try.ntmps5
  go_wp2_with fail
  go_loopg [9] 2 (fun n i W => ∃ k : Nat, k + n = 2 ∧ i = .int .i64 k ∧ ∃ s c d : Int, W.cell? ⟨w.heap.size, 0, none⟩ = some (.int .i64 s) ∧ W.cell? ⟨w.heap.size, 1, none⟩ = some (.int .i64 c) ∧ W.cell? ⟨w.heap.size, 2, none⟩ = some (.int .i64 d) ∧ W.frozen? ⟨w.heap.size, 0, none⟩ = false ∧ W.frozen? ⟨w.heap.size, 1, none⟩ = false ∧ W.frozen? ⟨w.heap.size, 2, none⟩ = false ∧ Below w.heap.size w W)
  case atStart => exact ⟨0, by omega, rfl, s, c, d, by simp [go_sem], by simp [go_sem], by simp [go_sem], by simp [go_sem], by simp [go_sem], by simp [go_sem], by repeat (first | with_reducible exact Below.refl _ _ | with_reducible refine bl_alloc ?_ _ | with_reducible refine bl_drewN ?_ _ | with_reducible refine bl_drew ?_ | (with_reducible refine bl_set ?_ ?_ _; rotate_left; focus (first | (simp; done) | (simp; omega) | omega)) | with_reducible refine below_step ?_ (Bw.below _) | with_reducible refine below_step ?_ (by assumption))⟩
  case round =>
    obtain ⟨k, hk, rfl, s, c, d, e1, e2, e3, ef1, ef2, ef3, hb⟩ := hrel
    by_cases hlt : k < 2
    · have hn0 : (k : Int) < 2 := by omega
      rcases ho : okB s c d with _ | _
      · have OF := Lib.hid (id_of_no s c d ho)
        have WD := Lib.hid (ref_word_no s c d ho)
        clear ho
        go_wp2_with fail
        refine calls_start (fun V2 => V2.cell? ⟨w.heap.size, 0, none⟩ = some (.int .i64 s) ∧ V2.frozen? ⟨w.heap.size, 0, none⟩ = false ∧ V2.cell? ⟨w.heap.size, 1, none⟩ = some (.int .i64 c) ∧ V2.frozen? ⟨w.heap.size, 1, none⟩ = false ∧ V2.cell? ⟨w.heap.size, 2, none⟩ = some (.int .i64 d) ∧ V2.frozen? ⟨w.heap.size, 2, none⟩ = false ∧ Below w.heap.size w V2) ⟨by first | with_reducible assumption | (simp [go_sem]; done), by first | with_reducible assumption | (simp [go_sem]; done), by first | with_reducible assumption | (simp [go_sem]; done), by first | with_reducible assumption | (simp [go_sem]; done), by first | with_reducible assumption | (simp [go_sem]; done), by first | with_reducible assumption | (simp [go_sem]; done), by repeat (first | with_reducible exact Below.refl _ _ | with_reducible refine bl_alloc ?_ _ | with_reducible refine bl_drewN ?_ _ | with_reducible refine bl_drew ?_ | (with_reducible refine bl_set ?_ ?_ _; rotate_left; focus (first | (simp; done) | (simp; omega) | omega)) | with_reducible refine below_step ?_ (Bw.below _) | with_reducible refine below_step ?_ (by assumption))⟩ ?_
        rintro V2 ⟨htb1, ftb1, htb2, ftb2, htb3, ftb3, hWtb⟩ gtb
        have tb1 := Bw.hold htb1
        have tbf1 := Bw.free htb1 ftb1
        have tb2 := Bw.hold htb2
        have tbf2 := Bw.free htb2 ftb2
        have tb3 := Bw.hold htb3
        have tbf3 := Bw.free htb3 ftb3
        have tbz1 := fun g : Bw V2 => cell_lt (tb1 g)
        have tby1 := fun g : Bw V2 => Nat.le_of_lt (tbz1 g)
        clear htb1 ftb1 htb2 ftb2 htb3 ftb3
        clear e1 e2 e3 ef1 ef2 ef3 hb
        refine (OF.out _).mono ?_
        rintro e_g1 w_g1 ⟨rfl, hb_g1⟩
        obtain ⟨g1, rfl⟩ := gtb.next hb_g1
        clear hb_g1
        go_wp2_with fail
        refine (WD.out _).mono ?_
        rintro e_g2 w_g2 ⟨rfl, hb_g2⟩
        obtain ⟨g2, rfl⟩ := g1.next hb_g2
        clear hb_g2
        go_wp2_with fail
        refine (SM.out _).mono ?_
        rintro e_h w_h ⟨ca, cb, rfl, hok, hb_h⟩
        obtain ⟨g3, rfl⟩ := g2.next hb_h
        clear hb_h
        have q1 := tb1 g3
        have q2 := tb2 g3
        have q3 := tb3 g3
        have r1 := tbf1 g3
        have r2 := tbf2 g3
        have r3 := tbf3 g3
        go_wp2_with fail
        go_roundg (2 - (k + 1))
        case measure => omega
        case rel => exact ⟨k + 1, by omega, by go_num, R, ca, cb, by simp [go_sem, q1, q2, q3], by simp [go_sem, q1, q2, q3], by simp [go_sem, q1, q2, q3], by simp [go_sem, r1, r2, r3], by simp [go_sem, r1, r2, r3], by simp [go_sem, r1, r2, r3], by repeat (first | with_reducible exact Below.refl _ _ | with_reducible refine bl_alloc ?_ _ | with_reducible refine bl_drewN ?_ _ | with_reducible refine bl_drew ?_ | (with_reducible refine bl_set ?_ ?_ _; rotate_left; focus (first | (simp; done) | (simp; omega) | omega)) | with_reducible refine below_step ?_ (Bw.below _) | with_reducible refine below_step ?_ (by assumption))⟩
      · obtain ⟨⟨r1', r2'⟩, _, _⟩ := okB_true ho
        obtain ⟨n, hn⟩ : ∃ n : Nat, s = (n : Int) := ⟨s.toNat, by omega⟩
        subst hn
        obtain ⟨⟨p1, p2⟩, p3, p4, p5⟩ := word_of ho
        rw [Int.toNat_natCast] at p1 p2 p3 p4 p5
        have OF := Lib.hid (id_of_yes c d n ho)
        have WD := Lib.hid (ref_word_yes c d n ho)
        have CE0 := id_cell_yes _ p1 p2 p3
        rw [p4, p5] at CE0
        have RS0 := id_res _ p1 p2
        rw [show rsV (wv c d n) = (n : Int) by unfold rsV; rw [p3, p4]; rfl] at RS0
        have OK0 := id_ok _ p1 p2
        rw [p3] at OK0
        have CE := Lib.hid CE0
        have RS := Lib.hid RS0
        have OK := Lib.hid OK0
        clear CE0 RS0 OK0 p1 p2 p3 p4 p5 ho r1' r2'
        generalize wv c d n = P at *
        go_wp2_with fail
        refine calls_start (fun V2 => V2.cell? ⟨w.heap.size, 0, none⟩ = some (.int .i64 (n : Int)) ∧ V2.frozen? ⟨w.heap.size, 0, none⟩ = false ∧ V2.cell? ⟨w.heap.size, 1, none⟩ = some (.int .i64 c) ∧ V2.frozen? ⟨w.heap.size, 1, none⟩ = false ∧ V2.cell? ⟨w.heap.size, 2, none⟩ = some (.int .i64 d) ∧ V2.frozen? ⟨w.heap.size, 2, none⟩ = false ∧ Below w.heap.size w V2) ⟨by first | with_reducible assumption | (simp [go_sem]; done), by first | with_reducible assumption | (simp [go_sem]; done), by first | with_reducible assumption | (simp [go_sem]; done), by first | with_reducible assumption | (simp [go_sem]; done), by first | with_reducible assumption | (simp [go_sem]; done), by first | with_reducible assumption | (simp [go_sem]; done), by repeat (first | with_reducible exact Below.refl _ _ | with_reducible refine bl_alloc ?_ _ | with_reducible refine bl_drewN ?_ _ | with_reducible refine bl_drew ?_ | (with_reducible refine bl_set ?_ ?_ _; rotate_left; focus (first | (simp; done) | (simp; omega) | omega)) | with_reducible refine below_step ?_ (Bw.below _) | with_reducible refine below_step ?_ (by assumption))⟩ ?_
        rintro V2 ⟨htb1, ftb1, htb2, ftb2, htb3, ftb3, hWtb⟩ gtb
        have tb1 := Bw.hold htb1
        have tbf1 := Bw.free htb1 ftb1
        have tb2 := Bw.hold htb2
        have tbf2 := Bw.free htb2 ftb2
        have tb3 := Bw.hold htb3
        have tbf3 := Bw.free htb3 ftb3
        have tbz1 := fun g : Bw V2 => cell_lt (tb1 g)
        have tby1 := fun g : Bw V2 => Nat.le_of_lt (tbz1 g)
        clear htb1 ftb1 htb2 ftb2 htb3 ftb3
        clear e1 e2 e3 ef1 ef2 ef3 hb
        refine (OF.out _).mono ?_
        rintro e_g1 w_g1 ⟨rfl, hb_g1⟩
        obtain ⟨g1, rfl⟩ := gtb.next hb_g1
        clear hb_g1
        go_wp2_with fail
        refine (WD.out _).mono ?_
        rintro e_g2 w_g2 ⟨rfl, hb_g2⟩
        obtain ⟨g2, rfl⟩ := g1.next hb_g2
        clear hb_g2
        go_wp2_with fail
        refine (CE.out _).mono ?_
        rintro e_g3 w_g3 ⟨rfl, hb_g3⟩
        obtain ⟨g3, rfl⟩ := g2.next hb_g3
        clear hb_g3
        go_wp2_with fail
        refine wp_start (fun V3 => V3.cell? ⟨w.heap.size, 0, none⟩ = some (.int .i64 (n : Int)) ∧ V3.frozen? ⟨w.heap.size, 0, none⟩ = false ∧ V3.cell? ⟨w.heap.size, 1, none⟩ = some (.int .i64 c) ∧ V3.frozen? ⟨w.heap.size, 1, none⟩ = false ∧ V3.cell? ⟨w.heap.size, 2, none⟩ = some (.int .i64 d) ∧ V3.frozen? ⟨w.heap.size, 2, none⟩ = false ∧ V3.cell? ⟨g3.out.heap.size, 0, none⟩ = some (.int .i64 (n : Int)) ∧ V3.cell? ⟨g3.out.heap.size, 1, none⟩ = some (.int .i64 c) ∧ V3.cell? ⟨g3.out.heap.size, 2, none⟩ = some (.int .i64 d) ∧ Below w.heap.size w V3) ⟨by first | with_reducible assumption | (simp [go_sem]; done) | with_reducible exact hold_al tb1 _ _ | with_reducible exact hold_al tb2 _ _ | with_reducible exact hold_al tb3 _ _ | (simp [go_sem, tb1, tbf1, tb2, tbf2, tb3, tbf3, tbz1, tby1]; done), by first | with_reducible assumption | (simp [go_sem]; done) | with_reducible exact hold_alF tb1 tbf1 _ _ | with_reducible exact hold_alF tb2 tbf2 _ _ | with_reducible exact hold_alF tb3 tbf3 _ _ | (simp [go_sem, tb1, tbf1, tb2, tbf2, tb3, tbf3, tbz1, tby1]; done), by first | with_reducible assumption | (simp [go_sem]; done) | with_reducible exact hold_al tb1 _ _ | with_reducible exact hold_al tb2 _ _ | with_reducible exact hold_al tb3 _ _ | (simp [go_sem, tb1, tbf1, tb2, tbf2, tb3, tbf3, tbz1, tby1]; done), by first | with_reducible assumption | (simp [go_sem]; done) | with_reducible exact hold_alF tb1 tbf1 _ _ | with_reducible exact hold_alF tb2 tbf2 _ _ | with_reducible exact hold_alF tb3 tbf3 _ _ | (simp [go_sem, tb1, tbf1, tb2, tbf2, tb3, tbf3, tbz1, tby1]; done), by first | with_reducible assumption | (simp [go_sem]; done) | with_reducible exact hold_al tb1 _ _ | with_reducible exact hold_al tb2 _ _ | with_reducible exact hold_al tb3 _ _ | (simp [go_sem, tb1, tbf1, tb2, tbf2, tb3, tbf3, tbz1, tby1]; done), by first | with_reducible assumption | (simp [go_sem]; done) | with_reducible exact hold_alF tb1 tbf1 _ _ | with_reducible exact hold_alF tb2 tbf2 _ _ | with_reducible exact hold_alF tb3 tbf3 _ _ | (simp [go_sem, tb1, tbf1, tb2, tbf2, tb3, tbf3, tbz1, tby1]; done), by first | with_reducible assumption | (simp [go_sem]; done) | with_reducible exact hold_al tb1 _ _ | with_reducible exact hold_al tb2 _ _ | with_reducible exact hold_al tb3 _ _ | (simp [go_sem, tb1, tbf1, tb2, tbf2, tb3, tbf3, tbz1, tby1]; done), by first | with_reducible assumption | (simp [go_sem]; done) | with_reducible exact hold_al tb1 _ _ | with_reducible exact hold_al tb2 _ _ | with_reducible exact hold_al tb3 _ _ | (simp [go_sem, tb1, tbf1, tb2, tbf2, tb3, tbf3, tbz1, tby1]; done), by first | with_reducible assumption | (simp [go_sem]; done) | with_reducible exact hold_al tb1 _ _ | with_reducible exact hold_al tb2 _ _ | with_reducible exact hold_al tb3 _ _ | (simp [go_sem, tb1, tbf1, tb2, tbf2, tb3, tbf3, tbz1, tby1]; done), by repeat (first | with_reducible exact Below.refl _ _ | with_reducible refine bl_alloc ?_ _ | with_reducible refine bl_drewN ?_ _ | with_reducible refine bl_drew ?_ | (with_reducible refine bl_set ?_ ?_ _; rotate_left; focus (first | (simp; done) | (simp; omega) | omega)) | with_reducible refine below_step ?_ (Bw.below _) | with_reducible refine below_step ?_ (by assumption))⟩ ?_
        rintro V3 ⟨htc1, ftc1, htc2, ftc2, htc3, ftc3, htc4, htc5, htc6, hWtc⟩ gtc
        have tc1 := Bw.hold htc1
        have tcf1 := Bw.free htc1 ftc1
        have tc2 := Bw.hold htc2
        have tcf2 := Bw.free htc2 ftc2
        have tc3 := Bw.hold htc3
        have tcf3 := Bw.free htc3 ftc3
        have tc4 := Bw.hold htc4
        have tc5 := Bw.hold htc5
        have tc6 := Bw.hold htc6
        have tcz1 := fun g : Bw V3 => cell_lt (tc1 g)
        have tcy1 := fun g : Bw V3 => Nat.le_of_lt (tcz1 g)
        have tcz4 := fun g : Bw V3 => cell_lt (tc4 g)
        have tcy4 := fun g : Bw V3 => Nat.le_of_lt (tcz4 g)
        clear htc1 ftc1 htc2 ftc2 htc3 ftc3 htc4 htc5 htc6
        clear tb1 tbf1 tb2 tbf2 tb3 tbf3 tbz1 tby1
        refine wp_region_bw (by kernel_rfl) (by kernel_rfl) gtc ?_
        repeat (go_big_quiet_step ((first
          | (go_at_call 20; with_reducible exact bw_call (OK.out _))
          | (go_at_call 21; with_reducible exact bw_call (RS.out _)))))
        refine wpQuiet_nil ?_
        rintro _ ⟨g4, rfl⟩
        go_wp2_with fail
        refine (SM.out _).mono ?_
        rintro e_h w_h ⟨ca, cb, rfl, hok, hb_h⟩
        obtain ⟨g5, rfl⟩ := g4.next hb_h
        clear hb_h
        have q1 := tc1 g5
        have q2 := tc2 g5
        have q3 := tc3 g5
        have r1 := tcf1 g5
        have r2 := tcf2 g5
        have r3 := tcf3 g5
        go_wp2_with fail
        go_roundg (2 - (k + 1))
        case measure => omega
        case rel => exact ⟨k + 1, by omega, by go_num, R, ca, cb, by simp [go_sem, q1, q2, q3], by simp [go_sem, q1, q2, q3], by simp [go_sem, q1, q2, q3], by simp [go_sem, r1, r2, r3], by simp [go_sem, r1, r2, r3], by simp [go_sem, r1, r2, r3], by repeat (first | with_reducible exact Below.refl _ _ | with_reducible refine bl_alloc ?_ _ | with_reducible refine bl_drewN ?_ _ | with_reducible refine bl_drew ?_ | (with_reducible refine bl_set ?_ ?_ _; rotate_left; focus (first | (simp; done) | (simp; omega) | omega)) | with_reducible refine below_step ?_ (Bw.below _) | with_reducible refine below_step ?_ (by assumption))⟩
    · obtain rfl : k = 2 := by omega
      go_wp2_with fail
      refine (awake5 _).mono ?_
      rintro e_h w_h ⟨rfl, hb_h⟩
      go_wp2_with fail
      go_ret
      exact ⟨rfl, by repeat (first | with_reducible exact Below.refl _ _ | with_reducible refine bl_alloc ?_ _ | with_reducible refine bl_drewN ?_ _ | with_reducible refine bl_drew ?_ | (with_reducible refine bl_set ?_ ?_ _; rotate_left; focus (first | (simp; done) | (simp; omega) | omega)) | with_reducible refine below_step ?_ (Bw.below _) | with_reducible refine below_step ?_ (by assumption))⟩
/-! THE STATEMENT IdentWords -/
section
open Go.ChangeShapes Go.WideShapes Go.ChangeAt Go.RowKit Go.Joins
set_option linter.unusedVariables false
set_option maxRecDepth 100000 in
theorem identWords_lifted (os : Os) (started : os.Started) (H : Type) (enc : TypeId × Value → H) :
    ReturnsInHanded {} Try.checked os 5 .any (Rows.identWordsSpec.pre6 enc Try.prog Try.f5 Rows.identWordsRow.domain false) (Rows.identWordsSpec.post enc Try.prog Try.f5 false true false false) := by
  refine returnsInHanded_of_change (C := Try.checked) (show ownKnob Try.prog.godebug = none by kernel_rfl) started (by kernel_rfl) Try.func5
    (ChangeSpec.witness6 (enc := enc) (C := Try.checked) false ⟨#[], #[.agg #[.int .i64 0, .int .i64 0, .int .i64 0], .int .i64 0, .int .i64 0, .int .i64 0], []⟩ 8 (by kernel_rfl) (by kernel_rfl) (by kernel_rfl) (by kernel_rfl)) ?_
  intro W base args ds gs before hval0 hW hcnd _
  have hval : ∀ (j : Nat) t v, Try.f5.params[j]? = some t → args[j]? = some v → Value.okWide Try.prog W .any base t v := hval0
  have hW' := hW
  obtain ⟨p, q, hA0, hV, rfl, hfz, hnd⟩ := hW
  have hA : DataW.TrodAll enc Try.prog W 0 (fun _ => true) true Try.f5.params.toList args.toList ds p := hA0
  rw [Try.params5] at hA hval
  obtain ⟨v0, vs0, d0, ds0, p0, q0, hargs, rfl, rfl, h0, r0⟩ := trodAll_cons hA
  obtain ⟨v1, vs1, d1, ds1, p1, q1, rfl, rfl, rfl, h1, r1⟩ := trodAll_cons r0
  obtain ⟨v2, vs2, d2, ds2, p2, q2, rfl, rfl, rfl, h2, r2⟩ := trodAll_cons r1
  obtain ⟨v3, vs3, d3, ds3, p3, q3, rfl, rfl, rfl, h3, r3⟩ := trodAll_cons r2
  obtain ⟨rfl, rfl, rfl⟩ := trodAll_nil r3
  obtain rfl : args = #[v0, v1, v2, v3] := by cases args; simp_all
  obtain ⟨rfl, rfl⟩ := trodVars_none hV
  obtain ⟨s, c, d, rfl, rfl, rfl, wf_s, wf_c, wf_d⟩ := open_cell Try.underlying27 (show Try.prog.cellsOf 27 = 3 by kernel_rfl) rfl (show Try.prog.cellsOf 3 = 1 by kernel_rfl) Try.underlying3 rfl (show Try.prog.cellsOf 25 = 2 by kernel_rfl) Try.underlying25 rfl (show Try.prog.cellsOf 2 = 1 by kernel_rfl) Try.underlying2 rfl (show Try.prog.cellsOf 2 = 1 by kernel_rfl) Try.underlying2 (hval 0 27 v0 rfl rfl) h0
  obtain ⟨x, rfl, rfl, rfl, wf_x⟩ := open_int Try.underlying2 (hval 1 2 v1 rfl rfl) h1
  obtain ⟨y, rfl, rfl, rfl, wf_y⟩ := open_int Try.underlying2 (hval 2 2 v2 rfl rfl) h2
  obtain ⟨r, rfl, rfl, rfl, wf_r⟩ := open_int Try.underlying3 (hval 3 3 v3 rfl rfl) h3
  clear hA0 hval0
  simp only [List.append_nil] at hW'
  refine (identwords_walk s c d x y r (wf_i64 wf_s).1 (wf_i64 wf_s).2 (wf_i64 wf_c).1 (wf_i64 wf_c).2 (wf_i64 wf_d).1 (wf_i64 wf_d).2 (wf_i64 wf_x).1 (wf_i64 wf_x).2 (wf_i64 wf_y).1 (wf_i64 wf_y).2 (wf_i64 wf_r).1 (wf_i64 wf_r).2 W).mono fun e W' ⟨he, hb⟩ => ?_
  subst he
  exact ⟨_, rfl, post_of_below (pa := []) (pv := []) hW' (fun _ _ _ => (trodAll_cons_mk (shut_bool Try.underlying4 _) trodAll_mk0)) (fun sp _ => (trodAll_cons_mk (shut_cell Try.underlying27 (show Try.prog.cellsOf 27 = 3 by kernel_rfl) rfl (show Try.prog.cellsOf 3 = 1 by kernel_rfl) Try.underlying3 rfl (show Try.prog.cellsOf 25 = 2 by kernel_rfl) Try.underlying25 rfl (show Try.prog.cellsOf 2 = 1 by kernel_rfl) Try.underlying2 rfl (show Try.prog.cellsOf 2 = 1 by kernel_rfl) Try.underlying2 wf_s wf_c wf_d) (trodAll_cons_mk (shut_int Try.underlying2 wf_x) (trodAll_cons_mk (shut_int Try.underlying2 wf_y) (trodAll_cons_mk (shut_int Try.underlying3 wf_r) trodAll_mk0))))) (fun _ _ => rfl) rfl hb
    (ok_one (by kernel_rfl) rfl (okWide_bool_mk Try.underlying4 _))⟩
theorem identWords_holds : Rows.IdentWordsSaid :=
  OpenClaim.holds_of_wide 5 Try.f5 rfl rfl rfl rfl rfl rfl rfl ⟨rfl, rfl, rfl, rfl, rfl⟩ rfl rfl rfl rfl rfl (by kernel_rfl) Try.func5 (by kernel_rfl)
    (of_decide_eq_true (by kernel_rfl)) (by unfold Func.isWrapper; first | (rw [if_pos (by decide +kernel)]; kernel_rfl) | (rw [if_neg (by decide +kernel)]; exact ⟨rfl, rfl⟩))
    (fun os started H enc _ => identWords_lifted os started H enc)
end
#print axioms identWords_holds
end Go.Proofs.Ytmipkloleklnkaa

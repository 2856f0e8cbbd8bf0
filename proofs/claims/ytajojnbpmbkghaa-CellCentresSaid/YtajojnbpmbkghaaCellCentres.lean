/- CellCentres: a cell's centre is its first child's, of each size down. No condition. -/
import Derived.Test.YtajojnbpmbkghaaKidsLaw
namespace Go.Proofs.Ytajojnbpmbkghaa
open Go.RowKit
set_option linter.unusedSimpArgs false
set_option linter.unusedVariables false
set_option maxRecDepth 100000 in
set_option maxHeartbeats 4000000 in
theorem cellcentres_walk (x y r : Int) (hx : -9223372036854775808 ≤ x) (hx' : x ≤ 9223372036854775807) (hy : -9223372036854775808 ≤ y) (hy' : y ≤ 9223372036854775807) (hr : -9223372036854775808 ≤ r) (hr' : r ≤ 9223372036854775807) (w : World) : Calls Try.prog 8 #[.int .i64 x, .int .i64 y, .int .i64 r] w fun e w' => e = .returned (.bool true) ∧ Below w.heap.size w w' := by
  have SM0 := law4_some x y r hx hx' hy hy' hr hr'
  generalize (r.tmod 13 + 13).tmod 13 = R at SM0
  have SM := Lib.hid SM0
  clear SM0
  go_enter Try.func8, Try.ntmps8
  go_wp2_with fail
  refine (SM.out _).mono ?_
  rintro e_h w_h ⟨ca, cb, rfl, hok, hb_h⟩
  obtain ⟨⟨r1, r2⟩, hz, _⟩ := okB_true hok
  obtain ⟨K, hK⟩ : ∃ K : Nat, 12 - R = (K : Int) := ⟨(12 - R).toNat, by omega⟩
  obtain ⟨cx, hcx⟩ : ∃ cx, ceX ca cb K = cx := ⟨_, rfl⟩
  obtain ⟨cy, hcy⟩ : ∃ cy, ceY ca cb K = cy := ⟨_, rfl⟩
  have CE := plane_centre ca cb R K (by omega) hK hz
  rw [hcx, hcy] at CE
  have HCE := Lib.hid CE
  have HX := Lib.hid hcx
  have HY := Lib.hid hcy
  have HK := Lib.hid hK
  have HOK := Lib.hid hok
  clear CE hcx hcy hz hok SM hK
  have hwz : w.heap.size ≤ w_h.heap.size := hb_h.size
  go_wp2_with fail
  refine calls_start (fun V => V.cell? ⟨w_h.heap.size, 0, none⟩ = some (.int .i64 R) ∧ V.frozen? ⟨w_h.heap.size, 0, none⟩ = false ∧ V.cell? ⟨w_h.heap.size, 1, none⟩ = some (.int .i64 ca) ∧ V.frozen? ⟨w_h.heap.size, 1, none⟩ = false ∧ V.cell? ⟨w_h.heap.size, 2, none⟩ = some (.int .i64 cb) ∧ V.frozen? ⟨w_h.heap.size, 2, none⟩ = false ∧ Below w.heap.size w V) ⟨by first | with_reducible assumption | (simp [go_sem]; done), by first | with_reducible assumption | (simp [go_sem]; done), by first | with_reducible assumption | (simp [go_sem]; done), by first | with_reducible assumption | (simp [go_sem]; done), by first | with_reducible assumption | (simp [go_sem]; done), by first | with_reducible assumption | (simp [go_sem]; done), by repeat (first | with_reducible exact Below.refl _ _ | with_reducible refine bl_alloc ?_ _ | with_reducible refine bl_drewN ?_ _ | with_reducible refine bl_drew ?_ | (with_reducible refine bl_set ?_ ?_ _; rotate_left; focus (first | (simp; done) | (simp; omega) | omega)) | with_reducible refine below_step ?_ (Bw.below _) | with_reducible refine below_step ?_ (by assumption))⟩ ?_
  rintro V ⟨hc1, fc1, hc2, fc2, hc3, fc3, hWc⟩ gc
  have c1 := Bw.hold hc1
  have cf1 := Bw.free hc1 fc1
  have c2 := Bw.hold hc2
  have cf2 := Bw.free hc2 fc2
  have c3 := Bw.hold hc3
  have cf3 := Bw.free hc3 fc3
  have cz1 := fun g : Bw V => cell_lt (c1 g)
  have cy1 := fun g : Bw V => Nat.le_of_lt (cz1 g)
  clear hc1 fc1 hc2 fc2 hc3 fc3
  clear hb_h
  refine (HCE.out _).mono ?_
  rintro e_g2 w_g2 ⟨rfl, hb_g2⟩
  obtain ⟨g2, rfl⟩ := gc.next hb_g2
  clear hb_g2
  go_wp2_with fail
  go_loopg [] K (fun k W => ∃ p q s : Int, s = 12 - (k : Int) ∧ okB s p q = true ∧ ceX p q k = cx ∧ ceY p q k = cy ∧ W.cell? ⟨w_h.heap.size, 0, none⟩ = some (.int .i64 s) ∧ W.cell? ⟨w_h.heap.size, 1, none⟩ = some (.int .i64 p) ∧ W.cell? ⟨w_h.heap.size, 2, none⟩ = some (.int .i64 q)
    ∧ W.frozen? ⟨w_h.heap.size, 0, none⟩ = false ∧ W.frozen? ⟨w_h.heap.size, 1, none⟩ = false ∧ W.frozen? ⟨w_h.heap.size, 2, none⟩ = false ∧ w.heap.size ≤ w_h.heap.size ∧ Below w.heap.size w W)
  case atStart => exact ⟨ca, cb, R, by have := HK.out; omega, HOK.out, HX.out, HY.out, c1 _, c2 _, c3 _, cf1 _, cf2 _, cf3 _, hwz, by repeat (first | with_reducible exact Below.refl _ _ | with_reducible refine bl_alloc ?_ _ | with_reducible refine bl_drewN ?_ _ | with_reducible refine bl_drew ?_ | (with_reducible refine bl_set ?_ ?_ _; rotate_left; focus (first | (simp; done) | (simp; omega) | omega)) | with_reducible refine below_step ?_ (Bw.below _) | with_reducible refine below_step ?_ (by assumption))⟩
  case round =>
    obtain ⟨p, q, s, hs, hok, hcx, hcy, e1, e2, e3, ef1, ef2, ef3, hsz, hb⟩ := hrel
    clear HX HY HK HOK
    obtain ⟨⟨s1, s2⟩, hz, _⟩ := okB_true hok
    rcases gk with _ | k
    · have hs12 : s = 12 := by omega
      subst hs12
      clear hcx hcy hs hok hz
      go_wp2_with fail
      refine calls_start (fun V5 => Below w.heap.size w V5) (by repeat (first | with_reducible exact Below.refl _ _ | with_reducible refine bl_alloc ?_ _ | with_reducible refine bl_drewN ?_ _ | with_reducible refine bl_drew ?_ | (with_reducible refine bl_set ?_ ?_ _; rotate_left; focus (first | (simp; done) | (simp; omega) | omega)) | with_reducible refine below_step ?_ (Bw.below _) | with_reducible refine below_step ?_ (by assumption))) ?_
      rintro V5 hWta gta
      refine (awake4 _).mono ?_
      rintro e_g5 w_g5 ⟨rfl, hb_g5⟩
      obtain ⟨g5, rfl⟩ := gta.next hb_g5
      clear hb_g5
      go_wp2_with fail
      go_ret
      exact ⟨rfl, by repeat (first | with_reducible exact Below.refl _ _ | with_reducible refine bl_alloc ?_ _ | with_reducible refine bl_drewN ?_ _ | with_reducible refine bl_drew ?_ | (with_reducible refine bl_set ?_ ?_ _; rotate_left; focus (first | (simp; done) | (simp; omega) | omega)) | with_reducible refine below_step ?_ (Bw.below _) | with_reducible refine below_step ?_ (by assumption))⟩
    · have hlt : s < 12 := by omega
      obtain ⟨t, ht⟩ : ∃ t : Nat, s = (t : Int) := ⟨s.toNat, by omega⟩
      have KD := Lib.hid (cell_children s p q hok (by omega))
      have hk1 : okB (s + 1) (2 * p - q) (p + 3 * q) = true := by
        have := kid_ok p q t 0 (by omega) (by omega) (by rw [← ht]; exact hok)
        rw [← ht] at this
        exact this
      have hk2 : digV (s + 1) (2 * p - q) (p + 3 * q) = 0 := by
        have := kid_dig p q t 0 (by omega) (by omega) (by rw [← ht]; exact hok)
        rw [← ht] at this
        exact this
      have DG := cell_Digit (s + 1) (2 * p - q) (p + 3 * q)
      rw [hk2] at DG
      have HDG := Lib.hid DG
      have hd := ce_down' p q k
      rw [hcx, hcy] at hd
      have CE := plane_centre (2 * p - q) (p + 3 * q) (s + 1) k (by omega) (by omega) (okB_true hk1).2.1
      rw [hd.1, hd.2] at CE
      have HCE := Lib.hid CE
      have HOK := Lib.hid hk1
      have HD1 := Lib.hid hd.1
      have HD2 := Lib.hid hd.2
      have HS := Lib.hid hs
      clear DG CE hd hcx hcy hok hz hk1 hk2 ht hs
      generalize 2 * p - q = da at *
      generalize p + 3 * q = db at *
      go_wp2_with fail
      refine calls_start (fun V3 => V3.cell? ⟨w_h.heap.size, 0, none⟩ = some (.int .i64 s) ∧ V3.frozen? ⟨w_h.heap.size, 0, none⟩ = false ∧ V3.cell? ⟨w_h.heap.size, 1, none⟩ = some (.int .i64 p) ∧ V3.frozen? ⟨w_h.heap.size, 1, none⟩ = false ∧ V3.cell? ⟨w_h.heap.size, 2, none⟩ = some (.int .i64 q) ∧ V3.frozen? ⟨w_h.heap.size, 2, none⟩ = false ∧ Below w.heap.size w V3) ⟨by first | with_reducible assumption | (simp [go_sem]; done), by first | with_reducible assumption | (simp [go_sem]; done), by first | with_reducible assumption | (simp [go_sem]; done), by first | with_reducible assumption | (simp [go_sem]; done), by first | with_reducible assumption | (simp [go_sem]; done), by first | with_reducible assumption | (simp [go_sem]; done), by repeat (first | with_reducible exact Below.refl _ _ | with_reducible refine bl_alloc ?_ _ | with_reducible refine bl_drewN ?_ _ | with_reducible refine bl_drew ?_ | (with_reducible refine bl_set ?_ ?_ _; rotate_left; focus (first | (simp; done) | (simp; omega) | omega)) | with_reducible refine below_step ?_ (Bw.below _) | with_reducible refine below_step ?_ (by assumption))⟩ ?_
      rintro V3 ⟨hd1, fd1, hd2, fd2, hd3, fd3, hWd⟩ gd
      have d1 := Bw.hold hd1
      have df1 := Bw.free hd1 fd1
      have d2 := Bw.hold hd2
      have df2 := Bw.free hd2 fd2
      have d3 := Bw.hold hd3
      have df3 := Bw.free hd3 fd3
      have dz1 := fun g : Bw V3 => cell_lt (d1 g)
      have dy1 := fun g : Bw V3 => Nat.le_of_lt (dz1 g)
      clear hd1 fd1 hd2 fd2 hd3 fd3
      clear e1 e2 e3 ef1 ef2 ef3 hb
      refine (KD.out _).mono ?_
      rintro e_h2 w_h2 ⟨v, rfl, own_h, hb_h2⟩
      obtain ⟨g3, rfl⟩ := gd.next hb_h2
      clear hb_h2
      obtain ⟨hg, cap, rfl, hgb, hcs⟩ := own_kids own_h
      have k1 : g3.out.cell? ⟨hg, 0, none⟩ = some (.int .i64 (s + 1)) := (hcs 0 (by omega)).1
      have k2 : g3.out.cell? ⟨hg, 1, none⟩ = some (.int .i64 da) := (hcs 0 (by omega)).2.1
      have k3 : g3.out.cell? ⟨hg, 2, none⟩ = some (.int .i64 db) := (hcs 0 (by omega)).2.2
      clear own_h hcs
      go_wp2_with fail
      refine calls_start (fun V4 => V4.cell? ⟨w_h.heap.size, 0, none⟩ = some (.int .i64 (s + 1)) ∧ V4.frozen? ⟨w_h.heap.size, 0, none⟩ = false ∧ V4.cell? ⟨w_h.heap.size, 1, none⟩ = some (.int .i64 da) ∧ V4.frozen? ⟨w_h.heap.size, 1, none⟩ = false ∧ V4.cell? ⟨w_h.heap.size, 2, none⟩ = some (.int .i64 db) ∧ V4.frozen? ⟨w_h.heap.size, 2, none⟩ = false ∧ Below w.heap.size w V4) ⟨by first | with_reducible assumption | (simp [go_sem]; done) | with_reducible exact hold_al d1 _ _ | with_reducible exact hold_al d2 _ _ | with_reducible exact hold_al d3 _ _ | (simp [go_sem, d1, df1, d2, df2, d3, df3, dz1, dy1]; done), by first | with_reducible assumption | (simp [go_sem]; done) | with_reducible exact hold_alF d1 df1 _ _ | with_reducible exact hold_alF d2 df2 _ _ | with_reducible exact hold_alF d3 df3 _ _ | (simp [go_sem, d1, df1, d2, df2, d3, df3, dz1, dy1]; done), by first | with_reducible assumption | (simp [go_sem]; done) | with_reducible exact hold_al d1 _ _ | with_reducible exact hold_al d2 _ _ | with_reducible exact hold_al d3 _ _ | (simp [go_sem, d1, df1, d2, df2, d3, df3, dz1, dy1]; done), by first | with_reducible assumption | (simp [go_sem]; done) | with_reducible exact hold_alF d1 df1 _ _ | with_reducible exact hold_alF d2 df2 _ _ | with_reducible exact hold_alF d3 df3 _ _ | (simp [go_sem, d1, df1, d2, df2, d3, df3, dz1, dy1]; done), by first | with_reducible assumption | (simp [go_sem]; done) | with_reducible exact hold_al d1 _ _ | with_reducible exact hold_al d2 _ _ | with_reducible exact hold_al d3 _ _ | (simp [go_sem, d1, df1, d2, df2, d3, df3, dz1, dy1]; done), by first | with_reducible assumption | (simp [go_sem]; done) | with_reducible exact hold_alF d1 df1 _ _ | with_reducible exact hold_alF d2 df2 _ _ | with_reducible exact hold_alF d3 df3 _ _ | (simp [go_sem, d1, df1, d2, df2, d3, df3, dz1, dy1]; done), by repeat (first | with_reducible exact Below.refl _ _ | with_reducible refine bl_alloc ?_ _ | with_reducible refine bl_drewN ?_ _ | with_reducible refine bl_drew ?_ | (with_reducible refine bl_set ?_ ?_ _; rotate_left; focus (first | (simp; done) | (simp; omega) | omega)) | with_reducible refine below_step ?_ (Bw.below _) | with_reducible refine below_step ?_ (by assumption))⟩ ?_
      rintro V4 ⟨htb1, ftb1, htb2, ftb2, htb3, ftb3, hWtb⟩ gtb
      have tb1 := Bw.hold htb1
      have tbf1 := Bw.free htb1 ftb1
      have tb2 := Bw.hold htb2
      have tbf2 := Bw.free htb2 ftb2
      have tb3 := Bw.hold htb3
      have tbf3 := Bw.free htb3 ftb3
      have tbz1 := fun g : Bw V4 => cell_lt (tb1 g)
      have tby1 := fun g : Bw V4 => Nat.le_of_lt (tbz1 g)
      clear htb1 ftb1 htb2 ftb2 htb3 ftb3
      clear d1 df1 d2 df2 d3 df3 dz1 dy1
      clear k1 k2 k3
      refine (HCE.out _).mono ?_
      rintro e_g5 w_g5 ⟨rfl, hb_g5⟩
      obtain ⟨g5, rfl⟩ := gtb.next hb_g5
      clear hb_g5
      go_wp2_with fail
      refine (HDG.out _).mono ?_
      rintro e_g6 w_g6 ⟨rfl, hb_g6⟩
      obtain ⟨g6, rfl⟩ := g5.next hb_g6
      clear hb_g6
      go_wp2_with fail
      go_roundg k
      case measure => omega
      case rel => exact ⟨da, db, s + 1, by have := HS.out; omega, HOK.out, HD1.out, HD2.out, tb1 _, tb2 _, tb3 _, tbf1 _, tbf2 _, tbf3 _, hsz, by repeat (first | with_reducible exact Below.refl _ _ | with_reducible refine bl_alloc ?_ _ | with_reducible refine bl_drewN ?_ _ | with_reducible refine bl_drew ?_ | (with_reducible refine bl_set ?_ ?_ _; rotate_left; focus (first | (simp; done) | (simp; omega) | omega)) | with_reducible refine below_step ?_ (Bw.below _) | with_reducible refine below_step ?_ (by assumption))⟩
/-! THE STATEMENT CellCentres -/
section
open Go.ChangeShapes Go.WideShapes Go.ChangeAt Go.RowKit Go.Joins
set_option linter.unusedVariables false
set_option maxRecDepth 100000 in
theorem cellCentres_lifted (os : Os) (started : os.Started) (H : Type) (enc : TypeId × Value → H) :
    ReturnsInHanded {} Try.checked os 8 .any (Rows.cellCentresSpec.pre6 enc Try.prog Try.f8 Rows.cellCentresRow.domain false) (Rows.cellCentresSpec.post enc Try.prog Try.f8 false true false false) := by
  refine returnsInHanded_of_change (C := Try.checked) (show ownKnob Try.prog.godebug = none by kernel_rfl) started (by kernel_rfl) Try.func8
    (ChangeSpec.witness6 (enc := enc) (C := Try.checked) false ⟨#[], #[.int .i64 0, .int .i64 0, .int .i64 0], []⟩ 8 (by kernel_rfl) (by kernel_rfl) (by kernel_rfl) (by kernel_rfl)) ?_
  intro W base args ds gs before hval0 hW hcnd _
  have hval : ∀ (j : Nat) t v, Try.f8.params[j]? = some t → args[j]? = some v → Value.okWide Try.prog W .any base t v := hval0
  have hW' := hW
  obtain ⟨p, q, hA0, hV, rfl, hfz, hnd⟩ := hW
  have hA : DataW.TrodAll enc Try.prog W 0 (fun _ => true) true Try.f8.params.toList args.toList ds p := hA0
  rw [Try.params8] at hA hval
  obtain ⟨v0, vs0, d0, ds0, p0, q0, hargs, rfl, rfl, h0, r0⟩ := trodAll_cons hA
  obtain ⟨v1, vs1, d1, ds1, p1, q1, rfl, rfl, rfl, h1, r1⟩ := trodAll_cons r0
  obtain ⟨v2, vs2, d2, ds2, p2, q2, rfl, rfl, rfl, h2, r2⟩ := trodAll_cons r1
  obtain ⟨rfl, rfl, rfl⟩ := trodAll_nil r2
  obtain rfl : args = #[v0, v1, v2] := by cases args; simp_all
  obtain ⟨rfl, rfl⟩ := trodVars_none hV
  obtain ⟨x, rfl, rfl, rfl, wf_x⟩ := open_int Try.underlying2 (hval 0 2 v0 rfl rfl) h0
  obtain ⟨y, rfl, rfl, rfl, wf_y⟩ := open_int Try.underlying2 (hval 1 2 v1 rfl rfl) h1
  obtain ⟨r, rfl, rfl, rfl, wf_r⟩ := open_int Try.underlying3 (hval 2 3 v2 rfl rfl) h2
  clear hA0 hval0
  simp only [List.append_nil] at hW'
  refine (cellcentres_walk x y r (wf_i64 wf_x).1 (wf_i64 wf_x).2 (wf_i64 wf_y).1 (wf_i64 wf_y).2 (wf_i64 wf_r).1 (wf_i64 wf_r).2 W).mono fun e W' ⟨he, hb⟩ => ?_
  subst he
  exact ⟨_, rfl, post_of_below (pa := []) (pv := []) hW' (fun _ _ _ => (trodAll_cons_mk (shut_bool Try.underlying4 _) trodAll_mk0)) (fun sp _ => (trodAll_cons_mk (shut_int Try.underlying2 wf_x) (trodAll_cons_mk (shut_int Try.underlying2 wf_y) (trodAll_cons_mk (shut_int Try.underlying3 wf_r) trodAll_mk0)))) (fun _ _ => rfl) rfl hb
    (ok_one (by kernel_rfl) rfl (okWide_bool_mk Try.underlying4 _))⟩
theorem cellCentres_holds : Rows.CellCentresSaid :=
  OpenClaim.holds_of_wide 8 Try.f8 rfl rfl rfl rfl rfl rfl rfl ⟨rfl, rfl, rfl, rfl, rfl⟩ rfl rfl rfl rfl rfl (by kernel_rfl) Try.func8 (by kernel_rfl)
    (of_decide_eq_true (by kernel_rfl)) (by unfold Func.isWrapper; first | (rw [if_pos (by decide +kernel)]; kernel_rfl) | (rw [if_neg (by decide +kernel)]; exact ⟨rfl, rfl⟩))
    (fun os started H enc _ => cellCentres_lifted os started H enc)
end
#print axioms cellCentres_holds
end Go.Proofs.Ytajojnbpmbkghaa

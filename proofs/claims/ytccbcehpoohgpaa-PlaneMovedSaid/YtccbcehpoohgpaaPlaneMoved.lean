/- PlaneMoved: a point that is moved by steps of the finest lattice is nearest to what was nearest to it, moved as far. No condition. -/
import Derived.Test.YtccbcehpoohgpaaRow
import Derived.Test.YtccbcehpoohgpaaPoint3
namespace Go.Proofs.Ytccbcehpoohgpaa
open Go.RowKit
set_option linter.unusedSimpArgs false
set_option linter.unusedVariables false
theorem near_step (x y a b : Int) : nearA (x + 52 * a + 26 * b) (y + 45 * b) 0 = nearA x y 0 + a ∧ nearB (x + 52 * a + 26 * b) (y + 45 * b) 0 = nearB x y 0 + b := by
  have e1 : ∀ x y : Int, nrX x y 0 = 45 * x - 26 * y := fun x y => by
    have : cjA 0 = 1 := by decide
    have h2 : cjB 0 = 0 := by decide
    unfold nrX; rw [this, h2]; omega
  have e2 : ∀ x y : Int, nrY x y 0 = 52 * y := fun x y => by
    have : cjA 0 = 1 := by decide
    have h2 : cjB 0 = 0 := by decide
    unfold nrY; rw [this, h2]; omega
  have p : 2340 * p7 0 = 2340 := by decide
  have R := rd_moved (45 * x - 26 * y) (52 * y) 2340 a b (by omega)
  unfold nearA nearB
  rw [e1, e2, e1, e2, p, show 45 * (x + 52 * a + 26 * b) - 26 * (y + 45 * b) = 45 * x - 26 * y + 2340 * a by omega, show 52 * (y + 45 * b) = 52 * y + 2340 * b by omega]
  exact R
set_option maxRecDepth 100000 in
set_option maxHeartbeats 1000000 in
theorem planemoved_walk (x y a b : Int) (hx : -9223372036854775808 ≤ x) (hx' : x ≤ 9223372036854775807) (hy : -9223372036854775808 ≤ y) (hy' : y ≤ 9223372036854775807) (ha : -9223372036854775808 ≤ a) (ha' : a ≤ 9223372036854775807) (hb : -9223372036854775808 ≤ b) (hb' : b ≤ 9223372036854775807) (w : World) : Calls Try.prog 4 #[.int .i64 x, .int .i64 y, .int .i64 a, .int .i64 b] w fun e w' => e = .returned (.bool true) ∧ Below w.heap.size w w' := by
  have PT := Lib.hid (law3_point x y hx hx' hy hy')
  obtain ⟨t1, t2⟩ := tmod_bd a 100000 (by omega)
  obtain ⟨t3, t4⟩ := tmod_bd b 100000 (by omega)
  obtain ⟨u1, u2⟩ := ptV_bd x
  obtain ⟨u3, u4⟩ := ptV_bd y
  have wd := pt_wd x y
  clear hx hx' hy hy' ha ha' hb hb'
  generalize ptV x = X at *
  generalize ptV y = Y at *
  generalize hA : a.tmod 100000 = A1 at *
  generalize hB : b.tmod 100000 = B1 at *
  have O := plane_ok (X + 52 * A1 + 26 * B1) (Y + 45 * B1)
  rcases hd : wdB (X + 52 * A1 + 26 * B1) (Y + 45 * B1) with _ | _
  · rw [hd] at O
    have HO := Lib.hid O
    clear O hd wd
    go_enter Try.func4, Try.ntmps4
    go_wp2_with fail
    refine (PT.out _).mono ?_
    rintro e w1 ⟨rfl, rfl⟩
    go_wp2_with fail
    refine (HO.out _).mono ?_
    rintro e w1 ⟨rfl, rfl⟩
    go_wp2_with fail
    refine calls_start (fun V => Below w.heap.size w V) (by repeat (first | with_reducible exact Below.refl _ _ | with_reducible refine bl_alloc ?_ _ | with_reducible refine bl_drewN ?_ _ | with_reducible refine bl_drew ?_ | (with_reducible refine bl_set ?_ ?_ _; rotate_left; focus (first | (simp; done) | (simp; omega) | omega)) | with_reducible refine below_step ?_ (Bw.below _) | with_reducible refine below_step ?_ (by assumption))) ?_
    rintro V hWc gc
    refine (awake3 _).mono ?_
    rintro e_g2 w_g2 ⟨rfl, hb_g2⟩
    obtain ⟨g2, rfl⟩ := gc.next hb_g2
    clear hb_g2
    go_wp2_with fail
    go_ret
    exact ⟨rfl, by repeat (first | with_reducible exact Below.refl _ _ | with_reducible refine bl_alloc ?_ _ | with_reducible refine bl_drewN ?_ _ | with_reducible refine bl_drew ?_ | (with_reducible refine bl_set ?_ ?_ _; rotate_left; focus (first | (simp; done) | (simp; omega) | omega)) | with_reducible refine below_step ?_ (Bw.below _) | with_reducible refine below_step ?_ (by assumption))⟩
  · rw [hd] at O
    have HO := Lib.hid O
    have N1 := Lib.hid (plane_near X Y 12 0 (by omega) (by omega) wd)
    have NQ := plane_near (X + 52 * A1 + 26 * B1) (Y + 45 * B1) 12 0 (by omega) (by omega) hd
    rw [(near_step X Y A1 B1).1, (near_step X Y A1 B1).2] at NQ
    have N2 := Lib.hid NQ
    obtain ⟨b1, b2, b3, b4⟩ := near_bd X Y 0 (by omega) u1 u2 u3 u4
    clear O hd wd NQ
    generalize nearA X Y 0 = za at *
    generalize nearB X Y 0 = zb at *
    go_enter Try.func4, Try.ntmps4
    go_wp2_with fail
    refine (PT.out _).mono ?_
    rintro e w1 ⟨rfl, rfl⟩
    go_wp2_with fail
    refine (HO.out _).mono ?_
    rintro e w1 ⟨rfl, rfl⟩
    go_wp2_with fail
    refine calls_start (fun V => Below w.heap.size w V) (by repeat (first | with_reducible exact Below.refl _ _ | with_reducible refine bl_alloc ?_ _ | with_reducible refine bl_drewN ?_ _ | with_reducible refine bl_drew ?_ | (with_reducible refine bl_set ?_ ?_ _; rotate_left; focus (first | (simp; done) | (simp; omega) | omega)) | with_reducible refine below_step ?_ (Bw.below _) | with_reducible refine below_step ?_ (by assumption))) ?_
    rintro V hWc gc
    refine (N1.out _).mono ?_
    rintro e_g2 w_g2 ⟨rfl, hb_g2⟩
    obtain ⟨g2, rfl⟩ := gc.next hb_g2
    clear hb_g2
    go_wp2_with fail
    refine calls_start (fun V2 => V2.cell? ⟨g2.out.heap.size, 0, none⟩ = some (.int .i64 za) ∧ V2.cell? ⟨g2.out.heap.size, 1, none⟩ = some (.int .i64 zb) ∧ Below w.heap.size w V2) ⟨by first | (simp [go_sem]; done), by first | (simp [go_sem]; done), by repeat (first | with_reducible exact Below.refl _ _ | with_reducible refine bl_alloc ?_ _ | with_reducible refine bl_drewN ?_ _ | with_reducible refine bl_drew ?_ | (with_reducible refine bl_set ?_ ?_ _; rotate_left; focus (first | (simp; done) | (simp; omega) | omega)) | with_reducible refine below_step ?_ (Bw.below _) | with_reducible refine below_step ?_ (by assumption))⟩ ?_
    rintro V2 ⟨hd1, hd2, hWd⟩ gd
    have d1 := Bw.hold hd1
    have d2 := Bw.hold hd2
    have dz1 := fun g : Bw V2 => cell_lt (d1 g)
    have dy1 := fun g : Bw V2 => Nat.le_of_lt (dz1 g)
    clear hd1 hd2
    refine (N2.out _).mono ?_
    rintro e_g3 w_g3 ⟨rfl, hb_g3⟩
    obtain ⟨g3, rfl⟩ := gd.next hb_g3
    clear hb_g3
    go_wp2_with fail
    refine calls_start (fun V3 => V3.cell? ⟨g2.out.heap.size, 0, none⟩ = some (.int .i64 za) ∧ V3.cell? ⟨g2.out.heap.size, 1, none⟩ = some (.int .i64 zb) ∧ V3.cell? ⟨g3.out.heap.size, 0, none⟩ = some (.int .i64 (za + A1)) ∧ V3.cell? ⟨g3.out.heap.size, 1, none⟩ = some (.int .i64 (zb + B1)) ∧ Below w.heap.size w V3) ⟨by first | (simp [go_sem]; done) | with_reducible exact hold_al d1 _ _ | with_reducible exact hold_al d2 _ _ | (simp [go_sem, d1, d2, dz1, dy1]; done), by first | (simp [go_sem]; done) | with_reducible exact hold_al d1 _ _ | with_reducible exact hold_al d2 _ _ | (simp [go_sem, d1, d2, dz1, dy1]; done), by first | (simp [go_sem]; done) | with_reducible exact hold_al d1 _ _ | with_reducible exact hold_al d2 _ _ | (simp [go_sem, d1, d2, dz1, dy1]; done), by first | (simp [go_sem]; done) | with_reducible exact hold_al d1 _ _ | with_reducible exact hold_al d2 _ _ | (simp [go_sem, d1, d2, dz1, dy1]; done), by repeat (first | with_reducible exact Below.refl _ _ | with_reducible refine bl_alloc ?_ _ | with_reducible refine bl_drewN ?_ _ | with_reducible refine bl_drew ?_ | (with_reducible refine bl_set ?_ ?_ _; rotate_left; focus (first | (simp; done) | (simp; omega) | omega)) | with_reducible refine below_step ?_ (Bw.below _) | with_reducible refine below_step ?_ (by assumption))⟩ ?_
    rintro V3 ⟨hq1, hq2, hq3, hq4, hWq⟩ gq
    have q1 := Bw.hold hq1
    have q2 := Bw.hold hq2
    have q3 := Bw.hold hq3
    have q4 := Bw.hold hq4
    have qz1 := fun g : Bw V3 => cell_lt (q1 g)
    have qy1 := fun g : Bw V3 => Nat.le_of_lt (qz1 g)
    have qz3 := fun g : Bw V3 => cell_lt (q3 g)
    have qy3 := fun g : Bw V3 => Nat.le_of_lt (qz3 g)
    clear hq1 hq2 hq3 hq4
    clear d1 d2 dz1 dy1
    refine (awake3 _).mono ?_
    rintro e_g4 w_g4 ⟨rfl, hb_g4⟩
    obtain ⟨g4, rfl⟩ := gq.next hb_g4
    clear hb_g4
    go_wp2_with fail
    go_ret
    exact ⟨rfl, by repeat (first | with_reducible exact Below.refl _ _ | with_reducible refine bl_alloc ?_ _ | with_reducible refine bl_drewN ?_ _ | with_reducible refine bl_drew ?_ | (with_reducible refine bl_set ?_ ?_ _; rotate_left; focus (first | (simp; done) | (simp; omega) | omega)) | with_reducible refine below_step ?_ (Bw.below _) | with_reducible refine below_step ?_ (by assumption))⟩
/-! THE STATEMENT PlaneMoved -/
section
open Go.ChangeShapes Go.WideShapes Go.ChangeAt Go.RowKit Go.Joins
set_option linter.unusedVariables false
set_option maxRecDepth 100000 in
theorem planeMoved_lifted (os : Os) (started : os.Started) (H : Type) (enc : TypeId × Value → H) :
    ReturnsInHanded {} Try.checked os 4 .any (Rows.planeMovedSpec.pre6 enc Try.prog Try.f4 Rows.planeMovedRow.domain false) (Rows.planeMovedSpec.post enc Try.prog Try.f4 false true false false) := by
  refine returnsInHanded_of_change (C := Try.checked) (show ownKnob Try.prog.godebug = none by kernel_rfl) started (by kernel_rfl) Try.func4
    (ChangeSpec.witness6 (enc := enc) (C := Try.checked) false ⟨#[], #[.int .i64 0, .int .i64 0, .int .i64 0, .int .i64 0], []⟩ 8 (by kernel_rfl) (by kernel_rfl) (by kernel_rfl) (by kernel_rfl)) ?_
  intro W base args ds gs before hval0 hW hcnd _
  have hval : ∀ (j : Nat) t v, Try.f4.params[j]? = some t → args[j]? = some v → Value.okWide Try.prog W .any base t v := hval0
  have hW' := hW
  obtain ⟨p, q, hA0, hV, rfl, hfz, hnd⟩ := hW
  have hA : DataW.TrodAll enc Try.prog W 0 (fun _ => true) true Try.f4.params.toList args.toList ds p := hA0
  rw [Try.params4] at hA hval
  obtain ⟨v0, vs0, d0, ds0, p0, q0, hargs, rfl, rfl, h0, r0⟩ := trodAll_cons hA
  obtain ⟨v1, vs1, d1, ds1, p1, q1, rfl, rfl, rfl, h1, r1⟩ := trodAll_cons r0
  obtain ⟨v2, vs2, d2, ds2, p2, q2, rfl, rfl, rfl, h2, r2⟩ := trodAll_cons r1
  obtain ⟨v3, vs3, d3, ds3, p3, q3, rfl, rfl, rfl, h3, r3⟩ := trodAll_cons r2
  obtain ⟨rfl, rfl, rfl⟩ := trodAll_nil r3
  obtain rfl : args = #[v0, v1, v2, v3] := by cases args; simp_all
  obtain ⟨rfl, rfl⟩ := trodVars_none hV
  obtain ⟨x, rfl, rfl, rfl, wf_x⟩ := open_int Try.underlying2 (hval 0 2 v0 rfl rfl) h0
  obtain ⟨y, rfl, rfl, rfl, wf_y⟩ := open_int Try.underlying2 (hval 1 2 v1 rfl rfl) h1
  obtain ⟨a, rfl, rfl, rfl, wf_a⟩ := open_int Try.underlying2 (hval 2 2 v2 rfl rfl) h2
  obtain ⟨b, rfl, rfl, rfl, wf_b⟩ := open_int Try.underlying2 (hval 3 2 v3 rfl rfl) h3
  clear hA0 hval0
  simp only [List.append_nil] at hW'
  refine (planemoved_walk x y a b (wf_i64 wf_x).1 (wf_i64 wf_x).2 (wf_i64 wf_y).1 (wf_i64 wf_y).2 (wf_i64 wf_a).1 (wf_i64 wf_a).2 (wf_i64 wf_b).1 (wf_i64 wf_b).2 W).mono fun e W' ⟨he, hb⟩ => ?_
  subst he
  exact ⟨_, rfl, post_of_below (pa := []) (pv := []) hW' (fun _ _ _ => (trodAll_cons_mk (shut_bool Try.underlying4 _) trodAll_mk0)) (fun sp _ => (trodAll_cons_mk (shut_int Try.underlying2 wf_x) (trodAll_cons_mk (shut_int Try.underlying2 wf_y) (trodAll_cons_mk (shut_int Try.underlying2 wf_a) (trodAll_cons_mk (shut_int Try.underlying2 wf_b) trodAll_mk0))))) (fun _ _ => rfl) rfl hb
    (ok_one (by kernel_rfl) rfl (okWide_bool_mk Try.underlying4 _))⟩
theorem planeMoved_holds : Rows.PlaneMovedSaid :=
  OpenClaim.holds_of_wide 4 Try.f4 rfl rfl rfl rfl rfl rfl rfl ⟨rfl, rfl, rfl, rfl, rfl⟩ rfl rfl rfl rfl rfl (by kernel_rfl) Try.func4 (by kernel_rfl)
    (of_decide_eq_true (by kernel_rfl)) (by unfold Func.isWrapper; first | (rw [if_pos (by decide +kernel)]; kernel_rfl) | (rw [if_neg (by decide +kernel)]; exact ⟨rfl, rfl⟩))
    (fun os started H enc _ => planeMoved_lifted os started H enc)
end
#print axioms planeMoved_holds
end Go.Proofs.Ytccbcehpoohgpaa

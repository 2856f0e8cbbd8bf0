/- PlaneBack and PlaneStraight: a centre that lies in the world is nearest to itself. No condition. -/
import Derived.Test.YtccbcehpoohgpaaRow
import Derived.Test.YtccbcehpoohgpaaCentre
namespace Go.Proofs.Ytccbcehpoohgpaa
open Go.RowKit
set_option linter.unusedSimpArgs false
set_option linter.unusedVariables false
theorem cj_p7 : ∀ k : Nat, k < 13 → -(2 * p7 k) ≤ cjA k ∧ cjA k ≤ 2 * p7 k ∧ -(2 * p7 k) ≤ cjB k ∧ cjB k ≤ 2 * p7 k := by decide
theorem bt_norm : ∀ k : Nat, k < 13 → (bt k).1 * (bt k).1 + (bt k).1 * (bt k).2 + (bt k).2 * (bt k).2 = p7 k := by decide
theorem quo_le (x d M : Int) (hd : 1 ≤ d) (h1 : -(M * d) ≤ x) (h2 : x ≤ M * d) : -M ≤ x / d ∧ x / d ≤ M :=
  ⟨Int.le_ediv_of_mul_le (by omega) (by rw [Int.neg_mul]; exact h1), Int.ediv_le_of_le_mul (by omega) h2⟩
theorem near_tame (x y : Int) (k : Nat) (hk : k < 13) (h1 : 0 ≤ x) (h2 : x < 1073741824) (h3 : 0 ≤ y) (h4 : y < 1073741824) :
    -140000001 ≤ nearA x y k ∧ nearA x y k ≤ 140000001 ∧ -140000001 ≤ nearB x y k ∧ nearB x y k ≤ 140000001 := by
  obtain ⟨c1, c2, c3, c4⟩ := cj_p7 k hk
  obtain ⟨p1, p2⟩ := p7_small k hk
  have m1 := mul_bd (45 * x - 26 * y) (cjA k) 48318382080 (2 * p7 k) (by omega) (by omega) c1 c2
  have m2 := mul_bd (45 * x - 26 * y) (cjB k) 48318382080 (2 * p7 k) (by omega) (by omega) c3 c4
  have m3 := mul_bd (52 * y) (cjA k) 55834574848 (2 * p7 k) (by omega) (by omega) c1 c2
  have m4 := mul_bd (52 * y) (cjB k) 55834574848 (2 * p7 k) (by omega) (by omega) c3 c4
  have q1 := quo_le (nrX x y k) (2340 * p7 k) 140000000 (by omega) (by unfold nrX; omega) (by unfold nrX; omega)
  have q2 := quo_le (nrY x y k) (2340 * p7 k) 140000000 (by omega) (by unfold nrY; omega) (by unfold nrY; omega)
  have r := rat_bd (nrX x y k % (2340 * p7 k)) (nrY x y k % (2340 * p7 k)) (2340 * p7 k) 3
  unfold nearA nearB rdA rdB
  omega
/-- A centre is nearest to itself. -/
theorem near_centre (a b : Int) (k : Nat) (hk : k < 13) : nearA (ceX a b k) (ceY a b k) k = a ∧ nearB (ceX a b k) (ceY a b k) k = b := by
  have n := bt_norm k hk
  have p := p7_small k hk
  have e1 : nrX (ceX a b k) (ceY a b k) k = 2340 * p7 k * a := by
    rw [← n]; unfold nrX ceX ceY plA plB cjA cjB; grind
  have e2 : nrY (ceX a b k) (ceY a b k) k = 2340 * p7 k * b := by
    rw [← n]; unfold nrY ceX ceY plA plB cjA cjB; grind
  unfold nearA nearB
  rw [e1, e2]
  exact rd_whole (2340 * p7 k) a b (by omega)
/-- A size made of a number. -/
theorem res_of (r : Int) : ∃ K : Nat, K < 13 ∧ (r.tmod 13 + 13).tmod 13 = 12 - (K : Int) := by
  have h := tmod_bd r 13 (by omega)
  have e : (r.tmod 13 + 13).tmod 13 = (r.tmod 13 + 13) % 13 := Int.tmod_eq_emod_of_nonneg (by omega)
  exact ⟨(12 - (r.tmod 13 + 13).tmod 13).toNat, by omega, by omega⟩
set_option maxRecDepth 100000 in
set_option maxHeartbeats 1000000 in
theorem planeback_walk (x y r : Int) (hx : -9223372036854775808 ≤ x) (hx' : x ≤ 9223372036854775807) (hy : -9223372036854775808 ≤ y) (hy' : y ≤ 9223372036854775807) (hr : -9223372036854775808 ≤ r) (hr' : r ≤ 9223372036854775807) (w : World) : Calls Try.prog 7 #[.int .i64 x, .int .i64 y, .int .i64 r] w fun e w' => e = .returned (.bool true) ∧ Below w.heap.size w w' := by
  have PT := Lib.hid (law3_point x y hx hx' hy hy')
  obtain ⟨K, hK, hr0⟩ := res_of r
  obtain ⟨t1, t2⟩ := tmod_bd r 13 (by omega)
  obtain ⟨R, hR⟩ : ∃ R : Int, R = 12 - (K : Int) := ⟨_, rfl⟩
  obtain ⟨u1, u2⟩ := ptV_bd x
  obtain ⟨u3, u4⟩ := ptV_bd y
  have N1 := Lib.hid (plane_near (ptV x) (ptV y) R K hK (by omega) (pt_wd x y))
  obtain ⟨b1, b2, b3, b4⟩ := near_tame (ptV x) (ptV y) K hK u1 u2 u3 u4
  rw [← hR] at hr0
  have hk : 12 - R = (K : Int) := by omega
  clear hR
  generalize ptV x = X at *
  generalize ptV y = Y at *
  generalize nearA X Y K = za at *
  generalize nearB X Y K = zb at *
  have CE := Lib.hid (plane_centre za zb R K hK (by omega) (decide_eq_true (by omega)))
  have nc := near_centre za zb K hK
  have O := plane_ok (ceX za zb K) (ceY za zb K)
  rcases hd : wdB (ceX za zb K) (ceY za zb K) with _ | _
  · rw [hd] at O
    have HO := Lib.hid O
    clear O hd nc
    generalize ceX za zb K = cx at *
    generalize ceY za zb K = cy at *
    go_enter Try.func7, Try.ntmps7
    go_wp2_with fail
    refine (PT.out _).mono ?_
    rintro e w1 ⟨rfl, rfl⟩
    go_wp2_with fail
    refine calls_start (fun V => Below w.heap.size w V) (by repeat (first | with_reducible exact Below.refl _ _ | with_reducible refine bl_alloc ?_ _ | with_reducible refine bl_drewN ?_ _ | with_reducible refine bl_drew ?_ | (with_reducible refine bl_set ?_ ?_ _; rotate_left; focus (first | (simp; done) | (simp; omega) | omega)) | with_reducible refine below_step ?_ (Bw.below _) | with_reducible refine below_step ?_ (by assumption))) ?_
    rintro V hWc gc
    refine (N1.out _).mono ?_
    rintro e_g2 w_g2 ⟨rfl, hb_g2⟩
    obtain ⟨g2, rfl⟩ := gc.next hb_g2
    clear hb_g2
    go_wp2_with fail
    refine calls_start (fun V2 => V2.cell? ⟨g2.out.heap.size, 0, none⟩ = some (.int .i64 za) ∧ V2.cell? ⟨g2.out.heap.size, 1, none⟩ = some (.int .i64 zb) ∧ Below w.heap.size w V2) ⟨by first | (simp [go_sem]; done), by first | (simp [go_sem]; done), by repeat (first | with_reducible exact Below.refl _ _ | with_reducible refine bl_alloc ?_ _ | with_reducible refine bl_drewN ?_ _ | with_reducible refine bl_drew ?_ | (with_reducible refine bl_set ?_ ?_ _; rotate_left; focus (first | (simp; done) | (simp; omega) | omega)) | with_reducible refine below_step ?_ (Bw.below _) | with_reducible refine below_step ?_ (by assumption))⟩ ?_
    rintro V2 ⟨hd1, hd2, hWd⟩ gd
    have d1 := Bw.hold hd1
    have d2 := Bw.hold hd2
    have dz1 := fun g : Bw V2 => cell_lt (d1 g)
    have dy1 := fun g : Bw V2 => Nat.le_of_lt (dz1 g)
    clear hd1 hd2
    refine (CE.out _).mono ?_
    rintro e_g3 w_g3 ⟨rfl, hb_g3⟩
    obtain ⟨g3, rfl⟩ := gd.next hb_g3
    clear hb_g3
    go_wp2_with fail
    refine (HO.out _).mono ?_
    rintro e w1 ⟨rfl, rfl⟩
    go_wp2_with fail
    refine (awake3 _).mono ?_
    rintro e_g4 w_g4 ⟨rfl, hb_g4⟩
    obtain ⟨g4, rfl⟩ := g3.next hb_g4
    clear hb_g4
    go_wp2_with fail
    go_ret
    exact ⟨rfl, by repeat (first | with_reducible exact Below.refl _ _ | with_reducible refine bl_alloc ?_ _ | with_reducible refine bl_drewN ?_ _ | with_reducible refine bl_drew ?_ | (with_reducible refine bl_set ?_ ?_ _; rotate_left; focus (first | (simp; done) | (simp; omega) | omega)) | with_reducible refine below_step ?_ (Bw.below _) | with_reducible refine below_step ?_ (by assumption))⟩
  · rw [hd] at O
    have HO := Lib.hid O
    have NQ := plane_near (ceX za zb K) (ceY za zb K) R K hK (by omega) hd
    rw [nc.1, nc.2] at NQ
    have N2 := Lib.hid NQ
    clear O hd nc NQ
    generalize ceX za zb K = cx at *
    generalize ceY za zb K = cy at *
    go_enter Try.func7, Try.ntmps7
    go_wp2_with fail
    refine (PT.out _).mono ?_
    rintro e w1 ⟨rfl, rfl⟩
    go_wp2_with fail
    refine calls_start (fun V => Below w.heap.size w V) (by repeat (first | with_reducible exact Below.refl _ _ | with_reducible refine bl_alloc ?_ _ | with_reducible refine bl_drewN ?_ _ | with_reducible refine bl_drew ?_ | (with_reducible refine bl_set ?_ ?_ _; rotate_left; focus (first | (simp; done) | (simp; omega) | omega)) | with_reducible refine below_step ?_ (Bw.below _) | with_reducible refine below_step ?_ (by assumption))) ?_
    rintro V hWc gc
    refine (N1.out _).mono ?_
    rintro e_g2 w_g2 ⟨rfl, hb_g2⟩
    obtain ⟨g2, rfl⟩ := gc.next hb_g2
    clear hb_g2
    go_wp2_with fail
    refine calls_start (fun V2 => V2.cell? ⟨g2.out.heap.size, 0, none⟩ = some (.int .i64 za) ∧ V2.cell? ⟨g2.out.heap.size, 1, none⟩ = some (.int .i64 zb) ∧ Below w.heap.size w V2) ⟨by first | (simp [go_sem]; done), by first | (simp [go_sem]; done), by repeat (first | with_reducible exact Below.refl _ _ | with_reducible refine bl_alloc ?_ _ | with_reducible refine bl_drewN ?_ _ | with_reducible refine bl_drew ?_ | (with_reducible refine bl_set ?_ ?_ _; rotate_left; focus (first | (simp; done) | (simp; omega) | omega)) | with_reducible refine below_step ?_ (Bw.below _) | with_reducible refine below_step ?_ (by assumption))⟩ ?_
    rintro V2 ⟨hd1, hd2, hWd⟩ gd
    have d1 := Bw.hold hd1
    have d2 := Bw.hold hd2
    have dz1 := fun g : Bw V2 => cell_lt (d1 g)
    have dy1 := fun g : Bw V2 => Nat.le_of_lt (dz1 g)
    clear hd1 hd2
    refine (CE.out _).mono ?_
    rintro e_g3 w_g3 ⟨rfl, hb_g3⟩
    obtain ⟨g3, rfl⟩ := gd.next hb_g3
    clear hb_g3
    go_wp2_with fail
    refine (HO.out _).mono ?_
    rintro e w1 ⟨rfl, rfl⟩
    go_wp2_with fail
    refine (N2.out _).mono ?_
    rintro e_g4 w_g4 ⟨rfl, hb_g4⟩
    obtain ⟨g4, rfl⟩ := g3.next hb_g4
    clear hb_g4
    go_wp2_with fail
    refine calls_start (fun V3 => V3.cell? ⟨g2.out.heap.size, 0, none⟩ = some (.int .i64 za) ∧ V3.cell? ⟨g2.out.heap.size, 1, none⟩ = some (.int .i64 zb) ∧ V3.cell? ⟨g4.out.heap.size, 0, none⟩ = some (.int .i64 za) ∧ V3.cell? ⟨g4.out.heap.size, 1, none⟩ = some (.int .i64 zb) ∧ Below w.heap.size w V3) ⟨by first | (simp [go_sem]; done) | with_reducible exact hold_al d1 _ _ | with_reducible exact hold_al d2 _ _ | (simp [go_sem, d1, d2, dz1, dy1]; done), by first | (simp [go_sem]; done) | with_reducible exact hold_al d1 _ _ | with_reducible exact hold_al d2 _ _ | (simp [go_sem, d1, d2, dz1, dy1]; done), by first | (simp [go_sem]; done) | with_reducible exact hold_al d1 _ _ | with_reducible exact hold_al d2 _ _ | (simp [go_sem, d1, d2, dz1, dy1]; done), by first | (simp [go_sem]; done) | with_reducible exact hold_al d1 _ _ | with_reducible exact hold_al d2 _ _ | (simp [go_sem, d1, d2, dz1, dy1]; done), by repeat (first | with_reducible exact Below.refl _ _ | with_reducible refine bl_alloc ?_ _ | with_reducible refine bl_drewN ?_ _ | with_reducible refine bl_drew ?_ | (with_reducible refine bl_set ?_ ?_ _; rotate_left; focus (first | (simp; done) | (simp; omega) | omega)) | with_reducible refine below_step ?_ (Bw.below _) | with_reducible refine below_step ?_ (by assumption))⟩ ?_
    rintro V3 ⟨hq1, hq2, hq3, hq4, hWq⟩ gq
    have q1 := Bw.hold hq1
    have q2 := Bw.hold hq2
    have q3 := Bw.hold hq3
    have q4 := Bw.hold hq4
    have qz1 := fun g : Bw V3 => cell_lt (q1 g)
    have qy1 := fun g : Bw V3 => Nat.le_of_lt (qz1 g)
    have qz3 := fun g : Bw V3 => cell_lt (q3 g)
    have qy3 := fun g : Bw V3 => Nat.le_of_lt (qz3 g)
    clear hq1 hq2 hq3 hq4
    clear d1 d2 dz1 dy1
    refine (awake3 _).mono ?_
    rintro e_g5 w_g5 ⟨rfl, hb_g5⟩
    obtain ⟨g5, rfl⟩ := gq.next hb_g5
    clear hb_g5
    go_wp2_with fail
    go_ret
    exact ⟨rfl, by repeat (first | with_reducible exact Below.refl _ _ | with_reducible refine bl_alloc ?_ _ | with_reducible refine bl_drewN ?_ _ | with_reducible refine bl_drew ?_ | (with_reducible refine bl_set ?_ ?_ _; rotate_left; focus (first | (simp; done) | (simp; omega) | omega)) | with_reducible refine below_step ?_ (Bw.below _) | with_reducible refine below_step ?_ (by assumption))⟩
/-! THE STATEMENT PlaneBack -/
section
open Go.ChangeShapes Go.WideShapes Go.ChangeAt Go.RowKit Go.Joins
set_option linter.unusedVariables false
set_option maxRecDepth 100000 in
theorem planeBack_lifted (os : Os) (started : os.Started) (H : Type) (enc : TypeId × Value → H) :
    ReturnsInHanded {} Try.checked os 7 .any (Rows.planeBackSpec.pre6 enc Try.prog Try.f7 Rows.planeBackRow.domain false) (Rows.planeBackSpec.post enc Try.prog Try.f7 false true false false) := by
  refine returnsInHanded_of_change (C := Try.checked) (show ownKnob Try.prog.godebug = none by kernel_rfl) started (by kernel_rfl) Try.func7
    (ChangeSpec.witness6 (enc := enc) (C := Try.checked) false ⟨#[], #[.int .i64 0, .int .i64 0, .int .i64 0], []⟩ 8 (by kernel_rfl) (by kernel_rfl) (by kernel_rfl) (by kernel_rfl)) ?_
  intro W base args ds gs before hval0 hW hcnd _
  have hval : ∀ (j : Nat) t v, Try.f7.params[j]? = some t → args[j]? = some v → Value.okWide Try.prog W .any base t v := hval0
  have hW' := hW
  obtain ⟨p, q, hA0, hV, rfl, hfz, hnd⟩ := hW
  have hA : DataW.TrodAll enc Try.prog W 0 (fun _ => true) true Try.f7.params.toList args.toList ds p := hA0
  rw [Try.params7] at hA hval
  obtain ⟨v0, vs0, d0, ds0, p0, q0, hargs, rfl, rfl, h0, r0⟩ := trodAll_cons hA
  obtain ⟨v1, vs1, d1, ds1, p1, q1, rfl, rfl, rfl, h1, r1⟩ := trodAll_cons r0
  obtain ⟨v2, vs2, d2, ds2, p2, q2, rfl, rfl, rfl, h2, r2⟩ := trodAll_cons r1
  obtain ⟨rfl, rfl, rfl⟩ := trodAll_nil r2
  obtain rfl : args = #[v0, v1, v2] := by cases args; simp_all
  obtain ⟨rfl, rfl⟩ := trodVars_none hV
  obtain ⟨x, rfl, rfl, rfl, wf_x⟩ := open_int Try.underlying2 (hval 0 2 v0 rfl rfl) h0
  obtain ⟨y, rfl, rfl, rfl, wf_y⟩ := open_int Try.underlying2 (hval 1 2 v1 rfl rfl) h1
  obtain ⟨r, rfl, rfl, rfl, wf_r⟩ := open_int Try.underlying3 (hval 2 3 v2 rfl rfl) h2
  clear hA0 hval0
  simp only [List.append_nil] at hW'
  refine (planeback_walk x y r (wf_i64 wf_x).1 (wf_i64 wf_x).2 (wf_i64 wf_y).1 (wf_i64 wf_y).2 (wf_i64 wf_r).1 (wf_i64 wf_r).2 W).mono fun e W' ⟨he, hb⟩ => ?_
  subst he
  exact ⟨_, rfl, post_of_below (pa := []) (pv := []) hW' (fun _ _ _ => (trodAll_cons_mk (shut_bool Try.underlying4 _) trodAll_mk0)) (fun sp _ => (trodAll_cons_mk (shut_int Try.underlying2 wf_x) (trodAll_cons_mk (shut_int Try.underlying2 wf_y) (trodAll_cons_mk (shut_int Try.underlying3 wf_r) trodAll_mk0)))) (fun _ _ => rfl) rfl hb
    (ok_one (by kernel_rfl) rfl (okWide_bool_mk Try.underlying4 _))⟩
theorem planeBack_holds : Rows.PlaneBackSaid :=
  OpenClaim.holds_of_wide 7 Try.f7 rfl rfl rfl rfl rfl rfl rfl ⟨rfl, rfl, rfl, rfl, rfl⟩ rfl rfl rfl rfl rfl (by kernel_rfl) Try.func7 (by kernel_rfl)
    (of_decide_eq_true (by kernel_rfl)) (by unfold Func.isWrapper; first | (rw [if_pos (by decide +kernel)]; kernel_rfl) | (rw [if_neg (by decide +kernel)]; exact ⟨rfl, rfl⟩))
    (fun os started H enc _ => planeBack_lifted os started H enc)
end
#print axioms planeBack_holds
end Go.Proofs.Ytccbcehpoohgpaa

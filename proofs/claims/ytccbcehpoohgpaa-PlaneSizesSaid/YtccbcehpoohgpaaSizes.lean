/- PlaneSizes: each size's centres are some of the next finer one's. No condition. -/
import Derived.Test.YtccbcehpoohgpaaRow
import Derived.Test.YtccbcehpoohgpaaCentre
namespace Go.Proofs.Ytccbcehpoohgpaa
open Go.RowKit
set_option linter.unusedSimpArgs false
set_option linter.unusedVariables false
theorem bt_succ (k : Nat) : (bt (k + 1)).1 = 2 * (bt k).1 - (bt k).2 ∧ (bt (k + 1)).2 = (bt k).1 + 3 * (bt k).2 := by
  simp [bt]
theorem pl_down (a b : Int) (k : Nat) : plA (2 * a - b) (a + 3 * b) k = plA a b (k + 1) ∧ plB (2 * a - b) (a + 3 * b) k = plB a b (k + 1) := by
  obtain ⟨e1, e2⟩ := bt_succ k
  unfold plA plB
  rw [e1, e2]
  constructor <;> grind
theorem ce_down (a b : Int) (k : Nat) : ceX (2 * a - b) (a + 3 * b) k = ceX a b (k + 1) ∧ ceY (2 * a - b) (a + 3 * b) k = ceY a b (k + 1) := by
  obtain ⟨e1, e2⟩ := pl_down a b k
  unfold ceX ceY
  rw [e1, e2]
  exact ⟨rfl, rfl⟩
theorem res12_of (r : Int) : ∃ K : Nat, K < 12 ∧ (r.tmod 12 + 12).tmod 12 = 11 - (K : Int) := by
  have h := tmod_bd r 12 (by omega)
  have e : (r.tmod 12 + 12).tmod 12 = (r.tmod 12 + 12) % 12 := Int.tmod_eq_emod_of_nonneg (by omega)
  exact ⟨(11 - (r.tmod 12 + 12).tmod 12).toNat, by omega, by omega⟩
set_option maxRecDepth 100000 in
set_option maxHeartbeats 1000000 in
theorem planesizes_walk (a b r : Int) (ha : -9223372036854775808 ≤ a) (ha' : a ≤ 9223372036854775807) (hb : -9223372036854775808 ≤ b) (hb' : b ≤ 9223372036854775807) (hr : -9223372036854775808 ≤ r) (hr' : r ≤ 9223372036854775807) (w : World) : Calls Try.prog 5 #[.agg #[.int .i64 a, .int .i64 b], .int .i64 r] w fun e w' => e = .returned (.bool true) ∧ Below w.heap.size w w' := by
  obtain ⟨K, hK, hr0⟩ := res12_of r
  obtain ⟨t1, t2⟩ := tmod_bd r 12 (by omega)
  obtain ⟨t3, t4⟩ := tmod_bd a 1048576 (by omega)
  obtain ⟨t5, t6⟩ := tmod_bd b 1048576 (by omega)
  generalize hA : a.tmod 1048576 = A1 at *
  generalize hB : b.tmod 1048576 = B1 at *
  obtain ⟨R, hR⟩ : ∃ R : Int, R = 11 - (K : Int) := ⟨_, rfl⟩
  rw [← hR] at hr0
  have hk : 12 - R = ((K + 1 : Nat) : Int) := by omega
  have hk2 : 12 - (R + 1) = (K : Int) := by omega
  have hR1 : 0 ≤ R := by omega
  have hR2 : R ≤ 11 := by omega
  clear hR
  have ML := Lib.hid (ref_mul_fit A1 B1 2 1 (2 * A1 - B1) (A1 + 3 * B1) (by omega) (by omega) (by omega) (by omega) (by omega) (by omega) (by omega) (by omega) (by omega) (by omega) (by omega) (by omega) (by omega) (by omega))
  have CE := Lib.hid (plane_centre A1 B1 R (K + 1) (by omega) hk (decide_eq_true (by omega)))
  have CQ := plane_centre (2 * A1 - B1) (A1 + 3 * B1) (R + 1) K (by omega) hk2 (decide_eq_true (by omega))
  rw [(ce_down A1 B1 K).1, (ce_down A1 B1 K).2] at CQ
  have CD := Lib.hid CQ
  have W1 := Lib.hid (plane_width R (K + 1) (by omega) hk)
  have W2 := Lib.hid (plane_width (R + 1) K (by omega) hk2)
  have W3 := Lib.hid (plane_width_no 13 (by decide))
  have W4 := Lib.hid (plane_width_no (-1) (by decide))
  obtain ⟨p1, p2⟩ := p7_small K (by omega)
  have e7 : 169 * p7 (K + 1) = 7 * (169 * p7 K) := by
    have : p7 (K + 1) = p7 K * 7 := rfl
    rw [this]; omega
  rw [e7] at W1
  clear CQ hk hk2 e7 ha ha' hb hb' hr hr'
  generalize p7 K = p at *
  generalize ceX A1 B1 (K + 1) = cx at *
  generalize ceY A1 B1 (K + 1) = cy at *
  go_enter Try.func5, Try.ntmps5
  go_wp2_with fail
  refine calls_start (fun V => V.cell? ⟨w.heap.size, 0, none⟩ = some (.int .i64 A1) ∧ V.cell? ⟨w.heap.size, 1, none⟩ = some (.int .i64 B1) ∧ Below w.heap.size w V) ⟨by first | (simp [go_sem]; done), by first | (simp [go_sem]; done), by repeat (first | with_reducible exact Below.refl _ _ | with_reducible refine bl_alloc ?_ _ | with_reducible refine bl_drewN ?_ _ | with_reducible refine bl_drew ?_ | (with_reducible refine bl_set ?_ ?_ _; rotate_left; focus (first | (simp; done) | (simp; omega) | omega)) | with_reducible refine below_step ?_ (Bw.below _) | with_reducible refine below_step ?_ (by assumption))⟩ ?_
  rintro V ⟨hc1, hc2, hWc⟩ gc
  have c1 := Bw.hold hc1
  have c2 := Bw.hold hc2
  have cz1 := fun g : Bw V => cell_lt (c1 g)
  have cy1 := fun g : Bw V => Nat.le_of_lt (cz1 g)
  clear hc1 hc2
  refine (ML.out _).mono ?_
  rintro e_g2 w_g2 ⟨rfl, hb_g2⟩
  obtain ⟨g2, rfl⟩ := gc.next hb_g2
  clear hb_g2
  go_wp2_with fail
  refine calls_start (fun V2 => V2.cell? ⟨w.heap.size, 0, none⟩ = some (.int .i64 A1) ∧ V2.cell? ⟨w.heap.size, 1, none⟩ = some (.int .i64 B1) ∧ V2.cell? ⟨g2.out.heap.size, 0, none⟩ = some (.int .i64 (2 * A1 - B1)) ∧ V2.cell? ⟨g2.out.heap.size, 1, none⟩ = some (.int .i64 (A1 + 3 * B1)) ∧ Below w.heap.size w V2) ⟨by first | (simp [go_sem]; done) | with_reducible exact hold_al c1 _ _ | with_reducible exact hold_al c2 _ _ | (simp [go_sem, c1, c2, cz1, cy1]; done), by first | (simp [go_sem]; done) | with_reducible exact hold_al c1 _ _ | with_reducible exact hold_al c2 _ _ | (simp [go_sem, c1, c2, cz1, cy1]; done), by first | (simp [go_sem]; done) | with_reducible exact hold_al c1 _ _ | with_reducible exact hold_al c2 _ _ | (simp [go_sem, c1, c2, cz1, cy1]; done), by first | (simp [go_sem]; done) | with_reducible exact hold_al c1 _ _ | with_reducible exact hold_al c2 _ _ | (simp [go_sem, c1, c2, cz1, cy1]; done), by repeat (first | with_reducible exact Below.refl _ _ | with_reducible refine bl_alloc ?_ _ | with_reducible refine bl_drewN ?_ _ | with_reducible refine bl_drew ?_ | (with_reducible refine bl_set ?_ ?_ _; rotate_left; focus (first | (simp; done) | (simp; omega) | omega)) | with_reducible refine below_step ?_ (Bw.below _) | with_reducible refine below_step ?_ (by assumption))⟩ ?_
  rintro V2 ⟨hd1, hd2, hd3, hd4, hWd⟩ gd
  have d1 := Bw.hold hd1
  have d2 := Bw.hold hd2
  have d3 := Bw.hold hd3
  have d4 := Bw.hold hd4
  have dz1 := fun g : Bw V2 => cell_lt (d1 g)
  have dy1 := fun g : Bw V2 => Nat.le_of_lt (dz1 g)
  have dz3 := fun g : Bw V2 => cell_lt (d3 g)
  have dy3 := fun g : Bw V2 => Nat.le_of_lt (dz3 g)
  clear hd1 hd2 hd3 hd4
  clear c1 c2 cz1 cy1
  refine (CE.out _).mono ?_
  rintro e_g3 w_g3 ⟨rfl, hb_g3⟩
  obtain ⟨g3, rfl⟩ := gd.next hb_g3
  clear hb_g3
  go_wp2_with fail
  refine (CD.out _).mono ?_
  rintro e_g4 w_g4 ⟨rfl, hb_g4⟩
  obtain ⟨g4, rfl⟩ := g3.next hb_g4
  clear hb_g4
  go_wp2_with fail
  refine (W1.out _).mono ?_
  rintro e_g5 w_g5 ⟨rfl, hb_g5⟩
  obtain ⟨g5, rfl⟩ := g4.next hb_g5
  clear hb_g5
  go_wp2_with fail
  refine (W2.out _).mono ?_
  rintro e_g6 w_g6 ⟨rfl, hb_g6⟩
  obtain ⟨g6, rfl⟩ := g5.next hb_g6
  clear hb_g6
  go_wp2_with fail
  refine (W3.out _).mono ?_
  rintro e_g7 w_g7 ⟨rfl, hb_g7⟩
  obtain ⟨g7, rfl⟩ := g6.next hb_g7
  clear hb_g7
  go_wp2_with fail
  refine (W4.out _).mono ?_
  rintro e_g8 w_g8 ⟨rfl, hb_g8⟩
  obtain ⟨g8, rfl⟩ := g7.next hb_g8
  clear hb_g8
  go_wp2_with fail
  refine (awake3 _).mono ?_
  rintro e_g9 w_g9 ⟨rfl, hb_g9⟩
  obtain ⟨g9, rfl⟩ := g8.next hb_g9
  clear hb_g9
  go_wp2_with fail
  go_ret
  exact ⟨rfl, by repeat (first | with_reducible exact Below.refl _ _ | with_reducible refine bl_alloc ?_ _ | with_reducible refine bl_drewN ?_ _ | with_reducible refine bl_drew ?_ | (with_reducible refine bl_set ?_ ?_ _; rotate_left; focus (first | (simp; done) | (simp; omega) | omega)) | with_reducible refine below_step ?_ (Bw.below _) | with_reducible refine below_step ?_ (by assumption))⟩
/-! THE STATEMENT PlaneSizes -/
section
open Go.ChangeShapes Go.WideShapes Go.ChangeAt Go.RowKit Go.Joins
set_option linter.unusedVariables false
set_option maxRecDepth 100000 in
theorem planeSizes_lifted (os : Os) (started : os.Started) (H : Type) (enc : TypeId × Value → H) :
    ReturnsInHanded {} Try.checked os 5 .any (Rows.planeSizesSpec.pre6 enc Try.prog Try.f5 Rows.planeSizesRow.domain false) (Rows.planeSizesSpec.post enc Try.prog Try.f5 false true false false) := by
  refine returnsInHanded_of_change (C := Try.checked) (show ownKnob Try.prog.godebug = none by kernel_rfl) started (by kernel_rfl) Try.func5
    (ChangeSpec.witness6 (enc := enc) (C := Try.checked) false ⟨#[], #[.agg #[.int .i64 0, .int .i64 0], .int .i64 0], []⟩ 8 (by kernel_rfl) (by kernel_rfl) (by kernel_rfl) (by kernel_rfl)) ?_
  intro W base args ds gs before hval0 hW hcnd _
  have hval : ∀ (j : Nat) t v, Try.f5.params[j]? = some t → args[j]? = some v → Value.okWide Try.prog W .any base t v := hval0
  have hW' := hW
  obtain ⟨p, q, hA0, hV, rfl, hfz, hnd⟩ := hW
  have hA : DataW.TrodAll enc Try.prog W 0 (fun _ => true) true Try.f5.params.toList args.toList ds p := hA0
  rw [Try.params5] at hA hval
  obtain ⟨v0, vs0, d0, ds0, p0, q0, hargs, rfl, rfl, h0, r0⟩ := trodAll_cons hA
  obtain ⟨v1, vs1, d1, ds1, p1, q1, rfl, rfl, rfl, h1, r1⟩ := trodAll_cons r0
  obtain ⟨rfl, rfl, rfl⟩ := trodAll_nil r1
  obtain rfl : args = #[v0, v1] := by cases args; simp_all
  obtain ⟨rfl, rfl⟩ := trodVars_none hV
  obtain ⟨c0_0, c0_1, y0_0, y0_1, m0, rfl, rfl, rfl, hy0_0, hy0_1⟩ := open_agg2 Try.underlying25 (by kernel_rfl) (show Try.prog.cellsOf 25 = 2 by kernel_rfl) (hval 0 25 v0 rfl rfl) h0
  obtain ⟨a, e0_0, rfl, wf_a⟩ := DataW.trod_int Try.underlying2 hy0_0
  obtain ⟨b, e0_1, rfl, wf_b⟩ := DataW.trod_int Try.underlying2 hy0_1
  simp at e0_0 e0_1
  subst e0_0 e0_1
  obtain ⟨r, rfl, rfl, rfl, wf_r⟩ := open_int Try.underlying3 (hval 1 3 v1 rfl rfl) h1
  clear hA0 hval0
  simp only [List.append_nil] at hW'
  refine (planesizes_walk a b r (wf_i64 wf_a).1 (wf_i64 wf_a).2 (wf_i64 wf_b).1 (wf_i64 wf_b).2 (wf_i64 wf_r).1 (wf_i64 wf_r).2 W).mono fun e W' ⟨he, hb⟩ => ?_
  subst he
  exact ⟨_, rfl, post_of_below (pa := []) (pv := []) hW' (fun _ _ _ => (trodAll_cons_mk (shut_bool Try.underlying4 _) trodAll_mk0)) (fun sp _ => (trodAll_cons_mk (shut_agg2 (y0 := (.lit (.int .i64 a), [])) (y1 := (.lit (.int .i64 b), [])) Try.underlying25 (by kernel_rfl) (show Try.prog.cellsOf 25 = 2 by kernel_rfl) ⟨1, by simp [DataW.trod, Try.underlying2, wf_a]⟩ ⟨1, by simp [DataW.trod, Try.underlying2, wf_b]⟩) (trodAll_cons_mk (shut_int Try.underlying3 wf_r) trodAll_mk0))) (fun _ _ => rfl) rfl hb
    (ok_one (by kernel_rfl) rfl (okWide_bool_mk Try.underlying4 _))⟩
theorem planeSizes_holds : Rows.PlaneSizesSaid :=
  OpenClaim.holds_of_wide 5 Try.f5 rfl rfl rfl rfl rfl rfl rfl ⟨rfl, rfl, rfl, rfl, rfl⟩ rfl rfl rfl rfl rfl (by kernel_rfl) Try.func5 (by kernel_rfl)
    (of_decide_eq_true (by kernel_rfl)) (by unfold Func.isWrapper; first | (rw [if_pos (by decide +kernel)]; kernel_rfl) | (rw [if_neg (by decide +kernel)]; exact ⟨rfl, rfl⟩))
    (fun os started H enc _ => planeSizes_lifted os started H enc)
end
#print axioms planeSizes_holds
end Go.Proofs.Ytccbcehpoohgpaa

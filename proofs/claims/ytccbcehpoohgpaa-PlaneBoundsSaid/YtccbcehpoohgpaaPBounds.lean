/- PlaneBounds: numbers of the lattice may be as great as the bounds say, and no greater; points as great as the world. No condition. -/
import Derived.Test.YtccbcehpoohgpaaRow
import Derived.Test.YtccbcehpoohgpaaHex
namespace Go.Proofs.Ytccbcehpoohgpaa
open Go.RowKit
set_option linter.unusedSimpArgs false
set_option linter.unusedVariables false
set_option maxRecDepth 100000 in
set_option maxHeartbeats 2000000 in
theorem planebounds_walk (k r : Int) (hk : -9223372036854775808 ≤ k) (hk' : k ≤ 9223372036854775807) (hr : -9223372036854775808 ≤ r) (hr' : r ≤ 9223372036854775807) (w : World) : Calls Try.prog 8 #[.int .i64 k, .int .i64 r] w fun e w' => e = .returned (.bool true) ∧ Below w.heap.size w w' := by
  obtain ⟨K, hK, hr0⟩ := res_of r
  obtain ⟨t1, t2⟩ := tmod_bd r 13 (by omega)
  obtain ⟨R, hR⟩ : ∃ R : Int, R = 12 - (K : Int) := ⟨_, rfl⟩
  rw [← hR] at hr0
  have hk0 : 12 - R = (K : Int) := by omega
  have hm : bits .and .i64 k 7 = k % 8 := i64_mask k 3 (by omega)
  have hm1 : 0 ≤ bits .and .i64 k 7 := by omega
  have hm2 : bits .and .i64 k 7 ≤ 7 := by omega
  obtain ⟨q, M1⟩ : ∃ q : Int, bits .and .i64 k 7 - 3 = q := ⟨_, rfl⟩
  have hq1 : -3 ≤ q := by omega
  have hq2 : q ≤ 4 := by omega
  clear hm hR
  obtain ⟨p, x1, x2, n1, n2, m1, m2, hp, CE, HX, NA, ND⟩ : ∃ (p : Bool) (x1 x2 n1 n2 m1 m2 : Int), decide (q ≤ 0) = p ∧
      Hid (∀ w, Calls Try.prog 20 #[.agg #[.int .i64 (1073741824 + q), .int .i64 0], .int .i64 R] w fun e w' => e = .returned (.tuple #[.int .i64 x1, .int .i64 x2, .bool p]) ∧ Below w.heap.size w w') ∧
      Hid (∀ w, Calls Try.prog 23 #[.agg #[.int .i64 0, .int .i64 (-1073741824 - q)], .int .i64 R] w fun e w' => ∃ v, e = .returned (.tuple #[v, .bool p]) ∧ Below w.heap.size w w') ∧
      Hid (∀ w, Calls Try.prog 13 #[.int .i64 (1073741823 + q), .int .i64 5, .int .i64 R] w fun e w' => e = .returned (.tuple #[.agg #[.int .i64 n1, .int .i64 n2], .bool p]) ∧ Below w.heap.size w w') ∧
      Hid (∀ w, Calls Try.prog 13 #[.int .i64 5, .int .i64 (-q), .int .i64 R] w fun e w' => e = .returned (.tuple #[.agg #[.int .i64 m1, .int .i64 m2], .bool p]) ∧ Below w.heap.size w w') := by
    by_cases h : q ≤ 0
    · exact ⟨true, _, _, _, _, _, _, decide_eq_true h, Lib.hid (plane_centre _ _ R K hK hk0 (decide_eq_true (by omega))),
        Lib.hid (fun w => (plane_hex _ _ R K hK hk0 (decide_eq_true (by omega)) w).mono fun e w' h => by obtain ⟨v, h1, _, h2⟩ := h; exact ⟨v, h1, h2⟩),
        Lib.hid (plane_near _ _ R K hK hk0 (decide_eq_true (by omega))), Lib.hid (plane_near _ _ R K hK hk0 (decide_eq_true (by omega)))⟩
    · exact ⟨false, _, _, _, _, _, _, decide_eq_false h, Lib.hid (plane_centre_no _ _ R (.inr (decide_eq_false (by omega)))),
        Lib.hid (fun w => (plane_hex_no _ _ R (.inr (decide_eq_false (by omega))) w).mono fun e w' h => ⟨_, h.1, h.2⟩),
        Lib.hid (plane_near_no _ _ R (.inl (decide_eq_false (by omega)))), Lib.hid (plane_near_no _ _ R (.inl (decide_eq_false (by omega))))⟩
  have NE := Lib.hid (plane_near_no 5 5 (R + 13) (.inr (decide_eq_false (by omega))))
  have O1 := plane_ok 0 0
  have O2 := plane_ok (-1) 0
  rw [show wdB 0 0 = true by decide] at O1
  rw [show wdB (-1) 0 = false by decide] at O2
  have P1 := Lib.hid O1
  have P2 := Lib.hid O2
  clear O1 O2 hr hr' hk hk'
  rcases p with _ | _
  all_goals
    go_enter Try.func8, Try.ntmps8
    go_wp2_with fail
    refine calls_start (fun V => Below w.heap.size w V) (by repeat (first | with_reducible exact Below.refl _ _ | with_reducible refine bl_alloc ?_ _ | with_reducible refine bl_drewN ?_ _ | with_reducible refine bl_drew ?_ | (with_reducible refine bl_set ?_ ?_ _; rotate_left; focus (first | (simp; done) | (simp; omega) | omega)) | with_reducible refine below_step ?_ (Bw.below _) | with_reducible refine below_step ?_ (by assumption))) ?_
    rintro V hWc gc
    refine (CE.out _).mono ?_
    rintro e_g2 w_g2 ⟨rfl, hb_g2⟩
    obtain ⟨g2, rfl⟩ := gc.next hb_g2
    clear hb_g2
    go_wp2_with fail
    refine (HX.out _).mono ?_
    rintro e_h w_h ⟨v, rfl, hb_h⟩
    obtain ⟨g3, rfl⟩ := g2.next hb_h
    clear hb_h
    go_wp2_with fail
    refine (NA.out _).mono ?_
    rintro e_g4 w_g4 ⟨rfl, hb_g4⟩
    obtain ⟨g4, rfl⟩ := g3.next hb_g4
    clear hb_g4
    go_wp2_with fail
    refine calls_start (fun V2 => Below w.heap.size w V2) (by repeat (first | with_reducible exact Below.refl _ _ | with_reducible refine bl_alloc ?_ _ | with_reducible refine bl_drewN ?_ _ | with_reducible refine bl_drew ?_ | (with_reducible refine bl_set ?_ ?_ _; rotate_left; focus (first | (simp; done) | (simp; omega) | omega)) | with_reducible refine below_step ?_ (Bw.below _) | with_reducible refine below_step ?_ (by assumption))) ?_
    rintro V2 hWd gd
    refine (ND.out _).mono ?_
    rintro e_g5 w_g5 ⟨rfl, hb_g5⟩
    obtain ⟨g5, rfl⟩ := gd.next hb_g5
    clear hb_g5
    go_wp2_with fail
    refine calls_start (fun V3 => Below w.heap.size w V3) (by repeat (first | with_reducible exact Below.refl _ _ | with_reducible refine bl_alloc ?_ _ | with_reducible refine bl_drewN ?_ _ | with_reducible refine bl_drew ?_ | (with_reducible refine bl_set ?_ ?_ _; rotate_left; focus (first | (simp; done) | (simp; omega) | omega)) | with_reducible refine below_step ?_ (Bw.below _) | with_reducible refine below_step ?_ (by assumption))) ?_
    rintro V3 hWf gf
    refine (NE.out _).mono ?_
    rintro e_g6 w_g6 ⟨rfl, hb_g6⟩
    obtain ⟨g6, rfl⟩ := gf.next hb_g6
    clear hb_g6
    go_wp2_with fail
    refine (P1.out _).mono ?_
    rintro e w1 ⟨rfl, rfl⟩
    go_wp2_with fail
    refine (P2.out _).mono ?_
    rintro e w1 ⟨rfl, rfl⟩
    go_wp2_with fail
    refine calls_start (fun V4 => Below w.heap.size w V4) (by repeat (first | with_reducible exact Below.refl _ _ | with_reducible refine bl_alloc ?_ _ | with_reducible refine bl_drewN ?_ _ | with_reducible refine bl_drew ?_ | (with_reducible refine bl_set ?_ ?_ _; rotate_left; focus (first | (simp; done) | (simp; omega) | omega)) | with_reducible refine below_step ?_ (Bw.below _) | with_reducible refine below_step ?_ (by assumption))) ?_
    rintro V4 hWj gj
    refine (awake3 _).mono ?_
    rintro e_g7 w_g7 ⟨rfl, hb_g7⟩
    obtain ⟨g7, rfl⟩ := gj.next hb_g7
    clear hb_g7
    go_wp2_with fail
    go_ret
    exact ⟨rfl, by repeat (first | with_reducible exact Below.refl _ _ | with_reducible refine bl_alloc ?_ _ | with_reducible refine bl_drewN ?_ _ | with_reducible refine bl_drew ?_ | (with_reducible refine bl_set ?_ ?_ _; rotate_left; focus (first | (simp; done) | (simp; omega) | omega)) | with_reducible refine below_step ?_ (Bw.below _) | with_reducible refine below_step ?_ (by assumption))⟩
/-! THE STATEMENT PlaneBounds -/
section
open Go.ChangeShapes Go.WideShapes Go.ChangeAt Go.RowKit Go.Joins
set_option linter.unusedVariables false
set_option maxRecDepth 100000 in
theorem planeBounds_lifted (os : Os) (started : os.Started) (H : Type) (enc : TypeId × Value → H) :
    ReturnsInHanded {} Try.checked os 8 .any (Rows.planeBoundsSpec.pre6 enc Try.prog Try.f8 Rows.planeBoundsRow.domain false) (Rows.planeBoundsSpec.post enc Try.prog Try.f8 false true false false) := by
  refine returnsInHanded_of_change (C := Try.checked) (show ownKnob Try.prog.godebug = none by kernel_rfl) started (by kernel_rfl) Try.func8
    (ChangeSpec.witness6 (enc := enc) (C := Try.checked) false ⟨#[], #[.int .i64 0, .int .i64 0], []⟩ 8 (by kernel_rfl) (by kernel_rfl) (by kernel_rfl) (by kernel_rfl)) ?_
  intro W base args ds gs before hval0 hW hcnd _
  have hval : ∀ (j : Nat) t v, Try.f8.params[j]? = some t → args[j]? = some v → Value.okWide Try.prog W .any base t v := hval0
  have hW' := hW
  obtain ⟨p, q, hA0, hV, rfl, hfz, hnd⟩ := hW
  have hA : DataW.TrodAll enc Try.prog W 0 (fun _ => true) true Try.f8.params.toList args.toList ds p := hA0
  rw [Try.params8] at hA hval
  obtain ⟨v0, vs0, d0, ds0, p0, q0, hargs, rfl, rfl, h0, r0⟩ := trodAll_cons hA
  obtain ⟨v1, vs1, d1, ds1, p1, q1, rfl, rfl, rfl, h1, r1⟩ := trodAll_cons r0
  obtain ⟨rfl, rfl, rfl⟩ := trodAll_nil r1
  obtain rfl : args = #[v0, v1] := by cases args; simp_all
  obtain ⟨rfl, rfl⟩ := trodVars_none hV
  obtain ⟨k, rfl, rfl, rfl, wf_k⟩ := open_int Try.underlying2 (hval 0 2 v0 rfl rfl) h0
  obtain ⟨r, rfl, rfl, rfl, wf_r⟩ := open_int Try.underlying3 (hval 1 3 v1 rfl rfl) h1
  clear hA0 hval0
  simp only [List.append_nil] at hW'
  refine (planebounds_walk k r (wf_i64 wf_k).1 (wf_i64 wf_k).2 (wf_i64 wf_r).1 (wf_i64 wf_r).2 W).mono fun e W' ⟨he, hb⟩ => ?_
  subst he
  exact ⟨_, rfl, post_of_below (pa := []) (pv := []) hW' (fun _ _ _ => (trodAll_cons_mk (shut_bool Try.underlying4 _) trodAll_mk0)) (fun sp _ => (trodAll_cons_mk (shut_int Try.underlying2 wf_k) (trodAll_cons_mk (shut_int Try.underlying3 wf_r) trodAll_mk0))) (fun _ _ => rfl) rfl hb
    (ok_one (by kernel_rfl) rfl (okWide_bool_mk Try.underlying4 _))⟩
theorem planeBounds_holds : Rows.PlaneBoundsSaid :=
  OpenClaim.holds_of_wide 8 Try.f8 rfl rfl rfl rfl rfl rfl rfl ⟨rfl, rfl, rfl, rfl, rfl⟩ rfl rfl rfl rfl rfl (by kernel_rfl) Try.func8 (by kernel_rfl)
    (of_decide_eq_true (by kernel_rfl)) (by unfold Func.isWrapper; first | (rw [if_pos (by decide +kernel)]; kernel_rfl) | (rw [if_neg (by decide +kernel)]; exact ⟨rfl, rfl⟩))
    (fun os started H enc _ => planeBounds_lifted os started H enc)
end
#print axioms planeBounds_holds
end Go.Proofs.Ytccbcehpoohgpaa

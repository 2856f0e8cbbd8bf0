/- EisenBounds: divisors and numerators may be as great as the bounds say, and no greater. No condition. -/
import Derived.Test.YtjedegpmpdgckaaRow
import Derived.Test.YtjedegpmpdgckaaFit
import Derived.Test.YtjedegpmpdgckaaPow
import Derived.Test.YtjedegpmpdgckaaBeta
namespace Go.Proofs.Ytjedegpmpdgckaa
open Go.RowKit
set_option linter.unusedSimpArgs false
set_option linter.unusedVariables false
theorem round_yes (x y d : Int) (hx : -1152921504606846976 ≤ x) (hx' : x ≤ 1152921504606846976) (hy : -1152921504606846976 ≤ y) (hy' : y ≤ 1152921504606846976) (hd : 1 ≤ d) (hd' : d ≤ 1125899906842624) :
    ∃ a b : Int, Hid (∀ w, Calls Try.prog 22 #[.agg #[.int .i64 x, .int .i64 y], .int .i64 d] w fun e w' => e = .returned (.tuple #[.agg #[.int .i64 a, .int .i64 b], .bool true]) ∧ Below w.heap.size w w') :=
  ⟨_, _, Lib.hid (eis_round x y d hx hx' hy hy' hd hd')⟩
theorem round_not (x y d : Int) (h : d < 1 ∨ 1125899906842624 < d ∨ (x < -1152921504606846976 ∨ 1152921504606846976 < x) ∨ (y < -1152921504606846976 ∨ 1152921504606846976 < y)) :
    ∃ a b : Int, Hid (∀ w, Calls Try.prog 22 #[.agg #[.int .i64 x, .int .i64 y], .int .i64 d] w fun e w' => e = .returned (.tuple #[.agg #[.int .i64 a, .int .i64 b], .bool false]) ∧ Below w.heap.size w w') :=
  ⟨0, 0, Lib.hid (eis_round_no x y d (by
    rcases h with h | h | h | h
    · exact .inl h
    · exact .inr (.inl h)
    · exact .inr (.inr (.inl (decide_eq_false (by omega))))
    · exact .inr (.inr (.inr (decide_eq_false (by omega))))))⟩
set_option maxRecDepth 100000 in
set_option maxHeartbeats 1000000 in
/-- The walk, the answers of Round under names. -/
theorem bounds_core (k i K I a1 a2 b1 b2 c1 c2 d1 d2 : Int) (pa pb pc pd : Bool) (M1 : bits .and .i64 k 7 - 3 = K) (M2 : bits .and .i64 i 7 - 3 = I) (hm1 : 0 ≤ bits .and .i64 k 7) (hm2 : bits .and .i64 k 7 ≤ 7) (hm3 : 0 ≤ bits .and .i64 i 7) (hm4 : bits .and .i64 i 7 ≤ 7) (hk1 : -3 ≤ K) (hk2 : K ≤ 4) (hi1 : -3 ≤ I) (hi2 : I ≤ 4)
    (RA : Hid (∀ w, Calls Try.prog 22 #[.agg #[.int .i64 (1152921504606846976 + I), .int .i64 0], .int .i64 5] w fun e w' => e = .returned (.tuple #[.agg #[.int .i64 a1, .int .i64 a2], .bool pa]) ∧ Below w.heap.size w w'))
    (RB : Hid (∀ w, Calls Try.prog 22 #[.agg #[.int .i64 0, .int .i64 (-1152921504606846976 - I)], .int .i64 5] w fun e w' => e = .returned (.tuple #[.agg #[.int .i64 b1, .int .i64 b2], .bool pb]) ∧ Below w.heap.size w w'))
    (RC : Hid (∀ w, Calls Try.prog 22 #[.agg #[.int .i64 3, .int .i64 0], .int .i64 (1125899906842624 + K)] w fun e w' => e = .returned (.tuple #[.agg #[.int .i64 c1, .int .i64 c2], .bool pc]) ∧ Below w.heap.size w w'))
    (RD : Hid (∀ w, Calls Try.prog 22 #[.agg #[.int .i64 3, .int .i64 0], .int .i64 K] w fun e w' => e = .returned (.tuple #[.agg #[.int .i64 d1, .int .i64 d2], .bool pd]) ∧ Below w.heap.size w w'))
    (ea : Hid (pa = decide (I ≤ 0))) (eb : Hid (pb = decide (I ≤ 0))) (ec : Hid (pc = decide (K ≤ 0))) (ed : Hid (pd = decide (1 ≤ K))) (w : World) :
    Calls Try.prog 11 #[.int .i64 k, .int .i64 i] w fun e w' => e = .returned (.bool true) ∧ Below w.heap.size w w' := by
  have NG := Lib.hid (eis_norm_fit (bt 20).1 (bt 20).2 (p7 20) (by decide) (by decide) (by decide) (by decide) (by decide) (by decide) (by decide))
  have BG := Lib.hid (eis_beta 20 (by omega))
  have BN := Lib.hid (eis_beta_no 21 (by omega))
  have RN := Lib.hid (ref_beta_no 21 (by omega))
  have SV := Lib.hid (ref_seven 20 (by omega))
  generalize (bt 20).1 = g1 at *
  generalize (bt 20).2 = g2 at *
  generalize p7 20 = s7 at *
  go_enter Try.func11, Try.ntmps11
  go_wp2_with fail
  refine calls_start (fun W => Below w.heap.size w W) (by repeat (first | with_reducible exact Below.refl _ _ | with_reducible refine bl_alloc ?_ _ | with_reducible refine bl_drewN ?_ _ | with_reducible refine bl_drew ?_ | (with_reducible refine bl_set ?_ ?_ _; rotate_left; focus (first | (simp; done) | (simp; omega) | omega)) | with_reducible refine below_step ?_ (Bw.below _) | with_reducible refine below_step ?_ (by assumption))) ?_
  rintro W hWc gc
  refine (RA.out _).mono ?_
  rintro e_g22 w_g22 ⟨rfl, hb_g22⟩
  obtain ⟨g22, rfl⟩ := gc.next hb_g22
  clear hb_g22
  go_wp2_with fail
  refine calls_start (fun W2 => Below w.heap.size w W2) (by repeat (first | with_reducible exact Below.refl _ _ | with_reducible refine bl_alloc ?_ _ | with_reducible refine bl_drewN ?_ _ | with_reducible refine bl_drew ?_ | (with_reducible refine bl_set ?_ ?_ _; rotate_left; focus (first | (simp; done) | (simp; omega) | omega)) | with_reducible refine below_step ?_ (Bw.below _) | with_reducible refine below_step ?_ (by assumption))) ?_
  rintro W2 hWd gd
  refine (RB.out _).mono ?_
  rintro e_g3 w_g3 ⟨rfl, hb_g3⟩
  obtain ⟨g3, rfl⟩ := gd.next hb_g3
  clear hb_g3
  go_wp2_with fail
  refine calls_start (fun W3 => Below w.heap.size w W3) (by repeat (first | with_reducible exact Below.refl _ _ | with_reducible refine bl_alloc ?_ _ | with_reducible refine bl_drewN ?_ _ | with_reducible refine bl_drew ?_ | (with_reducible refine bl_set ?_ ?_ _; rotate_left; focus (first | (simp; done) | (simp; omega) | omega)) | with_reducible refine below_step ?_ (Bw.below _) | with_reducible refine below_step ?_ (by assumption))) ?_
  rintro W3 hWe ge
  refine (RC.out _).mono ?_
  rintro e_g4 w_g4 ⟨rfl, hb_g4⟩
  obtain ⟨g4, rfl⟩ := ge.next hb_g4
  clear hb_g4
  go_wp2_with fail
  refine calls_start (fun W4 => Below w.heap.size w W4) (by repeat (first | with_reducible exact Below.refl _ _ | with_reducible refine bl_alloc ?_ _ | with_reducible refine bl_drewN ?_ _ | with_reducible refine bl_drew ?_ | (with_reducible refine bl_set ?_ ?_ _; rotate_left; focus (first | (simp; done) | (simp; omega) | omega)) | with_reducible refine below_step ?_ (Bw.below _) | with_reducible refine below_step ?_ (by assumption))) ?_
  rintro W4 hWf gf
  refine (RD.out _).mono ?_
  rintro e_g5 w_g5 ⟨rfl, hb_g5⟩
  obtain ⟨g5, rfl⟩ := gf.next hb_g5
  clear hb_g5
  go_wp2_with fail
  refine calls_start (fun W5 => Below w.heap.size w W5) (by repeat (first | with_reducible exact Below.refl _ _ | with_reducible refine bl_alloc ?_ _ | with_reducible refine bl_drewN ?_ _ | with_reducible refine bl_drew ?_ | (with_reducible refine bl_set ?_ ?_ _; rotate_left; focus (first | (simp; done) | (simp; omega) | omega)) | with_reducible refine below_step ?_ (Bw.below _) | with_reducible refine below_step ?_ (by assumption))) ?_
  rintro W5 hWh gh
  refine (RN.out _).mono ?_
  rintro e_g6 w_g6 ⟨rfl, hb_g6⟩
  obtain ⟨g6, rfl⟩ := gh.next hb_g6
  clear hb_g6
  go_wp2_with fail
  refine calls_start (fun W6 => Below w.heap.size w W6) (by repeat (first | with_reducible exact Below.refl _ _ | with_reducible refine bl_alloc ?_ _ | with_reducible refine bl_drewN ?_ _ | with_reducible refine bl_drew ?_ | (with_reducible refine bl_set ?_ ?_ _; rotate_left; focus (first | (simp; done) | (simp; omega) | omega)) | with_reducible refine below_step ?_ (Bw.below _) | with_reducible refine below_step ?_ (by assumption))) ?_
  rintro W6 hWj gj
  refine (BN.out _).mono ?_
  rintro e_g7 w_g7 ⟨rfl, hb_g7⟩
  obtain ⟨g7, rfl⟩ := gj.next hb_g7
  clear hb_g7
  go_wp2_with fail
  refine calls_start (fun W7 => Below w.heap.size w W7) (by repeat (first | with_reducible exact Below.refl _ _ | with_reducible refine bl_alloc ?_ _ | with_reducible refine bl_drewN ?_ _ | with_reducible refine bl_drew ?_ | (with_reducible refine bl_set ?_ ?_ _; rotate_left; focus (first | (simp; done) | (simp; omega) | omega)) | with_reducible refine below_step ?_ (Bw.below _) | with_reducible refine below_step ?_ (by assumption))) ?_
  rintro W7 hWl gl
  refine (BG.out _).mono ?_
  rintro e_g8 w_g8 ⟨rfl, hb_g8⟩
  obtain ⟨g8, rfl⟩ := gl.next hb_g8
  clear hb_g8
  go_wp2_with fail
  refine calls_start (fun W8 => W8.cell? ⟨g8.out.heap.size, 0, none⟩ = some (.int .i64 g1) ∧ W8.cell? ⟨g8.out.heap.size, 1, none⟩ = some (.int .i64 g2) ∧ Below w.heap.size w W8) ⟨by first | (simp [go_sem]; done), by first | (simp [go_sem]; done), by repeat (first | with_reducible exact Below.refl _ _ | with_reducible refine bl_alloc ?_ _ | with_reducible refine bl_drewN ?_ _ | with_reducible refine bl_drew ?_ | (with_reducible refine bl_set ?_ ?_ _; rotate_left; focus (first | (simp; done) | (simp; omega) | omega)) | with_reducible refine below_step ?_ (Bw.below _) | with_reducible refine below_step ?_ (by assumption))⟩ ?_
  rintro W8 ⟨hm1, hm2, hWm⟩ gm
  have m1 := Bw.hold hm1
  have m2 := Bw.hold hm2
  have mz1 := fun g : Bw W8 => cell_lt (m1 g)
  have my1 := fun g : Bw W8 => Nat.le_of_lt (mz1 g)
  clear hm1 hm2
  refine (NG.out _).mono ?_
  rintro e_g9 w_g9 ⟨rfl, hb_g9⟩
  obtain ⟨g9, rfl⟩ := gm.next hb_g9
  clear hb_g9
  go_wp2_with fail
  refine (SV.out _).mono ?_
  rintro e_g10 w_g10 ⟨rfl, hb_g10⟩
  obtain ⟨g10, rfl⟩ := g9.next hb_g10
  clear hb_g10
  go_wp2_with fail
  refine (awake2 _).mono ?_
  rintro e_g11 w_g11 ⟨rfl, hb_g11⟩
  obtain ⟨g11, rfl⟩ := g10.next hb_g11
  clear hb_g11
  go_wp2_with fail
  go_ret
  exact ⟨rfl, by repeat (first | with_reducible exact Below.refl _ _ | with_reducible refine bl_alloc ?_ _ | with_reducible refine bl_drewN ?_ _ | with_reducible refine bl_drew ?_ | (with_reducible refine bl_set ?_ ?_ _; rotate_left; focus (first | (simp; done) | (simp; omega) | omega)) | with_reducible refine below_step ?_ (Bw.below _) | with_reducible refine below_step ?_ (by assumption))⟩
theorem bounds_walk (k i : Int) (hk : -9223372036854775808 ≤ k) (hk' : k ≤ 9223372036854775807) (hi : -9223372036854775808 ≤ i) (hi' : i ≤ 9223372036854775807) (w : World) : Calls Try.prog 11 #[.int .i64 k, .int .i64 i] w fun e w' => e = .returned (.bool true) ∧ Below w.heap.size w w' := by
  have M1 := i64_mask k 3 (by omega)
  have M2 := i64_mask i 3 (by omega)
  simp only [show ((2 ^ 3 - 1 : Nat) : Int) = 7 from rfl, show ((2 ^ 3 : Nat) : Int) = 8 from rfl] at M1 M2
  obtain ⟨K, hK⟩ : ∃ K, bits .and .i64 k 7 - 3 = K := ⟨_, rfl⟩
  obtain ⟨I, hI⟩ : ∃ I, bits .and .i64 i 7 - 3 = I := ⟨_, rfl⟩
  have k1 : 0 ≤ bits .and .i64 k 7 := by omega
  have k2 : bits .and .i64 k 7 ≤ 7 := by omega
  have i1 : 0 ≤ bits .and .i64 i 7 := by omega
  have i2 : bits .and .i64 i 7 ≤ 7 := by omega
  have core := fun a1 a2 b1 b2 c1 c2 d1 d2 pa pb pc pd => bounds_core k i K I a1 a2 b1 b2 c1 c2 d1 d2 pa pb pc pd hK hI k1 k2 i1 i2 (by omega) (by omega) (by omega) (by omega)
  clear M1 M2
  by_cases hi0 : I ≤ 0
  · obtain ⟨a1, a2, RA⟩ := round_yes (1152921504606846976 + I) 0 5 (by omega) (by omega) (by omega) (by omega) (by omega) (by omega)
    obtain ⟨b1, b2, RB⟩ := round_yes 0 (-1152921504606846976 - I) 5 (by omega) (by omega) (by omega) (by omega) (by omega) (by omega)
    by_cases hk0 : K ≤ 0
    · obtain ⟨c1, c2, RC⟩ := round_yes 3 0 (1125899906842624 + K) (by omega) (by omega) (by omega) (by omega) (by omega) (by omega)
      obtain ⟨d1, d2, RD⟩ := round_not 3 0 K (by omega)
      exact core a1 a2 b1 b2 c1 c2 d1 d2 true true true false RA RB RC RD (Lib.hid (decide_eq_true hi0).symm) (Lib.hid (decide_eq_true hi0).symm) (Lib.hid (decide_eq_true hk0).symm) (Lib.hid (decide_eq_false (by omega)).symm) w
    · obtain ⟨c1, c2, RC⟩ := round_not 3 0 (1125899906842624 + K) (by omega)
      obtain ⟨d1, d2, RD⟩ := round_yes 3 0 K (by omega) (by omega) (by omega) (by omega) (by omega) (by omega)
      exact core a1 a2 b1 b2 c1 c2 d1 d2 true true false true RA RB RC RD (Lib.hid (decide_eq_true hi0).symm) (Lib.hid (decide_eq_true hi0).symm) (Lib.hid (decide_eq_false hk0).symm) (Lib.hid (decide_eq_true (by omega)).symm) w
  · obtain ⟨a1, a2, RA⟩ := round_not (1152921504606846976 + I) 0 5 (by omega)
    obtain ⟨b1, b2, RB⟩ := round_not 0 (-1152921504606846976 - I) 5 (by omega)
    by_cases hk0 : K ≤ 0
    · obtain ⟨c1, c2, RC⟩ := round_yes 3 0 (1125899906842624 + K) (by omega) (by omega) (by omega) (by omega) (by omega) (by omega)
      obtain ⟨d1, d2, RD⟩ := round_not 3 0 K (by omega)
      exact core a1 a2 b1 b2 c1 c2 d1 d2 false false true false RA RB RC RD (Lib.hid (decide_eq_false hi0).symm) (Lib.hid (decide_eq_false hi0).symm) (Lib.hid (decide_eq_true hk0).symm) (Lib.hid (decide_eq_false (by omega)).symm) w
    · obtain ⟨c1, c2, RC⟩ := round_not 3 0 (1125899906842624 + K) (by omega)
      obtain ⟨d1, d2, RD⟩ := round_yes 3 0 K (by omega) (by omega) (by omega) (by omega) (by omega) (by omega)
      exact core a1 a2 b1 b2 c1 c2 d1 d2 false false false true RA RB RC RD (Lib.hid (decide_eq_false hi0).symm) (Lib.hid (decide_eq_false hi0).symm) (Lib.hid (decide_eq_false hk0).symm) (Lib.hid (decide_eq_true (by omega)).symm) w
/-! THE STATEMENT EisenBounds -/
section
open Go.ChangeShapes Go.WideShapes Go.ChangeAt Go.RowKit Go.Joins
set_option linter.unusedVariables false
set_option maxRecDepth 100000 in
theorem eisenBounds_lifted (os : Os) (started : os.Started) (H : Type) (enc : TypeId × Value → H) :
    ReturnsInHanded {} Try.checked os 11 .any (Rows.eisenBoundsSpec.pre6 enc Try.prog Try.f11 Rows.eisenBoundsRow.domain false) (Rows.eisenBoundsSpec.post enc Try.prog Try.f11 false true false false) := by
  refine returnsInHanded_of_change (C := Try.checked) (show ownKnob Try.prog.godebug = none by kernel_rfl) started (by kernel_rfl) Try.func11
    (ChangeSpec.witness6 (enc := enc) (C := Try.checked) false ⟨#[], #[.int .i64 0, .int .i64 0], []⟩ 8 (by kernel_rfl) (by kernel_rfl) (by kernel_rfl) (by kernel_rfl)) ?_
  intro W base args ds gs before hval0 hW hcnd _
  have hval : ∀ (j : Nat) t v, Try.f11.params[j]? = some t → args[j]? = some v → Value.okWide Try.prog W .any base t v := hval0
  have hW' := hW
  obtain ⟨p, q, hA0, hV, rfl, hfz, hnd⟩ := hW
  have hA : DataW.TrodAll enc Try.prog W 0 (fun _ => true) true Try.f11.params.toList args.toList ds p := hA0
  rw [Try.params11] at hA hval
  obtain ⟨v0, vs0, d0, ds0, p0, q0, hargs, rfl, rfl, h0, r0⟩ := trodAll_cons hA
  obtain ⟨v1, vs1, d1, ds1, p1, q1, rfl, rfl, rfl, h1, r1⟩ := trodAll_cons r0
  obtain ⟨rfl, rfl, rfl⟩ := trodAll_nil r1
  obtain rfl : args = #[v0, v1] := by cases args; simp_all
  obtain ⟨rfl, rfl⟩ := trodVars_none hV
  obtain ⟨k, rfl, rfl, rfl, wf_k⟩ := open_int Try.underlying2 (hval 0 2 v0 rfl rfl) h0
  obtain ⟨i, rfl, rfl, rfl, wf_i⟩ := open_int Try.underlying2 (hval 1 2 v1 rfl rfl) h1
  clear hA0 hval0
  simp only [List.append_nil] at hW'
  refine (bounds_walk k i (wf_i64 wf_k).1 (wf_i64 wf_k).2 (wf_i64 wf_i).1 (wf_i64 wf_i).2 W).mono fun e W' ⟨he, hb⟩ => ?_
  subst he
  exact ⟨_, rfl, post_of_below (pa := []) (pv := []) hW' (fun _ _ _ => (trodAll_cons_mk (shut_bool Try.underlying4 _) trodAll_mk0)) (fun sp _ => (trodAll_cons_mk (shut_int Try.underlying2 wf_k) (trodAll_cons_mk (shut_int Try.underlying2 wf_i) trodAll_mk0))) (fun _ _ => rfl) rfl hb
    (ok_one (by kernel_rfl) rfl (okWide_bool_mk Try.underlying4 _))⟩
theorem eisenBounds_holds : Rows.EisenBoundsSaid :=
  OpenClaim.holds_of_wide 11 Try.f11 rfl rfl rfl rfl rfl rfl rfl ⟨rfl, rfl, rfl, rfl, rfl⟩ rfl rfl rfl rfl rfl (by kernel_rfl) Try.func11 (by kernel_rfl)
    (of_decide_eq_true (by kernel_rfl)) (by unfold Func.isWrapper; first | (rw [if_pos (by decide +kernel)]; kernel_rfl) | (rw [if_neg (by decide +kernel)]; exact ⟨rfl, rfl⟩))
    (fun os started H enc _ => eisenBounds_lifted os started H enc)
end
#print axioms eisenBounds_holds
end Go.Proofs.Ytjedegpmpdgckaa

/- EisenRounds: for every number and divisor, Round is the reference's. No condition. -/
import Derived.Test.YtjedegpmpdgckaaRow
import Derived.Test.YtjedegpmpdgckaaAwake2
import Derived.Test.YtjedegpmpdgckaaRefRound
namespace Go.Proofs.Ytjedegpmpdgckaa
open Go.RowKit
set_option linter.unusedSimpArgs false
set_option linter.unusedVariables false
set_option maxHeartbeats 800000 in
theorem ref_round_no (x y d : Int) (h : d < 1 ∨ 1125899906842624 < d ∨ withinB x 1152921504606846976 = false ∨ withinB y 1152921504606846976 = false) (w : World) :
    Calls Try.prog 23 #[.agg #[.int .i64 x, .int .i64 y], .int .i64 d] w fun e w' => e = .returned (.tuple #[.agg #[.int .i64 0, .int .i64 0], .bool false]) ∧ Below w.heap.size w w' := by
  have wx : withinB x 1152921504606846976 = false → x < -1152921504606846976 ∨ 1152921504606846976 < x := fun h => by
    have := of_decide_eq_false h
    omega
  have wy : withinB y 1152921504606846976 = false → y < -1152921504606846976 ∨ 1152921504606846976 < y := fun h => by
    have := of_decide_eq_false h
    omega
  have h' : d < 1 ∨ 1125899906842624 < d ∨ (x < -1152921504606846976 ∨ 1152921504606846976 < x) ∨ (y < -1152921504606846976 ∨ 1152921504606846976 < y) := by
    rcases h with h | h | h | h
    · exact .inl h
    · exact .inr (.inl h)
    · exact .inr (.inr (.inl (wx h)))
    · exact .inr (.inr (.inr (wy h)))
  clear h wx wy
  by_cases b0 : d < 1
  · have t0 : decide (d < 1) = true := decide_eq_true b0
    go_enter Try.func23, Try.ntmps23
    go_wp2
    refine bodyPost_ret (v := .tuple #[.agg #[.int .i64 0, .int .i64 0], .bool false]) (by simp [results, Try.results23, go_sem]) rfl ⟨rfl, by repeat (first | exact Below.refl _ _ | refine bl_alloc ?_ _ | refine bl_drewN ?_ _ | refine bl_drew ?_ | refine bl_set ?_ (by first | (simp; done) | (simp; omega) | omega) _ | refine below_step ?_ (by assumption) | refine below_step ?_ (Bw.below _))⟩
  have t0 : decide (d < 1) = false := decide_eq_false b0
  by_cases b1 : 1125899906842624 < d
  · have t1 : decide (1125899906842624 < d) = true := decide_eq_true b1
    go_enter Try.func23, Try.ntmps23
    go_wp2
    refine bodyPost_ret (v := .tuple #[.agg #[.int .i64 0, .int .i64 0], .bool false]) (by simp [results, Try.results23, go_sem]) rfl ⟨rfl, by repeat (first | exact Below.refl _ _ | refine bl_alloc ?_ _ | refine bl_drewN ?_ _ | refine bl_drew ?_ | refine bl_set ?_ (by first | (simp; done) | (simp; omega) | omega) _ | refine below_step ?_ (by assumption) | refine below_step ?_ (Bw.below _))⟩
  have t1 : decide (1125899906842624 < d) = false := decide_eq_false b1
  by_cases b2 : x < -1152921504606846976
  · have t2 : decide (x < -1152921504606846976) = true := decide_eq_true b2
    go_enter Try.func23, Try.ntmps23
    go_wp2
    refine bodyPost_ret (v := .tuple #[.agg #[.int .i64 0, .int .i64 0], .bool false]) (by simp [results, Try.results23, go_sem]) rfl ⟨rfl, by repeat (first | exact Below.refl _ _ | refine bl_alloc ?_ _ | refine bl_drewN ?_ _ | refine bl_drew ?_ | refine bl_set ?_ (by first | (simp; done) | (simp; omega) | omega) _ | refine below_step ?_ (by assumption) | refine below_step ?_ (Bw.below _))⟩
  have t2 : decide (x < -1152921504606846976) = false := decide_eq_false b2
  by_cases b3 : 1152921504606846976 < x
  · have t3 : decide (1152921504606846976 < x) = true := decide_eq_true b3
    go_enter Try.func23, Try.ntmps23
    go_wp2
    refine bodyPost_ret (v := .tuple #[.agg #[.int .i64 0, .int .i64 0], .bool false]) (by simp [results, Try.results23, go_sem]) rfl ⟨rfl, by repeat (first | exact Below.refl _ _ | refine bl_alloc ?_ _ | refine bl_drewN ?_ _ | refine bl_drew ?_ | refine bl_set ?_ (by first | (simp; done) | (simp; omega) | omega) _ | refine below_step ?_ (by assumption) | refine below_step ?_ (Bw.below _))⟩
  have t3 : decide (1152921504606846976 < x) = false := decide_eq_false b3
  by_cases b4 : y < -1152921504606846976
  · have t4 : decide (y < -1152921504606846976) = true := decide_eq_true b4
    go_enter Try.func23, Try.ntmps23
    go_wp2
    refine bodyPost_ret (v := .tuple #[.agg #[.int .i64 0, .int .i64 0], .bool false]) (by simp [results, Try.results23, go_sem]) rfl ⟨rfl, by repeat (first | exact Below.refl _ _ | refine bl_alloc ?_ _ | refine bl_drewN ?_ _ | refine bl_drew ?_ | refine bl_set ?_ (by first | (simp; done) | (simp; omega) | omega) _ | refine below_step ?_ (by assumption) | refine below_step ?_ (Bw.below _))⟩
  have t4 : decide (y < -1152921504606846976) = false := decide_eq_false b4
  have t5 : decide (1152921504606846976 < y) = true := decide_eq_true (by omega)
  go_enter Try.func23, Try.ntmps23
  go_wp2
  refine bodyPost_ret (v := .tuple #[.agg #[.int .i64 0, .int .i64 0], .bool false]) (by simp [results, Try.results23, go_sem]) rfl ⟨rfl, by repeat (first | exact Below.refl _ _ | refine bl_alloc ?_ _ | refine bl_drewN ?_ _ | refine bl_drew ?_ | refine bl_set ?_ (by first | (simp; done) | (simp; omega) | omega) _ | refine below_step ?_ (by assumption) | refine below_step ?_ (Bw.below _))⟩
theorem round_both (x y d : Int) (hx : -9223372036854775808 ≤ x) (hx' : x ≤ 9223372036854775807) (hy : -9223372036854775808 ≤ y) (hy' : y ≤ 9223372036854775807) (hd : -9223372036854775808 ≤ d) (hd' : d ≤ 9223372036854775807) : ∃ (a b : Int) (ok : Bool), (∀ w, Calls Try.prog 22 #[.agg #[.int .i64 x, .int .i64 y], .int .i64 d] w fun e w' => e = .returned (.tuple #[.agg #[.int .i64 a, .int .i64 b], .bool ok]) ∧ Below w.heap.size w w')
    ∧ (∀ w, Calls Try.prog 23 #[.agg #[.int .i64 x, .int .i64 y], .int .i64 d] w fun e w' => e = .returned (.tuple #[.agg #[.int .i64 a, .int .i64 b], .bool ok]) ∧ Below w.heap.size w w') := by
  by_cases h : d < 1 ∨ 1125899906842624 < d ∨ withinB x 1152921504606846976 = false ∨ withinB y 1152921504606846976 = false
  · exact ⟨_, _, _, eis_round_no x y d h, ref_round_no x y d h⟩
  · have h1 : 1 ≤ d ∧ d ≤ 1125899906842624 := by
      constructor
      · exact Int.not_lt.1 fun hh => h (.inl hh)
      · exact Int.not_lt.1 fun hh => h (.inr (.inl hh))
    have h2 : -1152921504606846976 ≤ x ∧ x ≤ 1152921504606846976 := Decidable.byContradiction fun hh => h (.inr (.inr (.inl (decide_eq_false hh))))
    have h3 : -1152921504606846976 ≤ y ∧ y ≤ 1152921504606846976 := Decidable.byContradiction fun hh => h (.inr (.inr (.inr (decide_eq_false hh))))
    exact ⟨_, _, _, eis_round x y d h2.1 h2.2 h3.1 h3.2 h1.1 h1.2, ref_round x y d h2.1 h2.2 h3.1 h3.2 h1.1 h1.2⟩
set_option maxHeartbeats 400000 in
theorem rounds_walk (x y d : Int) (hx : -9223372036854775808 ≤ x) (hx' : x ≤ 9223372036854775807) (hy : -9223372036854775808 ≤ y) (hy' : y ≤ 9223372036854775807) (hd : -9223372036854775808 ≤ d) (hd' : d ≤ 9223372036854775807) (w : World) : Calls Try.prog 7 #[.agg #[.int .i64 x, .int .i64 y], .int .i64 d] w fun e w' => e = .returned (.bool true) ∧ Below w.heap.size w w' := by
  obtain ⟨a, b, ok, hB, hR⟩ := round_both x y d hx hx' hy hy' hd hd'
  have HB := Lib.hid hB
  have HR := Lib.hid hR
  clear hB hR
  go_enter Try.func7, Try.ntmps7
  go_wp2_with fail
  refine calls_start (fun W => W.cell? ⟨w.heap.size, 0, none⟩ = some (.int .i64 x) ∧ W.cell? ⟨w.heap.size, 1, none⟩ = some (.int .i64 y) ∧ Below w.heap.size w W) ⟨by first | (simp [go_sem]; done), by first | (simp [go_sem]; done), by repeat (first | exact Below.refl _ _ | refine bl_alloc ?_ _ | refine bl_drewN ?_ _ | refine bl_drew ?_ | refine bl_set ?_ (by first | (simp; done) | (simp; omega) | omega) _ | refine below_step ?_ (by assumption) | refine below_step ?_ (Bw.below _))⟩ ?_
  rintro W ⟨hc1, hc2, hWc⟩ gc
  have c1 := Bw.hold hc1
  have c2 := Bw.hold hc2
  have cz1 := fun g : Bw W => cell_lt (c1 g)
  have cy1 := fun g : Bw W => Nat.le_of_lt (cz1 g)
  clear hc1 hc2
  refine (HB.out _).mono ?_
  rintro e_g2 w_g2 ⟨rfl, hb_g2⟩
  obtain ⟨g2, rfl⟩ := gc.next hb_g2
  clear hb_g2
  go_wp2_with fail
  refine calls_start (fun V => V.cell? ⟨w.heap.size, 0, none⟩ = some (.int .i64 x) ∧ V.cell? ⟨w.heap.size, 1, none⟩ = some (.int .i64 y) ∧ V.cell? ⟨g2.out.heap.size, 0, none⟩ = some (.int .i64 a) ∧ V.cell? ⟨g2.out.heap.size, 1, none⟩ = some (.int .i64 b) ∧ Below w.heap.size w V) ⟨by first | (simp [go_sem]; done) | with_reducible exact hold_al c1 _ _ | with_reducible exact hold_al c2 _ _ | (simp [go_sem, c1, c2, cz1, cy1]; done), by first | (simp [go_sem]; done) | with_reducible exact hold_al c1 _ _ | with_reducible exact hold_al c2 _ _ | (simp [go_sem, c1, c2, cz1, cy1]; done), by first | (simp [go_sem]; done) | with_reducible exact hold_al c1 _ _ | with_reducible exact hold_al c2 _ _ | (simp [go_sem, c1, c2, cz1, cy1]; done), by first | (simp [go_sem]; done) | with_reducible exact hold_al c1 _ _ | with_reducible exact hold_al c2 _ _ | (simp [go_sem, c1, c2, cz1, cy1]; done), by repeat (first | exact Below.refl _ _ | refine bl_alloc ?_ _ | refine bl_drewN ?_ _ | refine bl_drew ?_ | refine bl_set ?_ (by first | (simp; done) | (simp; omega) | omega) _ | refine below_step ?_ (by assumption) | refine below_step ?_ (Bw.below _))⟩ ?_
  rintro V ⟨hk1, hk2, hk3, hk4, hWk⟩ gk
  have k1 := Bw.hold hk1
  have k2 := Bw.hold hk2
  have k3 := Bw.hold hk3
  have k4 := Bw.hold hk4
  have kz1 := fun g : Bw V => cell_lt (k1 g)
  have ky1 := fun g : Bw V => Nat.le_of_lt (kz1 g)
  have kz3 := fun g : Bw V => cell_lt (k3 g)
  have ky3 := fun g : Bw V => Nat.le_of_lt (kz3 g)
  clear hk1 hk2 hk3 hk4
  clear c1 c2 cz1 cy1
  refine (HR.out _).mono ?_
  rintro e_g3 w_g3 ⟨rfl, hb_g3⟩
  obtain ⟨g3, rfl⟩ := gk.next hb_g3
  clear hb_g3
  go_wp2_with fail
  refine calls_start (fun X => X.cell? ⟨g2.out.heap.size, 0, none⟩ = some (.int .i64 a) ∧ X.cell? ⟨g2.out.heap.size, 1, none⟩ = some (.int .i64 b) ∧ X.cell? ⟨g3.out.heap.size, 0, none⟩ = some (.int .i64 a) ∧ X.cell? ⟨g3.out.heap.size, 1, none⟩ = some (.int .i64 b) ∧ Below w.heap.size w X) ⟨by first | (simp [go_sem]; done) | with_reducible exact hold_al k1 _ _ | with_reducible exact hold_al k2 _ _ | with_reducible exact hold_al k3 _ _ | with_reducible exact hold_al k4 _ _ | (simp [go_sem, k1, k2, k3, k4, kz1, ky1, kz3, ky3]; done), by first | (simp [go_sem]; done) | with_reducible exact hold_al k1 _ _ | with_reducible exact hold_al k2 _ _ | with_reducible exact hold_al k3 _ _ | with_reducible exact hold_al k4 _ _ | (simp [go_sem, k1, k2, k3, k4, kz1, ky1, kz3, ky3]; done), by first | (simp [go_sem]; done) | with_reducible exact hold_al k1 _ _ | with_reducible exact hold_al k2 _ _ | with_reducible exact hold_al k3 _ _ | with_reducible exact hold_al k4 _ _ | (simp [go_sem, k1, k2, k3, k4, kz1, ky1, kz3, ky3]; done), by first | (simp [go_sem]; done) | with_reducible exact hold_al k1 _ _ | with_reducible exact hold_al k2 _ _ | with_reducible exact hold_al k3 _ _ | with_reducible exact hold_al k4 _ _ | (simp [go_sem, k1, k2, k3, k4, kz1, ky1, kz3, ky3]; done), by repeat (first | exact Below.refl _ _ | refine bl_alloc ?_ _ | refine bl_drewN ?_ _ | refine bl_drew ?_ | refine bl_set ?_ (by first | (simp; done) | (simp; omega) | omega) _ | refine below_step ?_ (by assumption) | refine below_step ?_ (Bw.below _))⟩ ?_
  rintro X ⟨hl1, hl2, hl3, hl4, hWl⟩ gl
  have l1 := Bw.hold hl1
  have l2 := Bw.hold hl2
  have l3 := Bw.hold hl3
  have l4 := Bw.hold hl4
  have lz1 := fun g : Bw X => cell_lt (l1 g)
  have ly1 := fun g : Bw X => Nat.le_of_lt (lz1 g)
  have lz3 := fun g : Bw X => cell_lt (l3 g)
  have ly3 := fun g : Bw X => Nat.le_of_lt (lz3 g)
  clear hl1 hl2 hl3 hl4
  clear k1 k2 k3 k4 kz1 ky1 kz3 ky3
  refine (awake2 _).mono ?_
  rintro e_g4 w_g4 ⟨rfl, hb_g4⟩
  obtain ⟨g4, rfl⟩ := gl.next hb_g4
  clear hb_g4
  go_wp2_with fail
  go_ret
  exact ⟨rfl, by repeat (first | exact Below.refl _ _ | refine bl_alloc ?_ _ | refine bl_drewN ?_ _ | refine bl_drew ?_ | refine bl_set ?_ (by first | (simp; done) | (simp; omega) | omega) _ | refine below_step ?_ (by assumption) | refine below_step ?_ (Bw.below _))⟩
/-! THE STATEMENT EisenRounds -/
section
open Go.ChangeShapes Go.WideShapes Go.ChangeAt Go.RowKit Go.Joins
set_option linter.unusedVariables false
set_option maxRecDepth 100000 in
theorem eisenRounds_lifted (os : Os) (started : os.Started) (H : Type) (enc : TypeId × Value → H) :
    ReturnsInHanded {} Try.checked os 7 .any (Rows.eisenRoundsSpec.pre6 enc Try.prog Try.f7 Rows.eisenRoundsRow.domain false) (Rows.eisenRoundsSpec.post enc Try.prog Try.f7 false true false false) := by
  refine returnsInHanded_of_change (C := Try.checked) (show ownKnob Try.prog.godebug = none by kernel_rfl) started (by kernel_rfl) Try.func7
    (ChangeSpec.witness6 (enc := enc) (C := Try.checked) false ⟨#[], #[.agg #[.int .i64 0, .int .i64 0], .int .i64 0], []⟩ 8 (by kernel_rfl) (by kernel_rfl) (by kernel_rfl) (by kernel_rfl)) ?_
  intro W base args ds gs before hval0 hW hcnd _
  have hval : ∀ (j : Nat) t v, Try.f7.params[j]? = some t → args[j]? = some v → Value.okWide Try.prog W .any base t v := hval0
  have hW' := hW
  obtain ⟨p, q, hA0, hV, rfl, hfz, hnd⟩ := hW
  have hA : DataW.TrodAll enc Try.prog W 0 (fun _ => true) true Try.f7.params.toList args.toList ds p := hA0
  rw [Try.params7] at hA hval
  obtain ⟨v0, vs0, d0, ds0, p0, q0, hargs, rfl, rfl, h0, r0⟩ := trodAll_cons hA
  obtain ⟨v1, vs1, d1, ds1, p1, q1, rfl, rfl, rfl, h1, r1⟩ := trodAll_cons r0
  obtain ⟨rfl, rfl, rfl⟩ := trodAll_nil r1
  obtain rfl : args = #[v0, v1] := by cases args; simp_all
  obtain ⟨rfl, rfl⟩ := trodVars_none hV
  obtain ⟨c0_0, c0_1, y0_0, y0_1, m0, rfl, rfl, rfl, hy0_0, hy0_1⟩ := open_agg2 Try.underlying23 (by kernel_rfl) (show Try.prog.cellsOf 23 = 2 by kernel_rfl) (hval 0 23 v0 rfl rfl) h0
  obtain ⟨x, e0_0, rfl, wf_x⟩ := DataW.trod_int Try.underlying2 hy0_0
  obtain ⟨y, e0_1, rfl, wf_y⟩ := DataW.trod_int Try.underlying2 hy0_1
  simp at e0_0 e0_1
  subst e0_0 e0_1
  obtain ⟨d, rfl, rfl, rfl, wf_d⟩ := open_int Try.underlying2 (hval 1 2 v1 rfl rfl) h1
  clear hA0 hval0
  simp only [List.append_nil] at hW'
  refine (rounds_walk x y d (wf_i64 wf_x).1 (wf_i64 wf_x).2 (wf_i64 wf_y).1 (wf_i64 wf_y).2 (wf_i64 wf_d).1 (wf_i64 wf_d).2 W).mono fun e W' ⟨he, hb⟩ => ?_
  subst he
  exact ⟨_, rfl, post_of_below (pa := []) (pv := []) hW' (fun _ _ _ => (trodAll_cons_mk (shut_bool Try.underlying4 _) trodAll_mk0)) (fun sp _ => (trodAll_cons_mk (shut_agg2 (y0 := (.lit (.int .i64 x), [])) (y1 := (.lit (.int .i64 y), [])) Try.underlying23 (by kernel_rfl) (show Try.prog.cellsOf 23 = 2 by kernel_rfl) ⟨1, by simp [DataW.trod, Try.underlying2, wf_x]⟩ ⟨1, by simp [DataW.trod, Try.underlying2, wf_y]⟩) (trodAll_cons_mk (shut_int Try.underlying2 wf_d) trodAll_mk0))) (fun _ _ => rfl) rfl hb
    (ok_one (by kernel_rfl) rfl (okWide_bool_mk Try.underlying4 _))⟩
theorem eisenRounds_holds : Rows.EisenRoundsSaid :=
  OpenClaim.holds_of_wide 7 Try.f7 rfl rfl rfl rfl rfl rfl rfl ⟨rfl, rfl, rfl, rfl, rfl⟩ rfl rfl rfl rfl rfl (by kernel_rfl) Try.func7 (by kernel_rfl)
    (of_decide_eq_true (by kernel_rfl)) (by unfold Func.isWrapper; first | (rw [if_pos (by decide +kernel)]; kernel_rfl) | (rw [if_neg (by decide +kernel)]; exact ⟨rfl, rfl⟩))
    (fun os started H enc _ => eisenRounds_lifted os started H enc)
end
#print axioms eisenRounds_holds
end Go.Proofs.Ytjedegpmpdgckaa

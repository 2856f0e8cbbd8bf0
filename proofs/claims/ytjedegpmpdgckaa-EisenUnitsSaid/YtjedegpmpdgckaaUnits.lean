/- EisenUnits: for every number, Unit and Beta are those of the reference, a Unit's Norm is 1. No condition. -/
import Derived.Test.YtjedegpmpdgckaaRow
import Derived.Test.YtjedegpmpdgckaaAwake2
namespace Go.Proofs.Ytjedegpmpdgckaa
open Go.RowKit
theorem unit_norm (k : Int) : -1 ≤ uA (k % 6) ∧ uA (k % 6) ≤ 1 ∧ -1 ≤ uB (k % 6) ∧ uB (k % 6) ≤ 1 ∧ uA (k % 6) * uA (k % 6) + uA (k % 6) * uB (k % 6) + uB (k % 6) * uB (k % 6) = 1 := by
  have hj : k % 6 = 0 ∨ k % 6 = 1 ∨ k % 6 = 2 ∨ k % 6 = 3 ∨ k % 6 = 4 ∨ k % 6 = 5 := by omega
  rcases hj with h | h | h | h | h | h <;> rw [h] <;> decide
/-- Both Betas give the same. -/
theorem beta_both (k : Int) : ∃ (a b : Int) (ok : Bool), (∀ w, Calls Try.prog 13 #[.int .i64 k] w fun e w' => e = .returned (.tuple #[.agg #[.int .i64 a, .int .i64 b], .bool ok]) ∧ Below w.heap.size w w')
    ∧ (∀ w, Calls Try.prog 14 #[.int .i64 k] w fun e w' => e = .returned (.tuple #[.agg #[.int .i64 a, .int .i64 b], .bool ok]) ∧ Below w.heap.size w w') := by
  by_cases h : 0 ≤ k ∧ k ≤ 20
  · obtain ⟨K, rfl⟩ := Int.eq_ofNat_of_zero_le h.1
    exact ⟨_, _, _, eis_beta K (by omega), ref_beta K (by omega)⟩
  · exact ⟨_, _, _, eis_beta_no k (by omega), ref_beta_no k (by omega)⟩
set_option linter.unusedVariables false in
set_option maxHeartbeats 400000 in
theorem units_walk (k : Int) (hk : -9223372036854775808 ≤ k) (hk' : k ≤ 9223372036854775807) (w : World) : Calls Try.prog 3 #[.int .i64 k] w fun e w' => e = .returned (.bool true) ∧ Below w.heap.size w w' := by
  obtain ⟨n1, n2, n3, n4, n5⟩ := unit_norm k
  obtain ⟨a, b, ok, hB, hR⟩ := beta_both k
  have U := Lib.hid (eis_unit k)
  have V := Lib.hid (ref_unit k)
  obtain ⟨x, hx⟩ : ∃ x, x = uA (k % 6) := ⟨_, rfl⟩
  obtain ⟨y, hy⟩ : ∃ y, y = uB (k % 6) := ⟨_, rfl⟩
  rw [← hx, ← hy] at U V n5
  rw [← hx] at n1 n2
  rw [← hy] at n3 n4
  have M := Lib.hid (eis_norm_fit x y 1 (by omega) (by omega) (by omega) (by omega) (by omega) (by omega) n5)
  have HB := Lib.hid hB
  have HR := Lib.hid hR
  clear hB hR n1 n2 n3 n4 n5 hx hy
  go_enter Try.func3, Try.ntmps3
  go_wp2_with fail
  refine (HB.out _).mono ?_
  rintro e w1 ⟨rfl, hb1⟩
  go_wp2_with fail
  refine calls_start (fun W => W.cell? ⟨w1.heap.size, 0, none⟩ = some (.int .i64 a) ∧ W.cell? ⟨w1.heap.size, 1, none⟩ = some (.int .i64 b) ∧ Below w.heap.size w W) ⟨by simp [go_sem], by simp [go_sem], by repeat (first | exact Below.refl _ _ | refine bl_alloc ?_ _ | refine bl_drewN ?_ _ | refine bl_drew ?_ | refine bl_set ?_ (by first | (simp; done) | (simp; omega) | omega) _ | refine below_step ?_ (by assumption) | refine below_step ?_ (Bw.below _))⟩ ?_
  rintro W ⟨h1, h2, hW⟩ g
  refine (HR.out _).mono ?_
  rintro e w2 ⟨rfl, hb2⟩
  obtain ⟨g2, rfl⟩ := g.next hb2
  go_wp2_with fail
  refine calls_start (fun V => V.cell? ⟨w1.heap.size, 0, none⟩ = some (.int .i64 a) ∧ V.cell? ⟨w1.heap.size, 1, none⟩ = some (.int .i64 b)
    ∧ V.cell? ⟨g2.out.heap.size, 0, none⟩ = some (.int .i64 a) ∧ V.cell? ⟨g2.out.heap.size, 1, none⟩ = some (.int .i64 b) ∧ Below w.heap.size w V) ⟨g2.al h1 _, g2.al h2 _, by simp [go_sem], by simp [go_sem], by repeat (first | exact Below.refl _ _ | refine bl_alloc ?_ _ | refine bl_drewN ?_ _ | refine bl_drew ?_ | refine bl_set ?_ (by first | (simp; done) | (simp; omega) | omega) _ | refine below_step ?_ (by assumption) | refine below_step ?_ (Bw.below _))⟩ ?_
  clear h1 h2
  rintro V' ⟨h1, h2, h3, h4, hV⟩ g
  have c1 := Bw.hold h1
  have c2 := Bw.hold h2
  have c3 := Bw.hold h3
  have c4 := Bw.hold h4
  clear h1 h2 h3 h4
  refine (U.out _).mono ?_
  rintro e w3 ⟨rfl, hb3⟩
  obtain ⟨g3, rfl⟩ := g.next hb3
  go_wp2_with fail
  refine (M.out _).mono ?_
  rintro e w4 ⟨rfl, hb4⟩
  obtain ⟨g4, rfl⟩ := g3.next hb4
  go_wp2_with fail
  refine (U.out _).mono ?_
  rintro e w5 ⟨rfl, hb5⟩
  obtain ⟨g5, rfl⟩ := g4.next hb5
  go_wp2_with fail
  refine (V.out _).mono ?_
  rintro e w6 ⟨rfl, hb6⟩
  obtain ⟨g6, rfl⟩ := g5.next hb6
  go_wp2_with fail
  refine (awake2 _).mono ?_
  rintro e w7 ⟨rfl, hb7⟩
  obtain ⟨g7, rfl⟩ := g6.next hb7
  go_wp2_with fail
  go_ret
  exact ⟨rfl, by repeat (first | exact Below.refl _ _ | refine bl_alloc ?_ _ | refine bl_drewN ?_ _ | refine bl_drew ?_ | refine bl_set ?_ (by first | (simp; done) | (simp; omega) | omega) _ | refine below_step ?_ (by assumption) | refine below_step ?_ (Bw.below _))⟩
/-! THE STATEMENT EisenUnits -/
section
open Go.ChangeShapes Go.WideShapes Go.ChangeAt Go.RowKit Go.Joins
set_option linter.unusedVariables false
set_option maxRecDepth 100000 in
theorem eisenUnits_lifted (os : Os) (started : os.Started) (H : Type) (enc : TypeId × Value → H) :
    ReturnsInHanded {} Try.checked os 3 .any (Rows.eisenUnitsSpec.pre6 enc Try.prog Try.f3 Rows.eisenUnitsRow.domain false) (Rows.eisenUnitsSpec.post enc Try.prog Try.f3 false true false false) := by
  refine returnsInHanded_of_change (C := Try.checked) (show ownKnob Try.prog.godebug = none by kernel_rfl) started (by kernel_rfl) Try.func3
    (ChangeSpec.witness6 (enc := enc) (C := Try.checked) false ⟨#[], #[.int .i64 0], []⟩ 8 (by kernel_rfl) (by kernel_rfl) (by kernel_rfl) (by kernel_rfl)) ?_
  intro W base args ds gs before hval0 hW hcnd _
  have hval : ∀ (j : Nat) t v, Try.f3.params[j]? = some t → args[j]? = some v → Value.okWide Try.prog W .any base t v := hval0
  have hW' := hW
  obtain ⟨p, q, hA0, hV, rfl, hfz, hnd⟩ := hW
  have hA : DataW.TrodAll enc Try.prog W 0 (fun _ => true) true Try.f3.params.toList args.toList ds p := hA0
  rw [Try.params3] at hA hval
  obtain ⟨v0, vs0, d0, ds0, p0, q0, hargs, rfl, rfl, h0, r0⟩ := trodAll_cons hA
  obtain ⟨rfl, rfl, rfl⟩ := trodAll_nil r0
  obtain rfl : args = #[v0] := by cases args; simp_all
  obtain ⟨rfl, rfl⟩ := trodVars_none hV
  obtain ⟨k, rfl, rfl, rfl, wf_k⟩ := open_int Try.underlying3 (hval 0 3 v0 rfl rfl) h0
  clear hA0 hval0
  simp only [List.append_nil] at hW'
  refine (units_walk k (wf_i64 wf_k).1 (wf_i64 wf_k).2 W).mono fun e W' ⟨he, hb⟩ => ?_
  subst he
  exact ⟨_, rfl, post_of_below (pa := []) (pv := []) hW' (fun _ _ _ => (trodAll_cons_mk (shut_bool Try.underlying4 _) trodAll_mk0)) (fun sp _ => (trodAll_cons_mk (shut_int Try.underlying3 wf_k) trodAll_mk0)) (fun _ _ => rfl) rfl hb
    (ok_one (by kernel_rfl) rfl (okWide_bool_mk Try.underlying4 _))⟩
theorem eisenUnits_holds : Rows.EisenUnitsSaid :=
  OpenClaim.holds_of_wide 3 Try.f3 rfl rfl rfl rfl rfl rfl rfl ⟨rfl, rfl, rfl, rfl, rfl⟩ rfl rfl rfl rfl rfl (by kernel_rfl) Try.func3 (by kernel_rfl)
    (of_decide_eq_true (by kernel_rfl)) (by unfold Func.isWrapper; first | (rw [if_pos (by decide +kernel)]; kernel_rfl) | (rw [if_neg (by decide +kernel)]; exact ⟨rfl, rfl⟩))
    (fun os started H enc _ => eisenUnits_lifted os started H enc)
end
#print axioms eisenUnits_holds
end Go.Proofs.Ytjedegpmpdgckaa

/- EisenWhole: what is nearest to a quotient leaves a remainder that is as near to nought as to any Unit times the divisor. No condition. -/
import Derived.Test.YtjedegpmpdgckaaRow
import Derived.Test.YtjedegpmpdgckaaAwake2
import Derived.Test.YtjedegpmpdgckaaTame
namespace Go.Proofs.Ytjedegpmpdgckaa
open Go.RowKit
set_option linter.unusedSimpArgs false
theorem unit_cases (k : Int) : (uA (k % 6) = 1 ∧ uB (k % 6) = 0) ∨ (uA (k % 6) = 0 ∧ uB (k % 6) = 1) ∨ (uA (k % 6) = -1 ∧ uB (k % 6) = 1) ∨ (uA (k % 6) = -1 ∧ uB (k % 6) = 0) ∨ (uA (k % 6) = 0 ∧ uB (k % 6) = -1) ∨ (uA (k % 6) = 1 ∧ uB (k % 6) = -1) := by
  have hj : k % 6 = 0 ∨ k % 6 = 1 ∨ k % 6 = 2 ∨ k % 6 = 3 ∨ k % 6 = 4 ∨ k % 6 = 5 := by omega
  rcases hj with h | h | h | h | h | h <;> rw [h] <;> decide
/-- A Unit's step leads no nearer. -/
theorem hexa_unit (s t d k : Int) (hd : 1 ≤ d) (h : Hexa s t d) : s * s + s * t + t * t ≤ (s - d * uA (k % 6)) * (s - d * uA (k % 6)) + (s - d * uA (k % 6)) * (t - d * uB (k % 6)) + (t - d * uB (k % 6)) * (t - d * uB (k % 6)) := by
  rw [norm_moved]
  obtain ⟨a1, a2, b1, b2, c1, c2⟩ := h
  have key : 0 ≤ d * (uA (k % 6) * uA (k % 6) + uA (k % 6) * uB (k % 6) + uB (k % 6) * uB (k % 6)) - (uA (k % 6) * (2 * s + t) + uB (k % 6) * (s + 2 * t)) := by
    rcases unit_cases k with ⟨e, f⟩ | ⟨e, f⟩ | ⟨e, f⟩ | ⟨e, f⟩ | ⟨e, f⟩ | ⟨e, f⟩ <;> rw [e, f] <;> omega
  have := Int.mul_nonneg (show 0 ≤ d by omega) key
  omega
set_option linter.unusedVariables false in
set_option maxHeartbeats 800000 in
theorem whole_walk (u1 u2 d k : Int) (hu1 : -9223372036854775808 ≤ u1) (hu1' : u1 ≤ 9223372036854775807) (hu2 : -9223372036854775808 ≤ u2) (hu2' : u2 ≤ 9223372036854775807) (hd : -9223372036854775808 ≤ d) (hd' : d ≤ 9223372036854775807) (hk : -9223372036854775808 ≤ k) (hk' : k ≤ 9223372036854775807) (w : World) : Calls Try.prog 6 #[.agg #[.int .i64 u1, .int .i64 u2], .int .i64 d, .int .i64 k] w fun e w' => e = .returned (.bool true) ∧ Below w.heap.size w w' := by
  have M := i64_mask d 10 (by omega)
  have M1 := Int.emod_nonneg d (b := ((2 ^ 10 : Nat) : Int)) (by decide)
  have M2 := Int.emod_lt_of_pos d (b := ((2 ^ 10 : Nat) : Int)) (by decide)
  simp only [show ((2 ^ 10 - 1 : Nat) : Int) = 1023 from rfl, show ((2 ^ 10 : Nat) : Int) = 1024 from rfl] at M M1 M2
  generalize d % 1024 = D0 at M M1 M2
  obtain ⟨D, hD⟩ : ∃ D, D = D0 + 1 := ⟨_, rfl⟩
  obtain ⟨t1, t2⟩ := tmod_bd u1 16384 (by omega)
  obtain ⟨t3, t4⟩ := tmod_bd u2 16384 (by omega)
  have T1 := Lib.hid (tame_any u1 u2)
  generalize u1.tmod 16384 = A1 at *
  generalize u2.tmod 16384 = A2 at *
  obtain ⟨g1, g2, g3, g4⟩ := rd_bd A1 A2 D (by omega) (by omega) (by omega) (by omega) (by omega)
  have HX := rd_hexa A1 A2 D (by omega)
  have R1 := Lib.hid (eis_round_is A1 A2 D _ _ (by omega) (by omega) (by omega) (by omega) (by omega) (by omega) rfl rfl)
  generalize rdA A1 A2 D = Z1 at *
  generalize rdB A1 A2 D = Z2 at *
  have th := hexa_third _ _ _ HX
  have le := hexa_unit _ _ _ k (by omega) HX
  obtain ⟨x1, x2, x3, x4, x5, x6⟩ := HX
  have s1 : -1024 ≤ A1 - D * Z1 := by omega
  have s2 : A1 - D * Z1 ≤ 1024 := by omega
  have s3 : -1024 ≤ A2 - D * Z2 := by omega
  have s4 : A2 - D * Z2 ≤ 1024 := by omega
  have p1 : -17408 ≤ D * Z1 := by omega
  have p2 : D * Z1 ≤ 17408 := by omega
  have p3 : -17408 ≤ D * Z2 := by omega
  have p4 : D * Z2 ≤ 17408 := by omega
  have U := Lib.hid (eis_unit k)
  have uc := unit_cases k
  generalize uA (k % 6) = X at *
  generalize uB (k % 6) = Y at *
  obtain ⟨dd1, dd2⟩ := mul_bd D D 1024 1024 (by omega) (by omega) (by omega) (by omega)
  obtain ⟨dx1, dx2⟩ : -1024 ≤ D * X ∧ D * X ≤ 1024 := by
    have := mul_bd D X 1024 1 (by omega) (by omega) (by omega) (by omega)
    omega
  obtain ⟨dy1, dy2⟩ : -1024 ≤ D * Y ∧ D * Y ≤ 1024 := by
    have := mul_bd D Y 1024 1 (by omega) (by omega) (by omega) (by omega)
    omega
  generalize hS : A1 - D * Z1 = S at *
  generalize hT : A2 - D * Z2 = T at *
  obtain ⟨q1, q2⟩ := mul_bd S S 1024 1024 s1 s2 s1 s2
  obtain ⟨q3, q4⟩ := mul_bd S T 1024 1024 s1 s2 s3 s4
  obtain ⟨q5, q6⟩ := mul_bd T T 1024 1024 s3 s4 s3 s4
  have sx1 : -2048 ≤ S - D * X := by omega
  have sx2 : S - D * X ≤ 2048 := by omega
  have ty1 : -2048 ≤ T - D * Y := by omega
  have ty2 : T - D * Y ≤ 2048 := by omega
  obtain ⟨r1, r2⟩ := mul_bd (S - D * X) (S - D * X) 2048 2048 sx1 sx2 sx1 sx2
  obtain ⟨r3, r4⟩ := mul_bd (S - D * X) (T - D * Y) 2048 2048 sx1 sx2 ty1 ty2
  obtain ⟨r5, r6⟩ := mul_bd (T - D * Y) (T - D * Y) 2048 2048 ty1 ty2 ty1 ty2
  obtain ⟨NA, hNA⟩ : ∃ NA, S * S + S * T + T * T = NA := ⟨_, rfl⟩
  obtain ⟨NB, hNB⟩ : ∃ NB, (S - D * X) * (S - D * X) + (S - D * X) * (T - D * Y) + (T - D * Y) * (T - D * Y) = NB := ⟨_, rfl⟩
  have N1 := Lib.hid (eis_norm_fit S T NA (by omega) (by omega) (by omega) (by omega) (by omega) (by omega) hNA)
  have N2 := Lib.hid (eis_norm_fit (S - D * X) (T - D * Y) NB (by omega) (by omega) (by omega) (by omega) (by omega) (by omega) hNB)
  rw [hNA] at th le
  rw [hNB] at le
  have na1 : -4000000 ≤ NA := by omega
  have na2 : NA ≤ 4000000 := by omega
  have e0 : D0 + 1 = D := hD.symm
  clear hNA hNB r1 r2 r3 r4 r5 r6 q1 q2 q3 q4 q5 q6 uc x1 x2 x3 x4 x5 x6
  clear hD hu1 hu1' hu2 hu2' hd hd'
  go_enter Try.func6, Try.ntmps6
  go_wp2_with fail
  refine calls_start (fun W => W.cell? ⟨w.heap.size, 0, none⟩ = some (.int .i64 u1) ∧ W.frozen? ⟨w.heap.size, 0, none⟩ = false ∧ W.cell? ⟨w.heap.size, 1, none⟩ = some (.int .i64 u2) ∧ W.frozen? ⟨w.heap.size, 1, none⟩ = false ∧ Below w.heap.size w W) ⟨by first | (simp [go_sem]; done), by first | (simp [go_sem]; done), by first | (simp [go_sem]; done), by first | (simp [go_sem]; done), by repeat (first | exact Below.refl _ _ | refine bl_alloc ?_ _ | refine bl_drewN ?_ _ | refine bl_drew ?_ | refine bl_set ?_ (by first | (simp; done) | (simp; omega) | omega) _ | refine below_step ?_ (by assumption) | refine below_step ?_ (Bw.below _))⟩ ?_
  rintro W ⟨hc1, fc1, hc2, fc2, hWc⟩ gc
  have c1 := Bw.hold hc1
  have cf1 := Bw.free hc1 fc1
  have c2 := Bw.hold hc2
  have cf2 := Bw.free hc2 fc2
  have cz1 := fun g : Bw W => cell_lt (c1 g)
  have cy1 := fun g : Bw W => Nat.le_of_lt (cz1 g)
  clear hc1 fc1 hc2 fc2
  refine (T1.out _).mono ?_
  rintro e_g2 w_g2 ⟨rfl, hb_g2⟩
  obtain ⟨g2, rfl⟩ := gc.next hb_g2
  clear hb_g2
  go_wp2_with fail
  refine calls_start (fun V => V.cell? ⟨w.heap.size, 0, none⟩ = some (.int .i64 A1) ∧ V.frozen? ⟨w.heap.size, 0, none⟩ = false ∧ V.cell? ⟨w.heap.size, 1, none⟩ = some (.int .i64 A2) ∧ V.frozen? ⟨w.heap.size, 1, none⟩ = false ∧ Below w.heap.size w V) ⟨by first | (simp [go_sem]; done) | with_reducible exact hold_al c1 _ _ | with_reducible exact hold_al c2 _ _ | (simp [go_sem, c1, cf1, c2, cf2, cz1, cy1]; done), by first | (simp [go_sem]; done) | with_reducible exact hold_alF c1 cf1 _ _ | with_reducible exact hold_alF c2 cf2 _ _ | (simp [go_sem, c1, cf1, c2, cf2, cz1, cy1]; done), by first | (simp [go_sem]; done) | with_reducible exact hold_al c1 _ _ | with_reducible exact hold_al c2 _ _ | (simp [go_sem, c1, cf1, c2, cf2, cz1, cy1]; done), by first | (simp [go_sem]; done) | with_reducible exact hold_alF c1 cf1 _ _ | with_reducible exact hold_alF c2 cf2 _ _ | (simp [go_sem, c1, cf1, c2, cf2, cz1, cy1]; done), by repeat (first | exact Below.refl _ _ | refine bl_alloc ?_ _ | refine bl_drewN ?_ _ | refine bl_drew ?_ | refine bl_set ?_ (by first | (simp; done) | (simp; omega) | omega) _ | refine below_step ?_ (by assumption) | refine below_step ?_ (Bw.below _))⟩ ?_
  rintro V ⟨hk1, fk1, hk2, fk2, hWk⟩ gk
  have k1 := Bw.hold hk1
  have kf1 := Bw.free hk1 fk1
  have k2 := Bw.hold hk2
  have kf2 := Bw.free hk2 fk2
  have kz1 := fun g : Bw V => cell_lt (k1 g)
  have ky1 := fun g : Bw V => Nat.le_of_lt (kz1 g)
  clear hk1 fk1 hk2 fk2
  clear c1 cf1 c2 cf2 cz1 cy1
  refine (R1.out _).mono ?_
  rintro e_g3 w_g3 ⟨rfl, hb_g3⟩
  obtain ⟨g3, rfl⟩ := gk.next hb_g3
  clear hb_g3
  go_wp2_with fail
  refine calls_start (fun X1 => X1.cell? ⟨g3.out.heap.size + 1, 0, none⟩ = some (.int .i64 S) ∧ X1.cell? ⟨g3.out.heap.size + 1, 1, none⟩ = some (.int .i64 T) ∧ Below w.heap.size w X1) ⟨by first | (simp [go_sem]; done) | with_reducible exact hold_al k1 _ _ | with_reducible exact hold_al k2 _ _ | (simp [go_sem, k1, kf1, k2, kf2, kz1, ky1]; done), by first | (simp [go_sem]; done) | with_reducible exact hold_al k1 _ _ | with_reducible exact hold_al k2 _ _ | (simp [go_sem, k1, kf1, k2, kf2, kz1, ky1]; done), by repeat (first | exact Below.refl _ _ | refine bl_alloc ?_ _ | refine bl_drewN ?_ _ | refine bl_drew ?_ | refine bl_set ?_ (by first | (simp; done) | (simp; omega) | omega) _ | refine below_step ?_ (by assumption) | refine below_step ?_ (Bw.below _))⟩ ?_
  rintro X1 ⟨hl1, hl2, hWl⟩ gl
  have l1 := Bw.hold hl1
  have l2 := Bw.hold hl2
  have lz1 := fun g : Bw X1 => cell_lt (l1 g)
  have ly1 := fun g : Bw X1 => Nat.le_of_lt (lz1 g)
  clear hl1 hl2
  clear k1 kf1 k2 kf2 kz1 ky1
  refine (U.out _).mono ?_
  rintro e_g4 w_g4 ⟨rfl, hb_g4⟩
  obtain ⟨g4, rfl⟩ := gl.next hb_g4
  clear hb_g4
  go_wp2_with fail
  refine calls_start (fun X2 => X2.cell? ⟨g3.out.heap.size + 1, 0, none⟩ = some (.int .i64 S) ∧ X2.cell? ⟨g3.out.heap.size + 1, 1, none⟩ = some (.int .i64 T) ∧ X2.cell? ⟨g4.out.heap.size, 0, none⟩ = some (.int .i64 X) ∧ X2.cell? ⟨g4.out.heap.size, 1, none⟩ = some (.int .i64 Y) ∧ Below w.heap.size w X2) ⟨by first | (simp [go_sem]; done) | with_reducible exact hold_al l1 _ _ | with_reducible exact hold_al l2 _ _ | (simp [go_sem, l1, l2, lz1, ly1]; done), by first | (simp [go_sem]; done) | with_reducible exact hold_al l1 _ _ | with_reducible exact hold_al l2 _ _ | (simp [go_sem, l1, l2, lz1, ly1]; done), by first | (simp [go_sem]; done) | with_reducible exact hold_al l1 _ _ | with_reducible exact hold_al l2 _ _ | (simp [go_sem, l1, l2, lz1, ly1]; done), by first | (simp [go_sem]; done) | with_reducible exact hold_al l1 _ _ | with_reducible exact hold_al l2 _ _ | (simp [go_sem, l1, l2, lz1, ly1]; done), by repeat (first | exact Below.refl _ _ | refine bl_alloc ?_ _ | refine bl_drewN ?_ _ | refine bl_drew ?_ | refine bl_set ?_ (by first | (simp; done) | (simp; omega) | omega) _ | refine below_step ?_ (by assumption) | refine below_step ?_ (Bw.below _))⟩ ?_
  rintro X2 ⟨hm1, hm2, hm3, hm4, hWm⟩ gm
  have m1 := Bw.hold hm1
  have m2 := Bw.hold hm2
  have m3 := Bw.hold hm3
  have m4 := Bw.hold hm4
  have mz1 := fun g : Bw X2 => cell_lt (m1 g)
  have my1 := fun g : Bw X2 => Nat.le_of_lt (mz1 g)
  have mz3 := fun g : Bw X2 => cell_lt (m3 g)
  have my3 := fun g : Bw X2 => Nat.le_of_lt (mz3 g)
  clear hm1 hm2 hm3 hm4
  clear l1 l2 lz1 ly1
  refine (N1.out _).mono ?_
  rintro e_g5 w_g5 ⟨rfl, hb_g5⟩
  obtain ⟨g5, rfl⟩ := gm.next hb_g5
  clear hb_g5
  go_wp2_with fail
  refine (N2.out _).mono ?_
  rintro e_g6 w_g6 ⟨rfl, hb_g6⟩
  obtain ⟨g6, rfl⟩ := g5.next hb_g6
  clear hb_g6
  go_wp2_with fail
  refine (awake2 _).mono ?_
  rintro e_g7 w_g7 ⟨rfl, hb_g7⟩
  obtain ⟨g7, rfl⟩ := g6.next hb_g7
  clear hb_g7
  go_wp2_with fail
  go_ret
  exact ⟨rfl, by repeat (first | exact Below.refl _ _ | refine bl_alloc ?_ _ | refine bl_drewN ?_ _ | refine bl_drew ?_ | refine bl_set ?_ (by first | (simp; done) | (simp; omega) | omega) _ | refine below_step ?_ (by assumption) | refine below_step ?_ (Bw.below _))⟩
/-! THE STATEMENT EisenWhole -/
section
open Go.ChangeShapes Go.WideShapes Go.ChangeAt Go.RowKit Go.Joins
set_option linter.unusedVariables false
set_option maxRecDepth 100000 in
theorem eisenWhole_lifted (os : Os) (started : os.Started) (H : Type) (enc : TypeId × Value → H) :
    ReturnsInHanded {} Try.checked os 6 .any (Rows.eisenWholeSpec.pre6 enc Try.prog Try.f6 Rows.eisenWholeRow.domain false) (Rows.eisenWholeSpec.post enc Try.prog Try.f6 false true false false) := by
  refine returnsInHanded_of_change (C := Try.checked) (show ownKnob Try.prog.godebug = none by kernel_rfl) started (by kernel_rfl) Try.func6
    (ChangeSpec.witness6 (enc := enc) (C := Try.checked) false ⟨#[], #[.agg #[.int .i64 0, .int .i64 0], .int .i64 0, .int .i64 0], []⟩ 8 (by kernel_rfl) (by kernel_rfl) (by kernel_rfl) (by kernel_rfl)) ?_
  intro W base args ds gs before hval0 hW hcnd _
  have hval : ∀ (j : Nat) t v, Try.f6.params[j]? = some t → args[j]? = some v → Value.okWide Try.prog W .any base t v := hval0
  have hW' := hW
  obtain ⟨p, q, hA0, hV, rfl, hfz, hnd⟩ := hW
  have hA : DataW.TrodAll enc Try.prog W 0 (fun _ => true) true Try.f6.params.toList args.toList ds p := hA0
  rw [Try.params6] at hA hval
  obtain ⟨v0, vs0, d0, ds0, p0, q0, hargs, rfl, rfl, h0, r0⟩ := trodAll_cons hA
  obtain ⟨v1, vs1, d1, ds1, p1, q1, rfl, rfl, rfl, h1, r1⟩ := trodAll_cons r0
  obtain ⟨v2, vs2, d2, ds2, p2, q2, rfl, rfl, rfl, h2, r2⟩ := trodAll_cons r1
  obtain ⟨rfl, rfl, rfl⟩ := trodAll_nil r2
  obtain rfl : args = #[v0, v1, v2] := by cases args; simp_all
  obtain ⟨rfl, rfl⟩ := trodVars_none hV
  obtain ⟨c0_0, c0_1, y0_0, y0_1, m0, rfl, rfl, rfl, hy0_0, hy0_1⟩ := open_agg2 Try.underlying23 (by kernel_rfl) (show Try.prog.cellsOf 23 = 2 by kernel_rfl) (hval 0 23 v0 rfl rfl) h0
  obtain ⟨u1, e0_0, rfl, wf_u1⟩ := DataW.trod_int Try.underlying2 hy0_0
  obtain ⟨u2, e0_1, rfl, wf_u2⟩ := DataW.trod_int Try.underlying2 hy0_1
  simp at e0_0 e0_1
  subst e0_0 e0_1
  obtain ⟨d, rfl, rfl, rfl, wf_d⟩ := open_int Try.underlying2 (hval 1 2 v1 rfl rfl) h1
  obtain ⟨k, rfl, rfl, rfl, wf_k⟩ := open_int Try.underlying3 (hval 2 3 v2 rfl rfl) h2
  clear hA0 hval0
  simp only [List.append_nil] at hW'
  refine (whole_walk u1 u2 d k (wf_i64 wf_u1).1 (wf_i64 wf_u1).2 (wf_i64 wf_u2).1 (wf_i64 wf_u2).2 (wf_i64 wf_d).1 (wf_i64 wf_d).2 (wf_i64 wf_k).1 (wf_i64 wf_k).2 W).mono fun e W' ⟨he, hb⟩ => ?_
  subst he
  exact ⟨_, rfl, post_of_below (pa := []) (pv := []) hW' (fun _ _ _ => (trodAll_cons_mk (shut_bool Try.underlying4 _) trodAll_mk0)) (fun sp _ => (trodAll_cons_mk (shut_agg2 (y0 := (.lit (.int .i64 u1), [])) (y1 := (.lit (.int .i64 u2), [])) Try.underlying23 (by kernel_rfl) (show Try.prog.cellsOf 23 = 2 by kernel_rfl) ⟨1, by simp [DataW.trod, Try.underlying2, wf_u1]⟩ ⟨1, by simp [DataW.trod, Try.underlying2, wf_u2]⟩) (trodAll_cons_mk (shut_int Try.underlying2 wf_d) (trodAll_cons_mk (shut_int Try.underlying3 wf_k) trodAll_mk0)))) (fun _ _ => rfl) rfl hb
    (ok_one (by kernel_rfl) rfl (okWide_bool_mk Try.underlying4 _))⟩
theorem eisenWhole_holds : Rows.EisenWholeSaid :=
  OpenClaim.holds_of_wide 6 Try.f6 rfl rfl rfl rfl rfl rfl rfl ⟨rfl, rfl, rfl, rfl, rfl⟩ rfl rfl rfl rfl rfl (by kernel_rfl) Try.func6 (by kernel_rfl)
    (of_decide_eq_true (by kernel_rfl)) (by unfold Func.isWrapper; first | (rw [if_pos (by decide +kernel)]; kernel_rfl) | (rw [if_neg (by decide +kernel)]; exact ⟨rfl, rfl⟩))
    (fun os started H enc _ => eisenWhole_lifted os started H enc)
end
#print axioms eisenWhole_holds
end Go.Proofs.Ytjedegpmpdgckaa

/- IdentTexts: words are told as sixteen digits and read again; any text is a word, or refused, as the reference says. No condition. -/
import Derived.Test.YtmipkloleklnkaaIdParse
import Derived.Test.YtmipkloleklnkaaRowS
namespace Go.Proofs.Ytmipkloleklnkaa
open Go.RowKit
set_option linter.unusedSimpArgs false
set_option linter.unusedVariables false
set_option maxRecDepth 100000 in
set_option maxHeartbeats 4000000 in
theorem identtexts_walk (s : ByteArray) (v x y r : Int) (hs : s.size ≤ 9223372036854775807) (hv : 0 ≤ v) (hv' : v ≤ 18446744073709551615) (hx : -9223372036854775808 ≤ x) (hx' : x ≤ 9223372036854775807) (hy : -9223372036854775808 ≤ y) (hy' : y ≤ 9223372036854775807) (hr : -9223372036854775808 ≤ r) (hr' : r ≤ 9223372036854775807) (w : World) :
    Calls Try.prog 9 #[.string s, .int .u64 v, .int .i64 x, .int .i64 y, .int .i64 r] w fun e w' => e = .returned (.bool true) ∧ Below w.heap.size w w' := by
  have W1 := law5_word x y r hx hx' hy hy' hr hr'
  generalize (r.tmod 13 + 13).tmod 13 = R at W1
  have H1 := Lib.hid W1
  obtain ⟨p1, e1, A1, A2⟩ := tell_parse s hs
  obtain ⟨p2, e2, B1, B2⟩ := tell_parse (hexS v) (by rw [hex_size]; omega)
  have TV := Lib.hid (id_text v hv (by omega))
  have XV := Lib.hid (ref_hex v hv (by omega))
  clear W1
  generalize hexS v = tv at *
  go_enter Try.func9, Try.ntmps9
  go_wp2_with fail
  refine (A1.out _).mono ?_
  rintro e_1 w_1 ⟨rfl, hb_1⟩
  obtain ⟨g1, rfl⟩ := bw_of hb_1
  clear hb_1
  go_wp2_with fail
  refine (A2.out _).mono ?_
  rintro e_g2 w_g2 ⟨rfl, hb_g2⟩
  obtain ⟨g2, rfl⟩ := g1.next hb_g2
  clear hb_g2
  go_wp2_with fail
  refine (H1.out _).mono ?_
  rintro e_3 w_3 ⟨a, b, rfl, ok1, hb_3⟩
  obtain ⟨g3, rfl⟩ := g2.next hb_3
  clear hb_3 H1
  obtain ⟨⟨q1, q2⟩, q3, _, _⟩ := word_of ok1
  have TP := Lib.hid (id_text (wv a b R.toNat) q1 q2)
  have PP0 := id_parse_yes (hexS (wv a b R.toNat)) (hex_size _) (fun j hj => hex_ok _ j (by rw [hex_size] at hj; exact hj)) (by rw [hex_back _ q1 q2]; exact q1) (by rw [hex_back _ q1 q2]; exact q2)
  rw [hex_back _ q1 q2, q3] at PP0
  have PP := Lib.hid PP0
  simp only [if_true] at PP
  clear PP0 q1 q2 q3 ok1
  generalize hexS (wv a b R.toNat) = tp at *
  generalize wv a b R.toNat = P at *
  go_wp2_with fail
  refine (TP.out _).mono ?_
  rintro e_g4 w_g4 ⟨rfl, hb_g4⟩
  obtain ⟨g4, rfl⟩ := g3.next hb_g4
  clear hb_g4
  go_wp2_with fail
  refine (PP.out _).mono ?_
  rintro e_g5 w_g5 ⟨rfl, hb_g5⟩
  obtain ⟨g5, rfl⟩ := g4.next hb_g5
  clear hb_g5
  go_wp2_with fail
  refine (TV.out _).mono ?_
  rintro e_g6 w_g6 ⟨rfl, hb_g6⟩
  obtain ⟨g6, rfl⟩ := g5.next hb_g6
  clear hb_g6
  go_wp2_with fail
  refine (B1.out _).mono ?_
  rintro e_g7 w_g7 ⟨rfl, hb_g7⟩
  obtain ⟨g7, rfl⟩ := g6.next hb_g7
  clear hb_g7
  go_wp2_with fail
  refine (XV.out _).mono ?_
  rintro e_8 w_8 ⟨rfl, rfl⟩
  go_wp2_with fail
  refine (B2.out _).mono ?_
  rintro e_g9 w_g9 ⟨rfl, hb_g9⟩
  obtain ⟨g9, rfl⟩ := g7.next hb_g9
  clear hb_g9
  go_wp2_with fail
  refine (TV.out _).mono ?_
  rintro e_g10 w_g10 ⟨rfl, hb_g10⟩
  obtain ⟨g10, rfl⟩ := g9.next hb_g10
  clear hb_g10
  go_wp2_with fail
  refine (XV.out _).mono ?_
  rintro e_11 w_11 ⟨rfl, rfl⟩
  go_wp2_with fail
  refine (awake5 _).mono ?_
  rintro e_g12 w_g12 ⟨rfl, hb_g12⟩
  obtain ⟨g12, rfl⟩ := g10.next hb_g12
  clear hb_g12
  go_wp2_with fail
  go_ret
  exact ⟨rfl, by repeat (first | with_reducible exact Below.refl _ _ | with_reducible refine bl_alloc ?_ _ | with_reducible refine bl_drewN ?_ _ | with_reducible refine bl_drew ?_ | (with_reducible refine bl_set ?_ ?_ _; rotate_left; focus (first | (simp; done) | (simp; omega) | omega)) | with_reducible refine below_step ?_ (Bw.below _) | with_reducible refine below_step ?_ (by assumption))⟩
/-! THE STATEMENT IdentTexts -/
section
open Go.ChangeShapes Go.WideShapes Go.ChangeAt Go.RowKit Go.Joins
set_option linter.unusedVariables false
set_option maxRecDepth 100000 in
theorem identTexts_lifted (os : Os) (started : os.Started) (H : Type) (enc : TypeId × Value → H) :
    ReturnsInHanded {} Try.checked os 9 .any (Rows.identTextsSpec.pre6 enc Try.prog Try.f9 Rows.identTextsRow.domain false) (Rows.identTextsSpec.post enc Try.prog Try.f9 false true false false) := by
  refine returnsInHanded_of_change (C := Try.checked) (show ownKnob Try.prog.godebug = none by kernel_rfl) started (by kernel_rfl) Try.func9
    (ChangeSpec.witness6 (enc := enc) (C := Try.checked) false ⟨#[], #[.string ⟨#[]⟩, .int .u64 0, .int .i64 0, .int .i64 0, .int .i64 0], []⟩ 8 (by kernel_rfl) (by kernel_rfl) (by kernel_rfl) (by kernel_rfl)) ?_
  intro W base args ds gs before hval0 hW hcnd _
  have hval : ∀ (j : Nat) t v, Try.f9.params[j]? = some t → args[j]? = some v → Value.okWide Try.prog W .any base t v := hval0
  have hW' := hW
  obtain ⟨p, q, hA0, hV, rfl, hfz, hnd⟩ := hW
  have hA : DataW.TrodAll enc Try.prog W 0 (fun _ => true) true Try.f9.params.toList args.toList ds p := hA0
  rw [Try.params9] at hA hval
  obtain ⟨v0, vs0, d0, ds0, p0, q0, hargs, rfl, rfl, h0, r0⟩ := trodAll_cons hA
  obtain ⟨v1, vs1, d1, ds1, p1, q1, rfl, rfl, rfl, h1, r1⟩ := trodAll_cons r0
  obtain ⟨v2, vs2, d2, ds2, p2, q2, rfl, rfl, rfl, h2, r2⟩ := trodAll_cons r1
  obtain ⟨v3, vs3, d3, ds3, p3, q3, rfl, rfl, rfl, h3, r3⟩ := trodAll_cons r2
  obtain ⟨v4, vs4, d4, ds4, p4, q4, rfl, rfl, rfl, h4, r4⟩ := trodAll_cons r3
  obtain ⟨rfl, rfl, rfl⟩ := trodAll_nil r4
  obtain rfl : args = #[v0, v1, v2, v3, v4] := by cases args; simp_all
  obtain ⟨rfl, rfl⟩ := trodVars_none hV
  obtain ⟨s, rfl, rfl, rfl, wf_s⟩ := open_str Try.underlying9 (hval 0 9 v0 rfl rfl) h0
  obtain ⟨v, rfl, rfl, rfl, wf_v⟩ := open_int Try.underlying22 (hval 1 22 v1 rfl rfl) h1
  obtain ⟨x, rfl, rfl, rfl, wf_x⟩ := open_int Try.underlying2 (hval 2 2 v2 rfl rfl) h2
  obtain ⟨y, rfl, rfl, rfl, wf_y⟩ := open_int Try.underlying2 (hval 3 2 v3 rfl rfl) h3
  obtain ⟨r, rfl, rfl, rfl, wf_r⟩ := open_int Try.underlying3 (hval 4 3 v4 rfl rfl) h4
  clear hA0 hval0
  simp only [List.append_nil] at hW'
  refine (identtexts_walk s v x y r wf_s (wf_u64 wf_v).1 (wf_u64 wf_v).2 (wf_i64 wf_x).1 (wf_i64 wf_x).2 (wf_i64 wf_y).1 (wf_i64 wf_y).2 (wf_i64 wf_r).1 (wf_i64 wf_r).2 W).mono fun e W' ⟨he, hb⟩ => ?_
  subst he
  exact ⟨_, rfl, post_of_below (pa := []) (pv := []) hW' (fun _ _ _ => (trodAll_cons_mk (shut_bool Try.underlying4 _) trodAll_mk0)) (fun sp _ => (trodAll_cons_mk (shut_str Try.underlying9 wf_s) (trodAll_cons_mk (shut_int Try.underlying22 wf_v) (trodAll_cons_mk (shut_int Try.underlying2 wf_x) (trodAll_cons_mk (shut_int Try.underlying2 wf_y) (trodAll_cons_mk (shut_int Try.underlying3 wf_r) trodAll_mk0)))))) (fun _ _ => rfl) rfl hb
    (ok_one (by kernel_rfl) rfl (okWide_bool_mk Try.underlying4 _))⟩
theorem identTexts_holds : Rows.IdentTextsSaid :=
  OpenClaim.holds_of_wide 9 Try.f9 rfl rfl rfl rfl rfl rfl rfl ⟨rfl, rfl, rfl, rfl, rfl⟩ rfl rfl rfl rfl rfl (by kernel_rfl) Try.func9 (by kernel_rfl)
    (of_decide_eq_true (by kernel_rfl)) (by unfold Func.isWrapper; first | (rw [if_pos (by decide +kernel)]; kernel_rfl) | (rw [if_neg (by decide +kernel)]; exact ⟨rfl, rfl⟩))
    (fun os started H enc _ => identTexts_lifted os started H enc)
end
#print axioms identTexts_holds
end Go.Proofs.Ytmipkloleklnkaa

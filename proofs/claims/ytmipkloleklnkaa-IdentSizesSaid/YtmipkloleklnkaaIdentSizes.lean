/- IdentSizes: a word says its size, its parent's one less, and sevens stand behind its digits. No condition. -/
import Derived.Test.YtmipkloleklnkaaIdSizesLaw
namespace Go.Proofs.Ytmipkloleklnkaa
open Go.RowKit
set_option linter.unusedSimpArgs false
set_option linter.unusedVariables false
set_option maxRecDepth 100000 in
set_option maxHeartbeats 4000000 in
theorem identsizes_walk (x y r : Int) (hx : -9223372036854775808 ≤ x) (hx' : x ≤ 9223372036854775807) (hy : -9223372036854775808 ≤ y) (hy' : y ≤ 9223372036854775807) (hr : -9223372036854775808 ≤ r) (hr' : r ≤ 9223372036854775807) (w : World) :
    Calls Try.prog 7 #[.int .i64 x, .int .i64 y, .int .i64 r] w fun e w' => e = .returned (.bool true) ∧ Below w.heap.size w w' := by
  have W1 := law5_word x y r hx hx' hy hy' hr hr'
  generalize (r.tmod 13 + 13).tmod 13 = R at W1
  have H1 := Lib.hid W1
  clear W1
  go_enter Try.func7, Try.ntmps7
  go_wp2_with fail
  refine (H1.out _).mono ?_
  rintro e_1 w_1 ⟨a, b, rfl, ok1, hb_1⟩
  obtain ⟨g1, rfl⟩ := bw_of hb_1
  clear hb_1 H1
  obtain ⟨⟨r1, r2⟩, _, _⟩ := okB_true ok1
  obtain ⟨n, hn⟩ : ∃ n : Nat, R = (n : Int) := ⟨R.toNat, by omega⟩
  subst hn
  obtain ⟨⟨p1, p2⟩, p3, p4, p5⟩ := word_of ok1
  rw [Int.toNat_natCast] at *
  have RS := id_res _ p1 p2
  rw [show rsV (wv a b n) = (n : Int) by unfold rsV; rw [p3, p4]; rfl] at RS
  have HRS := Lib.hid RS
  have HOK := Lib.hid ok1
  have HP := Lib.hid (rfl : wv a b n = wv a b n)
  clear RS p1 p2 p3 p4 p5 ok1
  obtain ⟨P, hP⟩ : ∃ P, wv a b n = P := ⟨_, rfl⟩
  rw [hP] at HRS ⊢
  have HPP := Lib.hid hP
  clear hP
  go_wp2_with fail
  refine (HRS.out _).mono ?_
  rintro e_2 w_2 ⟨rfl, hb_2⟩
  obtain ⟨g2, rfl⟩ := g1.next hb_2
  clear hb_2
  go_wp2_with fail
  go_loopg [7, 8] n (fun k v i W => ∃ a b : Int, okB (k : Int) a b = true ∧ v = .int .u64 (wv a b k) ∧ i = .int .i64 (k : Int) ∧ Below w.heap.size w W)
  case atStart => exact ⟨a, b, HOK.out, by rw [HPP.out], rfl, by repeat (first | with_reducible exact Below.refl _ _ | with_reducible refine bl_alloc ?_ _ | with_reducible refine bl_drewN ?_ _ | with_reducible refine bl_drew ?_ | (with_reducible refine bl_set ?_ ?_ _; rotate_left; focus (first | (simp; done) | (simp; omega) | omega)) | with_reducible refine below_step ?_ (Bw.below _) | with_reducible refine below_step ?_ (by assumption))⟩
  case round =>
    clear HOK HPP HRS HP
    obtain ⟨a, b, ok, rfl, rfl, hb⟩ := hrel
    obtain ⟨g, rfl⟩ := bw_of hb
    clear hb
    obtain ⟨⟨p1, p2⟩, p3, p4, p5⟩ := word_of ok
    rw [Int.toNat_natCast] at *
    obtain ⟨⟨r3, r4⟩, _, _⟩ := okB_true ok
    rcases Nat.eq_zero_or_pos gk with h0 | h0
    · subst h0
      have UP := Lib.hid (id_up_top _ p1 p2 p3 p4)
      clear p1 p2 p3 p4 p5 ok
      generalize wv a b 0 = P0 at *
      go_wp2_with fail
      refine (UP.out _).mono ?_
      rintro e_g3 w_g3 ⟨rfl, hb_g3⟩
      obtain ⟨g3, rfl⟩ := g.next hb_g3
      clear hb_g3
      go_wp2_with fail
      refine (awake5 _).mono ?_
      rintro e_g4 w_g4 ⟨rfl, hb_g4⟩
      obtain ⟨g4, rfl⟩ := g3.next hb_g4
      clear hb_g4
      go_wp2_with fail
      go_ret
      exact ⟨rfl, by repeat (first | with_reducible exact Below.refl _ _ | with_reducible refine bl_alloc ?_ _ | with_reducible refine bl_drewN ?_ _ | with_reducible refine bl_drew ?_ | (with_reducible refine bl_set ?_ ?_ _; rotate_left; focus (first | (simp; done) | (simp; omega) | omega)) | with_reducible refine below_step ?_ (Bw.below _) | with_reducible refine below_step ?_ (by assumption))⟩
    · obtain ⟨m, rfl⟩ : ∃ m, gk = m + 1 := ⟨gk - 1, by omega⟩
      have UP := id_up _ p1 p2 m p3 (by rw [p4]; omega)
      rw [p5] at UP
      have oku := ok_up ((m + 1 : Nat) : Int) a b (m : Int) 1 ok (by omega) (by omega)
      have okU : okB (m : Int) (upA a b) (upB a b) = true := oku
      obtain ⟨⟨q1, q2⟩, q3, q4, q5⟩ := word_of okU
      rw [Int.toNat_natCast] at q1 q2 q3 q4 q5
      have RS := id_res _ q1 q2
      rw [show rsV (wv (upA a b) (upB a b) m) = (m : Int) by unfold rsV; rw [q3, q4]; rfl] at RS
      have OK := id_ok _ q1 q2
      rw [q3] at OK
      have h7 : wv (upA a b) (upB a b) m / 2 ^ (33 - 3 * m) % 8 = 7 := by
        obtain ⟨_, _, hg⟩ := wG_true q3
        have := (hg (m + 1) (by omega) (by omega)).2 (by rw [q4]; omega)
        unfold fd at this
        rw [show 36 - 3 * (m + 1) = 33 - 3 * m by omega] at this
        exact this
      have O7 := or_seven _ (33 - 3 * m) (by omega) q1 q2 h7
      obtain ⟨i, hi⟩ : ∃ i : Int, ((m + 1 : Nat) : Int) = i := ⟨_, rfl⟩
      have w7 : IntKind.u64.wrap (7 * 2 ^ (36 - 3 * i).toNat) = 7 * 2 ^ (33 - 3 * m) := by
        have hp := pow_pos (33 - 3 * m)
        have hp2 := pow_le (33 - 3 * m) 33 (by omega)
        have e33 : (2 : Int) ^ 33 = 8589934592 := by decide
        rw [show (36 - 3 * i).toNat = 33 - 3 * m by omega, IntKind.wrap_u64]
        omega
      have him : i - 1 = (m : Int) := by omega
      have i1 : 1 ≤ i := by omega
      have i12 : i ≤ 12 := by omega
      rw [hi]
      have HUP := Lib.hid UP
      have HRS := Lib.hid RS
      have HOK := Lib.hid OK
      have HU := Lib.hid okU
      clear UP RS OK oku okU p1 p2 p3 p4 p5 q1 q2 q3 q4 q5 ok h7 hi r3 r4
      generalize (7 : Int) * 2 ^ (33 - 3 * m) = M7 at *
      obtain ⟨Q, hQ⟩ : ∃ Q, wv (upA a b) (upB a b) m = Q := ⟨_, rfl⟩
      rw [hQ] at HUP HRS HOK O7
      have HQ := Lib.hid hQ
      clear hQ
      generalize wv a b (m + 1) = P at *
      go_wp2_with fail
      refine (HUP.out _).mono ?_
      rintro e_g3 w_g3 ⟨rfl, hb_g3⟩
      obtain ⟨g3, rfl⟩ := g.next hb_g3
      clear hb_g3
      go_wp2_with fail
      refine (HRS.out _).mono ?_
      rintro e_g4 w_g4 ⟨rfl, hb_g4⟩
      obtain ⟨g4, rfl⟩ := g3.next hb_g4
      clear hb_g4
      go_wp2_with fail
      refine (HOK.out _).mono ?_
      rintro e_g5 w_g5 ⟨rfl, hb_g5⟩
      obtain ⟨g5, rfl⟩ := g4.next hb_g5
      clear hb_g5
      go_wp2_with fail
      go_roundg m
      case measure => omega
      case rel => exact ⟨upA a b, upB a b, HU.out, by rw [HQ.out], by first | rfl | (rw [Value.int.injEq]; exact ⟨rfl, by omega⟩), by repeat (first | with_reducible exact Below.refl _ _ | with_reducible refine bl_alloc ?_ _ | with_reducible refine bl_drewN ?_ _ | with_reducible refine bl_drew ?_ | (with_reducible refine bl_set ?_ ?_ _; rotate_left; focus (first | (simp; done) | (simp; omega) | omega)) | with_reducible refine below_step ?_ (Bw.below _) | with_reducible refine below_step ?_ (by assumption))⟩
/-! THE STATEMENT IdentSizes -/
section
open Go.ChangeShapes Go.WideShapes Go.ChangeAt Go.RowKit Go.Joins
set_option linter.unusedVariables false
set_option maxRecDepth 100000 in
theorem identSizes_lifted (os : Os) (started : os.Started) (H : Type) (enc : TypeId × Value → H) :
    ReturnsInHanded {} Try.checked os 7 .any (Rows.identSizesSpec.pre6 enc Try.prog Try.f7 Rows.identSizesRow.domain false) (Rows.identSizesSpec.post enc Try.prog Try.f7 false true false false) := by
  refine returnsInHanded_of_change (C := Try.checked) (show ownKnob Try.prog.godebug = none by kernel_rfl) started (by kernel_rfl) Try.func7
    (ChangeSpec.witness6 (enc := enc) (C := Try.checked) false ⟨#[], #[.int .i64 0, .int .i64 0, .int .i64 0], []⟩ 8 (by kernel_rfl) (by kernel_rfl) (by kernel_rfl) (by kernel_rfl)) ?_
  intro W base args ds gs before hval0 hW hcnd _
  have hval : ∀ (j : Nat) t v, Try.f7.params[j]? = some t → args[j]? = some v → Value.okWide Try.prog W .any base t v := hval0
  have hW' := hW
  obtain ⟨p, q, hA0, hV, rfl, hfz, hnd⟩ := hW
  have hA : DataW.TrodAll enc Try.prog W 0 (fun _ => true) true Try.f7.params.toList args.toList ds p := hA0
  rw [Try.params7] at hA hval
  obtain ⟨v0, vs0, d0, ds0, p0, q0, hargs, rfl, rfl, h0, r0⟩ := trodAll_cons hA
  obtain ⟨v1, vs1, d1, ds1, p1, q1, rfl, rfl, rfl, h1, r1⟩ := trodAll_cons r0
  obtain ⟨v2, vs2, d2, ds2, p2, q2, rfl, rfl, rfl, h2, r2⟩ := trodAll_cons r1
  obtain ⟨rfl, rfl, rfl⟩ := trodAll_nil r2
  obtain rfl : args = #[v0, v1, v2] := by cases args; simp_all
  obtain ⟨rfl, rfl⟩ := trodVars_none hV
  obtain ⟨x, rfl, rfl, rfl, wf_x⟩ := open_int Try.underlying2 (hval 0 2 v0 rfl rfl) h0
  obtain ⟨y, rfl, rfl, rfl, wf_y⟩ := open_int Try.underlying2 (hval 1 2 v1 rfl rfl) h1
  obtain ⟨r, rfl, rfl, rfl, wf_r⟩ := open_int Try.underlying3 (hval 2 3 v2 rfl rfl) h2
  clear hA0 hval0
  simp only [List.append_nil] at hW'
  refine (identsizes_walk x y r (wf_i64 wf_x).1 (wf_i64 wf_x).2 (wf_i64 wf_y).1 (wf_i64 wf_y).2 (wf_i64 wf_r).1 (wf_i64 wf_r).2 W).mono fun e W' ⟨he, hb⟩ => ?_
  subst he
  exact ⟨_, rfl, post_of_below (pa := []) (pv := []) hW' (fun _ _ _ => (trodAll_cons_mk (shut_bool Try.underlying4 _) trodAll_mk0)) (fun sp _ => (trodAll_cons_mk (shut_int Try.underlying2 wf_x) (trodAll_cons_mk (shut_int Try.underlying2 wf_y) (trodAll_cons_mk (shut_int Try.underlying3 wf_r) trodAll_mk0)))) (fun _ _ => rfl) rfl hb
    (ok_one (by kernel_rfl) rfl (okWide_bool_mk Try.underlying4 _))⟩
theorem identSizes_holds : Rows.IdentSizesSaid :=
  OpenClaim.holds_of_wide 7 Try.f7 rfl rfl rfl rfl rfl rfl rfl ⟨rfl, rfl, rfl, rfl, rfl⟩ rfl rfl rfl rfl rfl (by kernel_rfl) Try.func7 (by kernel_rfl)
    (of_decide_eq_true (by kernel_rfl)) (by unfold Func.isWrapper; first | (rw [if_pos (by decide +kernel)]; kernel_rfl) | (rw [if_neg (by decide +kernel)]; exact ⟨rfl, rfl⟩))
    (fun os started H enc _ => identSizes_lifted os started H enc)
end
#print axioms identSizes_holds
end Go.Proofs.Ytmipkloleklnkaa

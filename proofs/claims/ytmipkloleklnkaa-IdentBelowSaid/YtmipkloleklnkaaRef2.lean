
/- The walks of the reference: Small, Two, Mul, Norm, Unit. -/
import Derived.Test.YtmipkloleklnkaaRef
import Derived.Test.YtmipkloleklnkaaEis2
import Derived.Test.YtmipkloleklnkaaTail
namespace Go.Proofs.Ytmipkloleklnkaa
open Go.RowKit

theorem small_yes (x : Int) (h : i64B x = true) : wrap64 (lo64 x) = x := by
  obtain ⟨h1, h2⟩ := i64B_true h
  unfold lo64 wrap64
  omega
theorem small_lo (x : Int) : lo64 (wrap64 (lo64 x)) = lo64 x := by unfold lo64 wrap64; omega
theorem small_no (x : Int) (h : -340282366920938463444927863358058659840 ≤ x) (h' : x ≤ 340282366920938463444927863358058659840) (hn : i64B x = false) :
    hiU (wrap64 (lo64 x)) ≠ hiU x := by
  have h3 := i64B_false hn
  unfold lo64 hiU wrap64
  omega
set_option maxHeartbeats 400000 in
theorem ref_small (x : Int) (h : -340282366920938463444927863358058659840 ≤ x) (h' : x ≤ 340282366920938463444927863358058659840) (w : World) :
    Calls Try.prog 76 #[.agg #[.int .u64 (hiU x), .int .u64 (lo64 x)]] w fun e w' => e = .returned (.tuple #[.int .i64 (okv x), .bool (i64B x)]) ∧ Below w.heap.size w w' := by
  have hw := ref_w (wrap64 (lo64 x)) (by unfold wrap64; omega) (by unfold wrap64; omega)
  rw [small_lo] at hw
  by_cases hx : i64B x = true
  · have e1 := small_yes x hx
    rw [e1] at hw
    have H := Lib.hid hw
    have E := Lib.hid hx
    clear hw hx h h'
    go_enter Try.func76, Try.ntmps76
    go_wp2_with fail
    refine wp_start (fun W => W.cell? ⟨w.heap.size, 0, none⟩ = some (.int .u64 (hiU x)) ∧ W.cell? ⟨w.heap.size, 1, none⟩ = some (.int .u64 (lo64 x)) ∧ Below w.heap.size w W) ⟨by simp [go_sem], by simp [go_sem], by repeat (first | exact Below.refl _ _ | refine bl_alloc ?_ _ | refine bl_drewN ?_ _ | refine bl_drew ?_ | refine bl_set ?_ (by first | (simp; done) | (simp; omega) | omega) _ | refine below_step ?_ (by assumption) | refine below_step ?_ (Bw.below _))⟩ ?_
    rintro W ⟨h1, h2, hW⟩ g
    have c1 := Bw.hold h1
    have c2 := Bw.hold h2
    clear h1 h2
    refine wp_region_bw (by kernel_rfl) (by kernel_rfl) g ?_
    repeat (go_big_quiet_step ((go_at_call 85; with_reducible exact bw_call (H.out _))))
    refine wpQuiet_nil ?_
    rintro _ ⟨g2, rfl⟩
    go_wp2_with fail
    go_ret2
    exact ⟨ret_ib (e1.trans (okv_yes E.out).symm) E.out.symm, by repeat (first | exact Below.refl _ _ | refine bl_alloc ?_ _ | refine bl_drewN ?_ _ | refine bl_drew ?_ | refine bl_set ?_ (by first | (simp; done) | (simp; omega) | omega) _ | refine below_step ?_ (by assumption) | refine below_step ?_ (Bw.below _))⟩
  · have hh : i64B x = false := by simpa using hx
    have e1 : (hiU (wrap64 (lo64 x)) == hiU x) = false := by simpa using small_no x h h' hh
    have H := Lib.hid hw
    have E := Lib.hid hh
    clear hw hx hh h h'
    go_enter Try.func76, Try.ntmps76
    go_wp2_with fail
    refine wp_start (fun W => W.cell? ⟨w.heap.size, 0, none⟩ = some (.int .u64 (hiU x)) ∧ W.cell? ⟨w.heap.size, 1, none⟩ = some (.int .u64 (lo64 x)) ∧ Below w.heap.size w W) ⟨by simp [go_sem], by simp [go_sem], by repeat (first | exact Below.refl _ _ | refine bl_alloc ?_ _ | refine bl_drewN ?_ _ | refine bl_drew ?_ | refine bl_set ?_ (by first | (simp; done) | (simp; omega) | omega) _ | refine below_step ?_ (by assumption) | refine below_step ?_ (Bw.below _))⟩ ?_
    rintro W ⟨h1, h2, hW⟩ g
    have c1 := Bw.hold h1
    have c2 := Bw.hold h2
    clear h1 h2
    refine wp_region_bw (by kernel_rfl) (by kernel_rfl) g ?_
    repeat (go_big_quiet_step ((go_at_call 85; with_reducible exact bw_call (H.out _))))
    refine wpQuiet_nil ?_
    rintro _ ⟨g2, rfl⟩
    go_wp2_with fail
    go_ret2
    exact ⟨ret_ib (okv_no E.out).symm E.out.symm, by repeat (first | exact Below.refl _ _ | refine bl_alloc ?_ _ | refine bl_drewN ?_ _ | refine bl_drew ?_ | refine bl_set ?_ (by first | (simp; done) | (simp; omega) | omega) _ | refine below_step ?_ (by assumption) | refine below_step ?_ (Bw.below _))⟩

theorem two_core (x y : Int) : (if (i64B x && i64B y) = true then okv x else 0) = eA x y x := eA_okv x y
set_option maxHeartbeats 400000 in
theorem ref_two (x y : Int) (hx : -340282366920938463444927863358058659840 ≤ x) (hx' : x ≤ 340282366920938463444927863358058659840) (hy : -340282366920938463444927863358058659840 ≤ y) (hy' : y ≤ 340282366920938463444927863358058659840) (w : World) :
    Calls Try.prog 61 #[.agg #[.int .u64 (hiU x), .int .u64 (lo64 x)], .agg #[.int .u64 (hiU y), .int .u64 (lo64 y)]] w fun e w' => e = .returned (.tuple #[.agg #[.int .i64 (eA x y x), .int .i64 (eA x y y)], .bool (eB x y)]) ∧ Below w.heap.size w w' := by
  have k1 := eA_okv x y
  have k2 := eA_okv' x y
  have K1 := Lib.hid k1
  have K2 := Lib.hid k2
  have S1 := Lib.hid (ref_small x hx hx')
  have S2 := Lib.hid (ref_small y hy hy')
  clear k1 k2 hx hx' hy hy'
  unfold eB
  rcases hb1 : i64B x with _ | _ <;> rcases hb2 : i64B y with _ | _
  all_goals
    rw [hb1] at S1 K1 K2
    rw [hb2] at S2 K1 K2
    clear hb1 hb2
    go_enter Try.func61, Try.ntmps61
    go_wp2_with fail
    refine (S1.out _).mono ?_
    rintro e w1 ⟨rfl, hbw⟩
    obtain ⟨hcell, hfree⟩ := bcell hbw
    have hz := hbw.size
    simp only [World.size_alloc] at hz
    go_wp2_with fail
    refine (S2.out _).mono ?_
    rintro e w2 ⟨rfl, hbw2⟩
    obtain ⟨hcell2, hfree2⟩ := bcell hbw2
    have z1 : w.heap.size + 1 + 1 < w1.heap.size := by omega
    go_wp2_with fail
    have k1 := K1.out
    have k2 := K2.out
    simp at k1 k2
    rw [← k1, ← k2]
    refine bodyPost_ret (v := .tuple #[.agg #[.int .i64 _, .int .i64 _], .bool _]) (by simp [results, Try.results61, go_sem, hcell2, hcell, z1]; done) rfl ⟨rfl, ?_⟩
    repeat (first | exact Below.refl _ _ | refine bl_alloc ?_ _ | refine bl_drewN ?_ _ | refine bl_drew ?_ | refine bl_set ?_ (by first | (simp; done) | (simp; omega) | omega) _ | refine below_step ?_ (by assumption) | refine below_step ?_ (Bw.below _))

set_option maxHeartbeats 600000 in
theorem ref_mul (a b c d : Int) (ha : -9223372036854775808 ≤ a) (ha' : a ≤ 9223372036854775807) (hb : -9223372036854775808 ≤ b) (hb' : b ≤ 9223372036854775807) (hc : -9223372036854775808 ≤ c) (hc' : c ≤ 9223372036854775807) (hd : -9223372036854775808 ≤ d) (hd' : d ≤ 9223372036854775807) (w : World) :
    Calls Try.prog 36 #[.agg #[.int .i64 a, .int .i64 b], .agg #[.int .i64 c, .int .i64 d]] w fun e w' => e = .returned (.tuple #[.agg #[.int .i64 (eA (a * c - b * d) (a * d + b * c + b * d) (a * c - b * d)), .int .i64 (eA (a * c - b * d) (a * d + b * c + b * d) (a * d + b * c + b * d))], .bool (eB (a * c - b * d) (a * d + b * c + b * d))]) ∧ Below w.heap.size w w' := by
  obtain ⟨q1, q2⟩ := p126 a c ha ha' hc hc'
  obtain ⟨q3, q4⟩ := p126 a d ha ha' hd hd'
  obtain ⟨q5, q6⟩ := p126 b c hb hb' hc hc'
  obtain ⟨q7, q8⟩ := p126 b d hb hb' hd hd'
  have T := ref_two (a * c - b * d) (a * d + b * c + b * d) (by omega) (by omega) (by omega) (by omega)
  have P1 := ref_plus (a * c) (-(b * d))
  rw [← Int.sub_eq_add_neg] at P1
  have HT := Lib.hid T
  have HP := Lib.hid P1
  clear T P1 q1 q2 q3 q4 q5 q6 q7 q8
  go_enter Try.func36, Try.ntmps36
  go_wp2_with fail
  refine calls_start (fun W => W.cell? ⟨w.heap.size, 0, none⟩ = some (.int .i64 a) ∧ W.cell? ⟨w.heap.size, 1, none⟩ = some (.int .i64 b)
      ∧ W.cell? ⟨w.heap.size + 1, 0, none⟩ = some (.int .i64 c) ∧ W.cell? ⟨w.heap.size + 1, 1, none⟩ = some (.int .i64 d)
      ∧ W.cell? ⟨w.heap.size + 1 + 1, 0, none⟩ = some (.int .i64 0) ∧ W.cell? ⟨w.heap.size + 1 + 1, 1, none⟩ = some (.int .i64 0) ∧ W.frozen? ⟨w.heap.size + 1 + 1, 0, none⟩ = false ∧ W.frozen? ⟨w.heap.size + 1 + 1, 1, none⟩ = false
      ∧ Below w.heap.size w W) ⟨by simp [go_sem], by simp [go_sem], by simp [go_sem], by simp [go_sem], by simp [go_sem], by simp [go_sem], by simp [go_sem], by simp [go_sem], by repeat (first | exact Below.refl _ _ | refine bl_alloc ?_ _ | refine bl_drewN ?_ _ | refine bl_drew ?_ | refine bl_set ?_ (by first | (simp; done) | (simp; omega) | omega) _ | refine below_step ?_ (by assumption) | refine below_step ?_ (Bw.below _))⟩ ?_
  rintro W ⟨h1, h2, h3, h4, h5, h6, h7, h8, hW⟩ g
  refine (ref_times b d hb hb' hd hd' _).mono ?_
  rintro e w1 ⟨rfl, hbw1⟩
  obtain ⟨g1, rfl⟩ := g.next hbw1
  go_wp2_with fail
  refine wp_start (fun V => V.cell? ⟨w.heap.size, 0, none⟩ = some (.int .i64 a) ∧ V.cell? ⟨w.heap.size, 1, none⟩ = some (.int .i64 b)
      ∧ V.cell? ⟨w.heap.size + 1, 0, none⟩ = some (.int .i64 c) ∧ V.cell? ⟨w.heap.size + 1, 1, none⟩ = some (.int .i64 d)
      ∧ V.cell? ⟨w.heap.size + 1 + 1, 0, none⟩ = some (.int .i64 0) ∧ V.cell? ⟨w.heap.size + 1 + 1, 1, none⟩ = some (.int .i64 0) ∧ V.frozen? ⟨w.heap.size + 1 + 1, 0, none⟩ = false ∧ V.frozen? ⟨w.heap.size + 1 + 1, 1, none⟩ = false
      ∧ V.cell? ⟨g1.out.heap.size, 0, none⟩ = some (.int .u64 (hiU (b * d))) ∧ V.cell? ⟨g1.out.heap.size, 1, none⟩ = some (.int .u64 (lo64 (b * d))) ∧ Below w.heap.size w V)
    ⟨g1.al h1 _, g1.al h2 _, g1.al h3 _, g1.al h4 _, g1.al h5 _, g1.al h6 _, g1.alF h5 h7 _, g1.alF h6 h8 _, by simp [go_sem], by simp [go_sem], by repeat (first | exact Below.refl _ _ | refine bl_alloc ?_ _ | refine bl_drewN ?_ _ | refine bl_drew ?_ | refine bl_set ?_ (by first | (simp; done) | (simp; omega) | omega) _ | refine below_step ?_ (by assumption) | refine below_step ?_ (Bw.below _))⟩ ?_
  clear h1 h2 h3 h4 h5 h6 h7 h8
  rintro V ⟨h1, h2, h3, h4, h5, h6, h7, h8, h9, h10, hV⟩ g
  have c1 := Bw.hold h1
  have c2 := Bw.hold h2
  have c3 := Bw.hold h3
  have c4 := Bw.hold h4
  have c5 := Bw.hold h5
  have c6 := Bw.hold h6
  have c7 := Bw.free h5 h7
  have c8 := Bw.free h6 h8
  have c9 := Bw.hold h9
  have c10 := Bw.hold h10
  clear h1 h2 h3 h4 h5 h6 h7 h8 h9 h10
  refine wp_region_bw_tail 24 (by kernel_rfl) (by kernel_rfl) g ?_
  simp only [List.take_succ_cons, List.take_zero, List.drop_succ_cons, List.drop_zero]
  repeat (go_big_quiet_step ((first
    | (go_at_call 60; first | with_reducible exact bw_call (ref_times a c ha ha' hc hc' _) | with_reducible exact bw_call (ref_times a d ha ha' hd hd' _) | with_reducible exact bw_call (ref_times b c hb hb' hc hc' _))
    | (go_at_call 63; with_reducible exact bw_call (ref_turned (b * d) _))
    | (go_at_call 62; first | with_reducible exact bw_call (HP.out _) | with_reducible exact bw_call (ref_plus (a * d) (b * c) _) | with_reducible exact bw_call (ref_plus (a * d + b * c) (b * d) _))
    | (go_at_call 61; with_reducible exact bw_call (HT.out _)))))
  refine wpQuiet_nil ?_
  rintro _ ⟨g2, rfl⟩
  go_wp2_with fail
  refine bodyPost_ret (v := .tuple #[.agg #[.int .i64 (eA (a * c - b * d) (a * d + b * c + b * d) (a * c - b * d)), .int .i64 (eA (a * c - b * d) (a * d + b * c + b * d) (a * d + b * c + b * d))], .bool (eB (a * c - b * d) (a * d + b * c + b * d))]) (by simp [results, Try.results36, go_sem, c5, c6]) rfl ⟨rfl, ?_⟩
  repeat (first | exact Below.refl _ _ | refine bl_alloc ?_ _ | refine bl_drewN ?_ _ | refine bl_drew ?_ | refine bl_set ?_ (by first | (simp; done) | (simp; omega) | omega) _ | refine below_step ?_ (by assumption) | refine below_step ?_ (Bw.below _))

set_option maxHeartbeats 1000000 in
theorem ref_unit (k : Int) (w : World) :
    Calls Try.prog 37 #[.int .i64 k] w fun e w' => e = .returned (.agg #[.int .i64 (uA (k % 6)), .int .i64 (uB (k % 6))]) ∧ Below w.heap.size w w' := by
  rcases tmod6 k with ⟨t, j⟩ | ⟨t, j⟩ | ⟨t, j⟩ | ⟨t, j⟩ | ⟨t, j⟩ | ⟨t, j⟩ | ⟨t, j⟩ | ⟨t, j⟩ | ⟨t, j⟩ | ⟨t, j⟩ | ⟨t, j⟩
  all_goals
    rw [j]
    clear j
    go_enter Try.func37, Try.ntmps37
    go_wp2
    refine bodyPost_ret (v := .agg #[.int .i64 (uA _), .int .i64 (uB _)]) (by simp [results, Try.results37, go_sem, uA, uB]; done) rfl ⟨rfl, ?_⟩
    repeat (first | exact Below.refl _ _ | refine bl_alloc ?_ _ | refine bl_drewN ?_ _ | refine bl_drew ?_ | refine bl_set ?_ (by first | (simp; done) | (simp; omega) | omega) _ | refine below_step ?_ (by assumption) | refine below_step ?_ (Bw.below _))
end Go.Proofs.Ytmipkloleklnkaa

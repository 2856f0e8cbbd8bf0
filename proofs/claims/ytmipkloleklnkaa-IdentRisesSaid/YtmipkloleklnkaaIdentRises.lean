/- IdentRises: words of one size stand as their parents' do, then by their digits. No condition. -/
import Derived.Test.YtmipkloleklnkaaIdSizesLaw
namespace Go.Proofs.Ytmipkloleklnkaa
open Go.RowKit
set_option linter.unusedSimpArgs false
set_option linter.unusedVariables false
/-- The facts of a word of a size above 0. -/
theorem rise_facts (a b : Int) (n : Nat) (ok : okB ((n : Int) + 1) a b = true) : ∃ ua ub d : Int, upA a b = ua ∧ upB a b = ub ∧ dgz a b = d ∧ (0 ≤ wv a b (n + 1) ∧ wv a b (n + 1) < 18446744073709551616) ∧
    Hid (∀ w, Calls Try.prog 26 #[.int .u64 (wv a b (n + 1))] w fun e w' => e = .returned (.tuple #[.int .u64 (wv ua ub n), .int .i64 0]) ∧ Below w.heap.size w w') ∧
    Hid (∀ w, Calls Try.prog 12 #[.int .u64 (wv a b (n + 1))] w fun e w' => e = .returned (.tuple #[.agg #[.int .i64 ((n : Int) + 1), .int .i64 a, .int .i64 b], .int .i64 0]) ∧ Below w.heap.size w w') ∧
    Hid (∀ w, Calls Try.prog 24 #[.agg #[.int .i64 ((n : Int) + 1), .int .i64 a, .int .i64 b]] w fun e w' => e = .returned (.int .i64 d) ∧ Below w.heap.size w w') ∧
    Hid (∀ w, Calls Try.prog 21 #[.int .u64 (wv a b (n + 1))] w fun e w' => e = .returned (.int .i64 ((n : Int) + 1)) ∧ Below w.heap.size w w') := by
  obtain ⟨⟨p1, p2⟩, p3, p4, p5⟩ := word_of ok
  rw [show ((n : Int) + 1).toNat = n + 1 by omega] at p1 p2 p3 p4 p5
  have UP := id_up _ p1 p2 n p3 p4
  have CE := id_cell_yes _ p1 p2 p3
  have RS := id_res _ p1 p2
  rw [p5] at UP
  rw [p4, p5] at CE
  rw [show rsV (wv a b (n + 1)) = (n : Int) + 1 by unfold rsV; rw [p3, p4]; rfl] at RS
  have DG := cell_Digit ((n : Int) + 1) a b
  rw [show digV ((n : Int) + 1) a b = dgz a b by unfold digV; rw [if_pos ⟨ok, by omega⟩]] at DG
  exact ⟨_, _, _, rfl, rfl, rfl, ⟨p1, p2⟩, Lib.hid UP, Lib.hid CE, Lib.hid DG, Lib.hid RS⟩
set_option maxRecDepth 100000 in
set_option maxHeartbeats 8000000 in
theorem identrises_walk (x y u v r : Int) (hx : -9223372036854775808 ≤ x) (hx' : x ≤ 9223372036854775807) (hy : -9223372036854775808 ≤ y) (hy' : y ≤ 9223372036854775807) (hu : -9223372036854775808 ≤ u) (hu' : u ≤ 9223372036854775807) (hv : -9223372036854775808 ≤ v) (hv' : v ≤ 9223372036854775807) (hr : -9223372036854775808 ≤ r) (hr' : r ≤ 9223372036854775807) (w : World) :
    Calls Try.prog 10 #[.int .i64 x, .int .i64 y, .int .i64 u, .int .i64 v, .int .i64 r] w fun e w' => e = .returned (.bool true) ∧ Below w.heap.size w w' := by
  have W1 := law5_word x y r hx hx' hy hy' hr hr'
  have W2 := law5_word u v r hu hu' hv hv' hr hr'
  generalize (r.tmod 13 + 13).tmod 13 = R at W1 W2
  have H1 := Lib.hid W1
  have H2 := Lib.hid W2
  clear W1 W2
  go_enter Try.func10, Try.ntmps10
  go_wp2_with fail
  refine (H1.out _).mono ?_
  rintro e_1 w_1 ⟨a, b, rfl, ok1, hb_1⟩
  obtain ⟨g1, rfl⟩ := bw_of hb_1
  clear hb_1
  go_wp2_with fail
  refine (H2.out _).mono ?_
  rintro e_2 w_2 ⟨c, d, rfl, ok2, hb_2⟩
  obtain ⟨g2, rfl⟩ := g1.next hb_2
  clear hb_2 H1 H2
  obtain ⟨⟨r1, r2⟩, _, _⟩ := okB_true ok1
  rcases (show R = 0 ∨ 0 < R by omega) with h0 | h0
  · subst h0
    obtain ⟨⟨p1, p2⟩, p3, p4, _⟩ := word_of ok1
    obtain ⟨⟨q1, q2⟩, q3, q4, _⟩ := word_of ok2
    have RS1 := id_res _ p1 p2
    rw [show rsV (wv a b (0 : Int).toNat) = 0 by unfold rsV; rw [p3, p4]; rfl] at RS1
    have RS2 := id_res _ q1 q2
    rw [show rsV (wv c d (0 : Int).toNat) = 0 by unfold rsV; rw [q3, q4]; rfl] at RS2
    have HR1 := Lib.hid RS1
    have HR2 := Lib.hid RS2
    clear RS1 RS2 p1 p2 p3 p4 q1 q2 q3 q4 ok1 ok2
    generalize wv a b (0 : Int).toNat = P at *
    generalize wv c d (0 : Int).toNat = Q at *
    by_cases hPQ : P ≤ Q
    · have hd : ¬ Q < P := by omega
      clear hPQ
      go_wp2_with fail
      refine (HR1.out _).mono ?_
      rintro e_g3 w_g3 ⟨rfl, hb_g3⟩
      obtain ⟨g3, rfl⟩ := g2.next hb_g3
      clear hb_g3
      go_wp2_with fail
      refine (awake5 _).mono ?_
      rintro e_g4 w_g4 ⟨rfl, hb_g4⟩
      obtain ⟨g4, rfl⟩ := g3.next hb_g4
      clear hb_g4
      go_wp2_with fail
      go_ret
      exact ⟨rfl, by repeat (first | with_reducible exact Below.refl _ _ | with_reducible refine bl_alloc ?_ _ | with_reducible refine bl_drewN ?_ _ | with_reducible refine bl_drew ?_ | (with_reducible refine bl_set ?_ ?_ _; rotate_left; focus (first | (simp; done) | (simp; omega) | omega)) | with_reducible refine below_step ?_ (Bw.below _) | with_reducible refine below_step ?_ (by assumption))⟩
    · have hd : Q < P := by omega
      clear hPQ
      go_wp2_with fail
      refine (HR2.out _).mono ?_
      rintro e_g3 w_g3 ⟨rfl, hb_g3⟩
      obtain ⟨g3, rfl⟩ := g2.next hb_g3
      clear hb_g3
      go_wp2_with fail
      refine (awake5 _).mono ?_
      rintro e_g4 w_g4 ⟨rfl, hb_g4⟩
      obtain ⟨g4, rfl⟩ := g3.next hb_g4
      clear hb_g4
      go_wp2_with fail
      go_ret
      exact ⟨rfl, by repeat (first | with_reducible exact Below.refl _ _ | with_reducible refine bl_alloc ?_ _ | with_reducible refine bl_drewN ?_ _ | with_reducible refine bl_drew ?_ | (with_reducible refine bl_set ?_ ?_ _; rotate_left; focus (first | (simp; done) | (simp; omega) | omega)) | with_reducible refine below_step ?_ (Bw.below _) | with_reducible refine below_step ?_ (by assumption))⟩
  · obtain ⟨n, hn⟩ : ∃ n : Nat, R = (n : Int) + 1 := ⟨(R - 1).toNat, by omega⟩
    subst hn
    have hn12 : n < 12 := by omega
    rw [show ((n : Int) + 1).toNat = n + 1 by omega]
    obtain ⟨ua, ub, da, e1, e2, e3, _, UP1, CE1, DG1, RS1⟩ := rise_facts a b n ok1
    obtain ⟨uc, ud, dc, e4, e5, e6, _, UP2, CE2, DG2, RS2⟩ := rise_facts c d n ok2
    have K1 := rises a b c d n hn12
    have K2 := rises c d a b n hn12
    rw [e1, e2, e3, e4, e5, e6] at K1 K2
    clear e1 e2 e3 e4 e5 e6 ok1 ok2
    generalize wv a b (n + 1) = P at *
    generalize wv c d (n + 1) = Q at *
    generalize wv ua ub n = PP at *
    generalize wv uc ud n = QQ at *
    by_cases hPQ : P ≤ Q
    · obtain ⟨t1, t2, t3⟩ := K1 (by omega)
      have hd : ¬ Q < P := by omega
      have hd2 : ¬ QQ < PP := by omega
      clear hPQ K1 K2
      by_cases hpp : PP = QQ
      · have t4 := t2 hpp
        have q1 : (PP == QQ) = true := by simp [hpp]
        have q2 : decide (da < dc) = decide (P < Q) := decide_eq_decide.2 t4
        clear t1 t2 t3 t4 hpp
        go_wp2_with fail
        refine (RS1.out _).mono ?_
        rintro e_g3 w_g3 ⟨rfl, hb_g3⟩
        obtain ⟨g3, rfl⟩ := g2.next hb_g3
        clear hb_g3
        go_wp2_with fail
        refine (UP1.out _).mono ?_
        rintro e_g4 w_g4 ⟨rfl, hb_g4⟩
        obtain ⟨g4, rfl⟩ := g3.next hb_g4
        clear hb_g4
        go_wp2_with fail
        refine (UP2.out _).mono ?_
        rintro e_g5 w_g5 ⟨rfl, hb_g5⟩
        obtain ⟨g5, rfl⟩ := g4.next hb_g5
        clear hb_g5
        go_wp2_with fail
        refine (CE1.out _).mono ?_
        rintro e_g6 w_g6 ⟨rfl, hb_g6⟩
        obtain ⟨g6, rfl⟩ := g5.next hb_g6
        clear hb_g6
        go_wp2_with fail
        refine calls_start (fun V => V.cell? ⟨g6.out.heap.size, 0, none⟩ = some (.int .i64 ((n : Int) + 1)) ∧ V.cell? ⟨g6.out.heap.size, 1, none⟩ = some (.int .i64 a) ∧ V.cell? ⟨g6.out.heap.size, 2, none⟩ = some (.int .i64 b) ∧ Below w.heap.size w V) ⟨by first | with_reducible assumption | (simp [go_sem]; done), by first | with_reducible assumption | (simp [go_sem]; done), by first | with_reducible assumption | (simp [go_sem]; done), by repeat (first | with_reducible exact Below.refl _ _ | with_reducible refine bl_alloc ?_ _ | with_reducible refine bl_drewN ?_ _ | with_reducible refine bl_drew ?_ | (with_reducible refine bl_set ?_ ?_ _; rotate_left; focus (first | (simp; done) | (simp; omega) | omega)) | with_reducible refine below_step ?_ (Bw.below _) | with_reducible refine below_step ?_ (by assumption))⟩ ?_
        rintro V ⟨hta1, hta2, hta3, hWta⟩ gta
        have ta1 := Bw.hold hta1
        have ta2 := Bw.hold hta2
        have ta3 := Bw.hold hta3
        have taz1 := fun g : Bw V => cell_lt (ta1 g)
        have tay1 := fun g : Bw V => Nat.le_of_lt (taz1 g)
        clear hta1 hta2 hta3
        refine (CE2.out _).mono ?_
        rintro e_g7 w_g7 ⟨rfl, hb_g7⟩
        obtain ⟨g7, rfl⟩ := gta.next hb_g7
        clear hb_g7
        go_wp2_with fail
        refine wp_start (fun V2 => V2.cell? ⟨g6.out.heap.size, 0, none⟩ = some (.int .i64 ((n : Int) + 1)) ∧ V2.cell? ⟨g6.out.heap.size, 1, none⟩ = some (.int .i64 a) ∧ V2.cell? ⟨g6.out.heap.size, 2, none⟩ = some (.int .i64 b) ∧ V2.cell? ⟨g7.out.heap.size, 0, none⟩ = some (.int .i64 ((n : Int) + 1)) ∧ V2.cell? ⟨g7.out.heap.size, 1, none⟩ = some (.int .i64 c) ∧ V2.cell? ⟨g7.out.heap.size, 2, none⟩ = some (.int .i64 d) ∧ Below w.heap.size w V2) ⟨by first | with_reducible assumption | (simp [go_sem]; done) | with_reducible exact hold_al ta1 _ _ | with_reducible exact hold_al ta2 _ _ | with_reducible exact hold_al ta3 _ _ | (simp [go_sem, ta1, ta2, ta3, taz1, tay1]; done), by first | with_reducible assumption | (simp [go_sem]; done) | with_reducible exact hold_al ta1 _ _ | with_reducible exact hold_al ta2 _ _ | with_reducible exact hold_al ta3 _ _ | (simp [go_sem, ta1, ta2, ta3, taz1, tay1]; done), by first | with_reducible assumption | (simp [go_sem]; done) | with_reducible exact hold_al ta1 _ _ | with_reducible exact hold_al ta2 _ _ | with_reducible exact hold_al ta3 _ _ | (simp [go_sem, ta1, ta2, ta3, taz1, tay1]; done), by first | with_reducible assumption | (simp [go_sem]; done) | with_reducible exact hold_al ta1 _ _ | with_reducible exact hold_al ta2 _ _ | with_reducible exact hold_al ta3 _ _ | (simp [go_sem, ta1, ta2, ta3, taz1, tay1]; done), by first | with_reducible assumption | (simp [go_sem]; done) | with_reducible exact hold_al ta1 _ _ | with_reducible exact hold_al ta2 _ _ | with_reducible exact hold_al ta3 _ _ | (simp [go_sem, ta1, ta2, ta3, taz1, tay1]; done), by first | with_reducible assumption | (simp [go_sem]; done) | with_reducible exact hold_al ta1 _ _ | with_reducible exact hold_al ta2 _ _ | with_reducible exact hold_al ta3 _ _ | (simp [go_sem, ta1, ta2, ta3, taz1, tay1]; done), by repeat (first | with_reducible exact Below.refl _ _ | with_reducible refine bl_alloc ?_ _ | with_reducible refine bl_drewN ?_ _ | with_reducible refine bl_drew ?_ | (with_reducible refine bl_set ?_ ?_ _; rotate_left; focus (first | (simp; done) | (simp; omega) | omega)) | with_reducible refine below_step ?_ (Bw.below _) | with_reducible refine below_step ?_ (by assumption))⟩ ?_
        rintro V2 ⟨htb1, htb2, htb3, htb4, htb5, htb6, hWtb⟩ gtb
        have tb1 := Bw.hold htb1
        have tb2 := Bw.hold htb2
        have tb3 := Bw.hold htb3
        have tb4 := Bw.hold htb4
        have tb5 := Bw.hold htb5
        have tb6 := Bw.hold htb6
        have tbz1 := fun g : Bw V2 => cell_lt (tb1 g)
        have tby1 := fun g : Bw V2 => Nat.le_of_lt (tbz1 g)
        have tbz4 := fun g : Bw V2 => cell_lt (tb4 g)
        have tby4 := fun g : Bw V2 => Nat.le_of_lt (tbz4 g)
        clear htb1 htb2 htb3 htb4 htb5 htb6
        clear ta1 ta2 ta3 taz1 tay1
        refine wp_region_bw (by kernel_rfl) (by kernel_rfl) gtb ?_
        repeat (go_big_quiet_step ((first
          | (go_at_call 24; first | with_reducible exact bw_call (DG1.out _) | with_reducible exact bw_call (DG2.out _))
          | (go_at_call 15; with_reducible exact bw_call (awake5 _)))))
        refine wpQuiet_nil ?_
        rintro _ ⟨g8, rfl⟩
        go_wp2_with fail
        go_ret
        exact ⟨rfl, by repeat (first | with_reducible exact Below.refl _ _ | with_reducible refine bl_alloc ?_ _ | with_reducible refine bl_drewN ?_ _ | with_reducible refine bl_drew ?_ | (with_reducible refine bl_set ?_ ?_ _; rotate_left; focus (first | (simp; done) | (simp; omega) | omega)) | with_reducible refine below_step ?_ (Bw.below _) | with_reducible refine below_step ?_ (by assumption))⟩
      · have t4 := t3 hpp
        have q1 : (PP == QQ) = false := by simp [hpp]
        clear t1 t2 t3 hpp
        go_wp2_with fail
        refine (RS1.out _).mono ?_
        rintro e_g3 w_g3 ⟨rfl, hb_g3⟩
        obtain ⟨g3, rfl⟩ := g2.next hb_g3
        clear hb_g3
        go_wp2_with fail
        refine (UP1.out _).mono ?_
        rintro e_g4 w_g4 ⟨rfl, hb_g4⟩
        obtain ⟨g4, rfl⟩ := g3.next hb_g4
        clear hb_g4
        go_wp2_with fail
        refine (UP2.out _).mono ?_
        rintro e_g5 w_g5 ⟨rfl, hb_g5⟩
        obtain ⟨g5, rfl⟩ := g4.next hb_g5
        clear hb_g5
        go_wp2_with fail
        refine (awake5 _).mono ?_
        rintro e_g6 w_g6 ⟨rfl, hb_g6⟩
        obtain ⟨g6, rfl⟩ := g5.next hb_g6
        clear hb_g6
        go_wp2_with fail
        go_ret
        exact ⟨rfl, by repeat (first | with_reducible exact Below.refl _ _ | with_reducible refine bl_alloc ?_ _ | with_reducible refine bl_drewN ?_ _ | with_reducible refine bl_drew ?_ | (with_reducible refine bl_set ?_ ?_ _; rotate_left; focus (first | (simp; done) | (simp; omega) | omega)) | with_reducible refine below_step ?_ (Bw.below _) | with_reducible refine below_step ?_ (by assumption))⟩
    · obtain ⟨t1, t2, t3⟩ := K2 (by omega)
      have hd : Q < P := by omega
      have hd2 : ¬ PP < QQ := by omega
      clear hPQ K1 K2
      by_cases hpp : QQ = PP
      · have t4 := t2 hpp
        have q1 : (QQ == PP) = true := by simp [hpp]
        have q2 : decide (dc < da) = decide (Q < P) := decide_eq_decide.2 t4
        clear t1 t2 t3 t4 hpp
        go_wp2_with fail
        refine (RS2.out _).mono ?_
        rintro e_g3 w_g3 ⟨rfl, hb_g3⟩
        obtain ⟨g3, rfl⟩ := g2.next hb_g3
        clear hb_g3
        go_wp2_with fail
        refine (UP2.out _).mono ?_
        rintro e_g4 w_g4 ⟨rfl, hb_g4⟩
        obtain ⟨g4, rfl⟩ := g3.next hb_g4
        clear hb_g4
        go_wp2_with fail
        refine (UP1.out _).mono ?_
        rintro e_g5 w_g5 ⟨rfl, hb_g5⟩
        obtain ⟨g5, rfl⟩ := g4.next hb_g5
        clear hb_g5
        go_wp2_with fail
        refine (CE2.out _).mono ?_
        rintro e_g6 w_g6 ⟨rfl, hb_g6⟩
        obtain ⟨g6, rfl⟩ := g5.next hb_g6
        clear hb_g6
        go_wp2_with fail
        refine calls_start (fun V => V.cell? ⟨g6.out.heap.size, 0, none⟩ = some (.int .i64 ((n : Int) + 1)) ∧ V.cell? ⟨g6.out.heap.size, 1, none⟩ = some (.int .i64 c) ∧ V.cell? ⟨g6.out.heap.size, 2, none⟩ = some (.int .i64 d) ∧ Below w.heap.size w V) ⟨by first | with_reducible assumption | (simp [go_sem]; done), by first | with_reducible assumption | (simp [go_sem]; done), by first | with_reducible assumption | (simp [go_sem]; done), by repeat (first | with_reducible exact Below.refl _ _ | with_reducible refine bl_alloc ?_ _ | with_reducible refine bl_drewN ?_ _ | with_reducible refine bl_drew ?_ | (with_reducible refine bl_set ?_ ?_ _; rotate_left; focus (first | (simp; done) | (simp; omega) | omega)) | with_reducible refine below_step ?_ (Bw.below _) | with_reducible refine below_step ?_ (by assumption))⟩ ?_
        rintro V ⟨hta1, hta2, hta3, hWta⟩ gta
        have ta1 := Bw.hold hta1
        have ta2 := Bw.hold hta2
        have ta3 := Bw.hold hta3
        have taz1 := fun g : Bw V => cell_lt (ta1 g)
        have tay1 := fun g : Bw V => Nat.le_of_lt (taz1 g)
        clear hta1 hta2 hta3
        refine (CE1.out _).mono ?_
        rintro e_g7 w_g7 ⟨rfl, hb_g7⟩
        obtain ⟨g7, rfl⟩ := gta.next hb_g7
        clear hb_g7
        go_wp2_with fail
        refine wp_start (fun V2 => V2.cell? ⟨g6.out.heap.size, 0, none⟩ = some (.int .i64 ((n : Int) + 1)) ∧ V2.cell? ⟨g6.out.heap.size, 1, none⟩ = some (.int .i64 c) ∧ V2.cell? ⟨g6.out.heap.size, 2, none⟩ = some (.int .i64 d) ∧ V2.cell? ⟨g7.out.heap.size, 0, none⟩ = some (.int .i64 ((n : Int) + 1)) ∧ V2.cell? ⟨g7.out.heap.size, 1, none⟩ = some (.int .i64 a) ∧ V2.cell? ⟨g7.out.heap.size, 2, none⟩ = some (.int .i64 b) ∧ Below w.heap.size w V2) ⟨by first | with_reducible assumption | (simp [go_sem]; done) | with_reducible exact hold_al ta1 _ _ | with_reducible exact hold_al ta2 _ _ | with_reducible exact hold_al ta3 _ _ | (simp [go_sem, ta1, ta2, ta3, taz1, tay1]; done), by first | with_reducible assumption | (simp [go_sem]; done) | with_reducible exact hold_al ta1 _ _ | with_reducible exact hold_al ta2 _ _ | with_reducible exact hold_al ta3 _ _ | (simp [go_sem, ta1, ta2, ta3, taz1, tay1]; done), by first | with_reducible assumption | (simp [go_sem]; done) | with_reducible exact hold_al ta1 _ _ | with_reducible exact hold_al ta2 _ _ | with_reducible exact hold_al ta3 _ _ | (simp [go_sem, ta1, ta2, ta3, taz1, tay1]; done), by first | with_reducible assumption | (simp [go_sem]; done) | with_reducible exact hold_al ta1 _ _ | with_reducible exact hold_al ta2 _ _ | with_reducible exact hold_al ta3 _ _ | (simp [go_sem, ta1, ta2, ta3, taz1, tay1]; done), by first | with_reducible assumption | (simp [go_sem]; done) | with_reducible exact hold_al ta1 _ _ | with_reducible exact hold_al ta2 _ _ | with_reducible exact hold_al ta3 _ _ | (simp [go_sem, ta1, ta2, ta3, taz1, tay1]; done), by first | with_reducible assumption | (simp [go_sem]; done) | with_reducible exact hold_al ta1 _ _ | with_reducible exact hold_al ta2 _ _ | with_reducible exact hold_al ta3 _ _ | (simp [go_sem, ta1, ta2, ta3, taz1, tay1]; done), by repeat (first | with_reducible exact Below.refl _ _ | with_reducible refine bl_alloc ?_ _ | with_reducible refine bl_drewN ?_ _ | with_reducible refine bl_drew ?_ | (with_reducible refine bl_set ?_ ?_ _; rotate_left; focus (first | (simp; done) | (simp; omega) | omega)) | with_reducible refine below_step ?_ (Bw.below _) | with_reducible refine below_step ?_ (by assumption))⟩ ?_
        rintro V2 ⟨htb1, htb2, htb3, htb4, htb5, htb6, hWtb⟩ gtb
        have tb1 := Bw.hold htb1
        have tb2 := Bw.hold htb2
        have tb3 := Bw.hold htb3
        have tb4 := Bw.hold htb4
        have tb5 := Bw.hold htb5
        have tb6 := Bw.hold htb6
        have tbz1 := fun g : Bw V2 => cell_lt (tb1 g)
        have tby1 := fun g : Bw V2 => Nat.le_of_lt (tbz1 g)
        have tbz4 := fun g : Bw V2 => cell_lt (tb4 g)
        have tby4 := fun g : Bw V2 => Nat.le_of_lt (tbz4 g)
        clear htb1 htb2 htb3 htb4 htb5 htb6
        clear ta1 ta2 ta3 taz1 tay1
        refine wp_region_bw (by kernel_rfl) (by kernel_rfl) gtb ?_
        repeat (go_big_quiet_step ((first
          | (go_at_call 24; first | with_reducible exact bw_call (DG1.out _) | with_reducible exact bw_call (DG2.out _))
          | (go_at_call 15; with_reducible exact bw_call (awake5 _)))))
        refine wpQuiet_nil ?_
        rintro _ ⟨g8, rfl⟩
        go_wp2_with fail
        go_ret
        exact ⟨rfl, by repeat (first | with_reducible exact Below.refl _ _ | with_reducible refine bl_alloc ?_ _ | with_reducible refine bl_drewN ?_ _ | with_reducible refine bl_drew ?_ | (with_reducible refine bl_set ?_ ?_ _; rotate_left; focus (first | (simp; done) | (simp; omega) | omega)) | with_reducible refine below_step ?_ (Bw.below _) | with_reducible refine below_step ?_ (by assumption))⟩
      · have t4 := t3 hpp
        have q1 : (QQ == PP) = false := by simp [hpp]
        clear t1 t2 t3 hpp
        go_wp2_with fail
        refine (RS2.out _).mono ?_
        rintro e_g3 w_g3 ⟨rfl, hb_g3⟩
        obtain ⟨g3, rfl⟩ := g2.next hb_g3
        clear hb_g3
        go_wp2_with fail
        refine (UP2.out _).mono ?_
        rintro e_g4 w_g4 ⟨rfl, hb_g4⟩
        obtain ⟨g4, rfl⟩ := g3.next hb_g4
        clear hb_g4
        go_wp2_with fail
        refine (UP1.out _).mono ?_
        rintro e_g5 w_g5 ⟨rfl, hb_g5⟩
        obtain ⟨g5, rfl⟩ := g4.next hb_g5
        clear hb_g5
        go_wp2_with fail
        refine (awake5 _).mono ?_
        rintro e_g6 w_g6 ⟨rfl, hb_g6⟩
        obtain ⟨g6, rfl⟩ := g5.next hb_g6
        clear hb_g6
        go_wp2_with fail
        go_ret
        exact ⟨rfl, by repeat (first | with_reducible exact Below.refl _ _ | with_reducible refine bl_alloc ?_ _ | with_reducible refine bl_drewN ?_ _ | with_reducible refine bl_drew ?_ | (with_reducible refine bl_set ?_ ?_ _; rotate_left; focus (first | (simp; done) | (simp; omega) | omega)) | with_reducible refine below_step ?_ (Bw.below _) | with_reducible refine below_step ?_ (by assumption))⟩
/-! THE STATEMENT IdentRises -/
section
open Go.ChangeShapes Go.WideShapes Go.ChangeAt Go.RowKit Go.Joins
set_option linter.unusedVariables false
set_option maxRecDepth 100000 in
theorem identRises_lifted (os : Os) (started : os.Started) (H : Type) (enc : TypeId × Value → H) :
    ReturnsInHanded {} Try.checked os 10 .any (Rows.identRisesSpec.pre6 enc Try.prog Try.f10 Rows.identRisesRow.domain false) (Rows.identRisesSpec.post enc Try.prog Try.f10 false true false false) := by
  refine returnsInHanded_of_change (C := Try.checked) (show ownKnob Try.prog.godebug = none by kernel_rfl) started (by kernel_rfl) Try.func10
    (ChangeSpec.witness6 (enc := enc) (C := Try.checked) false ⟨#[], #[.int .i64 0, .int .i64 0, .int .i64 0, .int .i64 0, .int .i64 0], []⟩ 8 (by kernel_rfl) (by kernel_rfl) (by kernel_rfl) (by kernel_rfl)) ?_
  intro W base args ds gs before hval0 hW hcnd _
  have hval : ∀ (j : Nat) t v, Try.f10.params[j]? = some t → args[j]? = some v → Value.okWide Try.prog W .any base t v := hval0
  have hW' := hW
  obtain ⟨p, q, hA0, hV, rfl, hfz, hnd⟩ := hW
  have hA : DataW.TrodAll enc Try.prog W 0 (fun _ => true) true Try.f10.params.toList args.toList ds p := hA0
  rw [Try.params10] at hA hval
  obtain ⟨v0, vs0, d0, ds0, p0, q0, hargs, rfl, rfl, h0, r0⟩ := trodAll_cons hA
  obtain ⟨v1, vs1, d1, ds1, p1, q1, rfl, rfl, rfl, h1, r1⟩ := trodAll_cons r0
  obtain ⟨v2, vs2, d2, ds2, p2, q2, rfl, rfl, rfl, h2, r2⟩ := trodAll_cons r1
  obtain ⟨v3, vs3, d3, ds3, p3, q3, rfl, rfl, rfl, h3, r3⟩ := trodAll_cons r2
  obtain ⟨v4, vs4, d4, ds4, p4, q4, rfl, rfl, rfl, h4, r4⟩ := trodAll_cons r3
  obtain ⟨rfl, rfl, rfl⟩ := trodAll_nil r4
  obtain rfl : args = #[v0, v1, v2, v3, v4] := by cases args; simp_all
  obtain ⟨rfl, rfl⟩ := trodVars_none hV
  obtain ⟨x, rfl, rfl, rfl, wf_x⟩ := open_int Try.underlying2 (hval 0 2 v0 rfl rfl) h0
  obtain ⟨y, rfl, rfl, rfl, wf_y⟩ := open_int Try.underlying2 (hval 1 2 v1 rfl rfl) h1
  obtain ⟨u, rfl, rfl, rfl, wf_u⟩ := open_int Try.underlying2 (hval 2 2 v2 rfl rfl) h2
  obtain ⟨v, rfl, rfl, rfl, wf_v⟩ := open_int Try.underlying2 (hval 3 2 v3 rfl rfl) h3
  obtain ⟨r, rfl, rfl, rfl, wf_r⟩ := open_int Try.underlying3 (hval 4 3 v4 rfl rfl) h4
  clear hA0 hval0
  simp only [List.append_nil] at hW'
  refine (identrises_walk x y u v r (wf_i64 wf_x).1 (wf_i64 wf_x).2 (wf_i64 wf_y).1 (wf_i64 wf_y).2 (wf_i64 wf_u).1 (wf_i64 wf_u).2 (wf_i64 wf_v).1 (wf_i64 wf_v).2 (wf_i64 wf_r).1 (wf_i64 wf_r).2 W).mono fun e W' ⟨he, hb⟩ => ?_
  subst he
  exact ⟨_, rfl, post_of_below (pa := []) (pv := []) hW' (fun _ _ _ => (trodAll_cons_mk (shut_bool Try.underlying4 _) trodAll_mk0)) (fun sp _ => (trodAll_cons_mk (shut_int Try.underlying2 wf_x) (trodAll_cons_mk (shut_int Try.underlying2 wf_y) (trodAll_cons_mk (shut_int Try.underlying2 wf_u) (trodAll_cons_mk (shut_int Try.underlying2 wf_v) (trodAll_cons_mk (shut_int Try.underlying3 wf_r) trodAll_mk0)))))) (fun _ _ => rfl) rfl hb
    (ok_one (by kernel_rfl) rfl (okWide_bool_mk Try.underlying4 _))⟩
theorem identRises_holds : Rows.IdentRisesSaid :=
  OpenClaim.holds_of_wide 10 Try.f10 rfl rfl rfl rfl rfl rfl rfl ⟨rfl, rfl, rfl, rfl, rfl⟩ rfl rfl rfl rfl rfl (by kernel_rfl) Try.func10 (by kernel_rfl)
    (of_decide_eq_true (by kernel_rfl)) (by unfold Func.isWrapper; first | (rw [if_pos (by decide +kernel)]; kernel_rfl) | (rw [if_neg (by decide +kernel)]; exact ⟨rfl, rfl⟩))
    (fun os started H enc _ => identRises_lifted os started H enc)
end
#print axioms identRises_holds
end Go.Proofs.Ytmipkloleklnkaa

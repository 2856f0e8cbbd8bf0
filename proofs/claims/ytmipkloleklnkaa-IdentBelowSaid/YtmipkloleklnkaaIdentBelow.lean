
/- IdentBelow: all words of a finer size within a cell stand between those of its first and its last descendant, none of another cell does. No condition. -/
import Derived.Test.YtmipkloleklnkaaIdSpread
import Derived.Test.YtmipkloleklnkaaRowC
namespace Go.Proofs.Ytmipkloleklnkaa
open Go.RowKit
set_option linter.unusedSimpArgs false
set_option linter.unusedVariables false
/-- What a round of the way down needs of a word. -/
theorem below_facts (P : Int) (T j : Nat) (e x : Int) (hT : T < 12) (i : Nat) (hi : i < 7) (h : Dn P T j e x) : ∃ p q s t y : Int,
    Hid (∀ w, Calls Try.prog 12 #[.int .u64 x] w fun e w' => e = .returned (.tuple #[.agg #[.int .i64 (T : Int), .int .i64 p, .int .i64 q], .int .i64 0]) ∧ Below w.heap.size w w') ∧
    Hid (∀ w, Calls Try.prog 16 #[.agg #[.int .i64 (T : Int), .int .i64 p, .int .i64 q]] w fun e w' => ∃ v, e = .returned (.tuple #[v, .int .i64 0]) ∧ w'.ownsRow w.heap.size 27 3 v 7 (chRow ((T : Int) + 1) (2 * p - q) (p + 3 * q) 7) ∧ Below w.heap.size w w') ∧
    (chX (2 * p - q) i = s ∧ chY (p + 3 * q) i = t) ∧
    Hid (∀ w, Calls Try.prog 17 #[.agg #[.int .i64 ((T : Int) + 1), .int .i64 s, .int .i64 t]] w fun e w' => e = .returned (.tuple #[.int .u64 y, .int .i64 0]) ∧ Below w.heap.size w w') ∧ Dn P (T + 1) (j + 1) (8 * e + i) y := by
  obtain ⟨p, q, ok, hp, rfl⟩ := h
  obtain ⟨⟨p1, p2⟩, p3, p4, p5⟩ := word_of ok
  rw [Int.toNat_natCast] at *
  have CE := id_cell_yes _ p1 p2 p3
  rw [p4, p5] at CE
  have OF := id_of_yes (chX (2 * p - q) i) (chY (p + 3 * q) i) (T + 1) (by have := kid_ok p q T i hT hi ok; simpa using this)
  rw [show ((T + 1 : Nat) : Int) = (T : Int) + 1 by omega] at OF
  exact ⟨p, q, _, _, _, Lib.hid CE, Lib.hid (ref_children T p q ok (by omega)), ⟨rfl, rfl⟩, Lib.hid OF, dn_kid P T j e p q hT i hi ok hp⟩
set_option maxRecDepth 100000 in
set_option maxHeartbeats 8000000 in
theorem identbelow_walk (x y u v r d : Int) (hx : -9223372036854775808 ≤ x) (hx' : x ≤ 9223372036854775807) (hy : -9223372036854775808 ≤ y) (hy' : y ≤ 9223372036854775807) (hu : -9223372036854775808 ≤ u) (hu' : u ≤ 9223372036854775807) (hv : -9223372036854775808 ≤ v) (hv' : v ≤ 9223372036854775807) (hr : -9223372036854775808 ≤ r) (hr' : r ≤ 9223372036854775807) (hd : -9223372036854775808 ≤ d) (hd' : d ≤ 9223372036854775807) (w : World) :
    Calls Try.prog 4 #[.int .i64 x, .int .i64 y, .int .i64 u, .int .i64 v, .int .i64 r, .int .i64 d] w fun e w' => e = .returned (.bool true) ∧ Below w.heap.size w w' := by
  obtain ⟨t1, t2⟩ := tmod_bd r 12 (by omega)
  have e0 : (r.tmod 12 + 12).tmod 12 = (r.tmod 12 + 12) % 12 := Int.tmod_eq_emod_of_nonneg (by omega)
  obtain ⟨R, hR⟩ : ∃ R : Nat, (r.tmod 12 + 12) % 12 = (R : Int) := ⟨((r.tmod 12 + 12) % 12).toNat, by omega⟩
  have hr0 : (r.tmod 12 + 12).tmod 12 = (R : Int) := by rw [e0, hR]
  have hR12 : R < 12 := by omega
  clear e0 hR
  have hR13 : ((R : Int).tmod 13 + 13).tmod 13 = (R : Int) := by
    rw [Int.tmod_eq_emod_of_nonneg (show (0 : Int) ≤ (R : Int) by omega), Int.tmod_eq_emod_of_nonneg (by omega)]
    omega
  have W1 := law5_word x y (R : Int) hx hx' hy hy' (by omega) (by omega)
  have W2 := law5_word u v (R : Int) hu hu' hv hv' (by omega) (by omega)
  rw [hR13, Int.toNat_natCast] at W1 W2
  have H1 := Lib.hid W1
  have H2 := Lib.hid W2
  have hm3 : bits .and .i64 d 3 = d % 4 := i64_mask d 2 (by omega)
  obtain ⟨dd, hdd⟩ : ∃ dd, d % 4 = dd := ⟨_, rfl⟩
  have hd0 : 0 ≤ dd := by omega
  have hd3 : dd ≤ 3 := by omega
  rw [hdd] at hm3
  clear W1 W2 hR13 hdd
  obtain ⟨D, hD⟩ : ∃ D : Nat, (if (12 : Int) < (R : Int) + dd + 1 then (12 : Int) else (R : Int) + dd + 1) = ((R + D : Nat) : Int) := ⟨((if (12 : Int) < (R : Int) + dd + 1 then (12 : Int) else (R : Int) + dd + 1) - (R : Int)).toNat, by split <;> omega⟩
  have hD1 : 1 ≤ D := by
    revert hD
    split <;> omega
  have hD4 : D ≤ 4 := by
    revert hD
    split <;> omega
  have hD12 : R + D ≤ 12 := by
    revert hD
    split <;> omega
  obtain ⟨N, hN⟩ : ∃ N : Nat, R + D = N := ⟨_, rfl⟩
  rw [hN] at hD hD12
  have hw1 : IntKind.i64.wrap ((R : Int) + dd) = (R : Int) + dd := by rw [IntKind.wrap_i64]; omega
  have hw2 : IntKind.i64.wrap ((R : Int) + dd + 1) = (R : Int) + dd + 1 := by rw [IntKind.wrap_i64]; omega
  have hmin : min ((R : Int) + dd + 1) 12 = (N : Int) := by rw [← hD, Int.min_def]; split <;> split <;> omega
  go_enter Try.func4, Try.ntmps4
  go_wp2_with fail
  refine (H1.out _).mono ?_
  rintro e_1 w_1 ⟨a, b, rfl, ok1, hb_1⟩
  obtain ⟨g1, rfl⟩ := bw_of hb_1
  clear hb_1
  go_wp2_with fail
  refine (H2.out _).mono ?_
  rintro e_2 w_2 ⟨c, f, rfl, ok2, hb_2⟩
  obtain ⟨g2, rfl⟩ := g1.next hb_2
  clear hb_2 H1 H2 t1 t2 hr0
  have HD1 := Lib.hid (dn_start a b R ok1)
  have SP := Lib.hid (fun g cap W hc => ref_spread c f R N D hN hD12 hD4 ok2 g cap W hc)
  have HEQ := Lib.hid (wv_eq a b c f R (by omega))
  clear ok1 ok2
  generalize wv a b R = A at *
  generalize wv c f R = B at *
  generalize pr a b R = P at *
  generalize pr c f R = Q at *
  go_wp2_with fail
  go_loopg [15, 16, 17] D (fun m lo hi nn W => ∃ (j : Nat) (l h : Int), j + m = D ∧ lo = .int .u64 l ∧ hi = .int .u64 h ∧ nn = .int .i64 ((R + j : Nat) : Int) ∧ Dn P (R + j) j 0 l ∧ Dn P (R + j) j (wd j) h ∧ Below w.heap.size w W)
  case atStart => exact ⟨0, A, A, by omega, rfl, rfl, rfl, HD1.out, HD1.out, by repeat (first | with_reducible exact Below.refl _ _ | with_reducible refine bl_alloc ?_ _ | with_reducible refine bl_drewN ?_ _ | with_reducible refine bl_drew ?_ | (with_reducible refine bl_set ?_ ?_ _; rotate_left; focus (first | (simp; done) | (simp; omega) | omega)) | with_reducible refine below_step ?_ (Bw.below _) | with_reducible refine below_step ?_ (by assumption))⟩
  case round =>
    obtain ⟨j, l, h, hj, rfl, rfl, rfl, D1, D2, hb⟩ := hrel
    rcases (show j < D ∨ j = D by omega) with hlt | hlt
    · as_aux_lemma =>
      obtain ⟨T, hT⟩ : ∃ T : Nat, R + j = T := ⟨_, rfl⟩
      have HTT := Lib.hid hT
      have hTN : (T : Int) < (N : Int) := by omega
      obtain ⟨p1, q1, s1, t1, l', CE1, CH1, hst1, OF1, D1'⟩ := below_facts P (R + j) j 0 l (by omega) 0 (by omega) D1
      obtain ⟨p2, q2, s2, t2, h', CE2, CH2, hst2, OF2, D2'⟩ := below_facts P (R + j) j (wd j) h (by omega) 6 (by omega) D2
      have HS1 := Lib.hid hst1
      have HS2 := Lib.hid hst2
      have HD1' := Lib.hid D1'
      have HD2' := Lib.hid D2'
      rw [hT] at CE1 CH1 OF1 CE2 CH2 OF2 ⊢
      have hTw : IntKind.i64.wrap ((T : Int) + 1) = (T : Int) + 1 := by rw [IntKind.wrap_i64]; omega
      clear hT D1 D2 D1' D2' hst1 hst2 SP HEQ HD1
      obtain ⟨g3, rfl⟩ := bw_of hb
      clear hb
      go_wp2_with fail
      refine (CE1.out _).mono ?_
      rintro e_g4 w_g4 ⟨rfl, hb_g4⟩
      obtain ⟨g4, rfl⟩ := g3.next hb_g4
      clear hb_g4
      go_wp2_with fail
      refine calls_start (fun V => V.cell? ⟨g4.out.heap.size, 0, none⟩ = some (.int .i64 (T : Int)) ∧ V.cell? ⟨g4.out.heap.size, 1, none⟩ = some (.int .i64 p1) ∧ V.cell? ⟨g4.out.heap.size, 2, none⟩ = some (.int .i64 q1) ∧ Below w.heap.size w V) ⟨by first | with_reducible assumption | (simp [go_sem]; done), by first | with_reducible assumption | (simp [go_sem]; done), by first | with_reducible assumption | (simp [go_sem]; done), by repeat (first | with_reducible exact Below.refl _ _ | with_reducible refine bl_alloc ?_ _ | with_reducible refine bl_drewN ?_ _ | with_reducible refine bl_drew ?_ | (with_reducible refine bl_set ?_ ?_ _; rotate_left; focus (first | (simp; done) | (simp; omega) | omega)) | with_reducible refine below_step ?_ (Bw.below _) | with_reducible refine below_step ?_ (by assumption))⟩ ?_
      rintro V ⟨hta1, hta2, hta3, hWta⟩ gta
      have ta1 := Bw.hold hta1
      have ta2 := Bw.hold hta2
      have ta3 := Bw.hold hta3
      have taz1 := fun g : Bw V => cell_lt (ta1 g)
      have tay1 := fun g : Bw V => Nat.le_of_lt (taz1 g)
      clear hta1 hta2 hta3
      refine (CE2.out _).mono ?_
      rintro e_g5 w_g5 ⟨rfl, hb_g5⟩
      obtain ⟨g5, rfl⟩ := gta.next hb_g5
      clear hb_g5
      go_wp2_with fail
      refine calls_start (fun V2 => V2.cell? ⟨g4.out.heap.size, 0, none⟩ = some (.int .i64 (T : Int)) ∧ V2.cell? ⟨g4.out.heap.size, 1, none⟩ = some (.int .i64 p1) ∧ V2.cell? ⟨g4.out.heap.size, 2, none⟩ = some (.int .i64 q1) ∧ V2.cell? ⟨g5.out.heap.size, 0, none⟩ = some (.int .i64 (T : Int)) ∧ V2.cell? ⟨g5.out.heap.size, 1, none⟩ = some (.int .i64 p2) ∧ V2.cell? ⟨g5.out.heap.size, 2, none⟩ = some (.int .i64 q2) ∧ Below w.heap.size w V2) ⟨by first | with_reducible assumption | (simp [go_sem]; done) | with_reducible exact hold_al ta1 _ _ | with_reducible exact hold_al ta2 _ _ | with_reducible exact hold_al ta3 _ _ | (simp [go_sem, ta1, ta2, ta3, taz1, tay1]; done), by first | with_reducible assumption | (simp [go_sem]; done) | with_reducible exact hold_al ta1 _ _ | with_reducible exact hold_al ta2 _ _ | with_reducible exact hold_al ta3 _ _ | (simp [go_sem, ta1, ta2, ta3, taz1, tay1]; done), by first | with_reducible assumption | (simp [go_sem]; done) | with_reducible exact hold_al ta1 _ _ | with_reducible exact hold_al ta2 _ _ | with_reducible exact hold_al ta3 _ _ | (simp [go_sem, ta1, ta2, ta3, taz1, tay1]; done), by first | with_reducible assumption | (simp [go_sem]; done) | with_reducible exact hold_al ta1 _ _ | with_reducible exact hold_al ta2 _ _ | with_reducible exact hold_al ta3 _ _ | (simp [go_sem, ta1, ta2, ta3, taz1, tay1]; done), by first | with_reducible assumption | (simp [go_sem]; done) | with_reducible exact hold_al ta1 _ _ | with_reducible exact hold_al ta2 _ _ | with_reducible exact hold_al ta3 _ _ | (simp [go_sem, ta1, ta2, ta3, taz1, tay1]; done), by first | with_reducible assumption | (simp [go_sem]; done) | with_reducible exact hold_al ta1 _ _ | with_reducible exact hold_al ta2 _ _ | with_reducible exact hold_al ta3 _ _ | (simp [go_sem, ta1, ta2, ta3, taz1, tay1]; done), by repeat (first | with_reducible exact Below.refl _ _ | with_reducible refine bl_alloc ?_ _ | with_reducible refine bl_drewN ?_ _ | with_reducible refine bl_drew ?_ | (with_reducible refine bl_set ?_ ?_ _; rotate_left; focus (first | (simp; done) | (simp; omega) | omega)) | with_reducible refine below_step ?_ (Bw.below _) | with_reducible refine below_step ?_ (by assumption))⟩ ?_
      rintro V2 ⟨htb1, htb2, htb3, htb4, htb5, htb6, hWtb⟩ gtb
      have tb1 := Bw.hold htb1
      have tb2 := Bw.hold htb2
      have tb3 := Bw.hold htb3
      have tb4 := Bw.hold htb4
      have tb5 := Bw.hold htb5
      have tb6 := Bw.hold htb6
      have tbz1 := fun g : Bw V2 => cell_lt (tb1 g)
      have tby1 := fun g : Bw V2 => Nat.le_of_lt (tbz1 g)
      have tbz4 := fun g : Bw V2 => cell_lt (tb4 g)
      have tby4 := fun g : Bw V2 => Nat.le_of_lt (tbz4 g)
      clear htb1 htb2 htb3 htb4 htb5 htb6
      clear ta1 ta2 ta3 taz1 tay1
      refine (CH1.out _).mono ?_
      rintro e_h w_h ⟨v1, rfl, own_h, hb_h⟩
      obtain ⟨g6, rfl⟩ := gtb.next hb_h
      clear hb_h
      obtain ⟨hg, cap, rfl, hgb, hcs⟩ := own_kids own_h
      obtain ⟨k1, k2, k3⟩ := hcs 0 (by omega)
      rw [HS1.out.1] at k2
      rw [HS1.out.2] at k3
      clear own_h hcs hgb
      go_wp2_with fail
      refine (CH2.out _).mono ?_
      rintro e_h w_h ⟨v2, rfl, own_h, hb_h⟩
      have k1' := bl_hold hb_h k1
      have k2' := bl_hold hb_h k2
      have k3' := bl_hold hb_h k3
      obtain ⟨g7, rfl⟩ := g6.next hb_h
      clear hb_h k1 k2 k3
      obtain ⟨hg2, cap2, rfl, hgb, hcs⟩ := own_kids own_h
      obtain ⟨m1, m2, m3⟩ := hcs 6 (by omega)
      rw [HS2.out.1] at m2
      rw [HS2.out.2] at m3
      clear own_h hcs hgb
      go_wp2_with fail
      refine (OF1.out _).mono ?_
      rintro e_h w_h ⟨rfl, hb_h⟩
      have m1' := bl_hold hb_h m1
      have m2' := bl_hold hb_h m2
      have m3' := bl_hold hb_h m3
      obtain ⟨g8, rfl⟩ := g7.next hb_h
      clear hb_h k1' k2' k3' m1 m2 m3
      go_wp2_with fail
      refine (OF2.out _).mono ?_
      rintro e_h w_h ⟨rfl, hb_h⟩
      obtain ⟨g9, rfl⟩ := g8.next hb_h
      clear hb_h
      go_wp2_with fail
      go_roundg (D - (j + 1))
      case measure => omega
      case rel => exact ⟨j + 1, l', h', by omega, rfl, rfl, by rw [show R + (j + 1) = T + 1 by have := HTT.out; omega]; first | rfl | go_num, HD1'.out, by have := HD2'.out; exact this, by repeat (first | with_reducible exact Below.refl _ _ | with_reducible refine bl_alloc ?_ _ | with_reducible refine bl_drewN ?_ _ | with_reducible refine bl_drew ?_ | (with_reducible refine bl_set ?_ ?_ _; rotate_left; focus (first | (simp; done) | (simp; omega) | omega)) | with_reducible refine below_step ?_ (Bw.below _) | with_reducible refine below_step ?_ (by assumption))⟩
    · subst hlt
      have hNN : ¬ ((R + j : Nat) : Int) < (N : Int) := by omega
      have HBL := Lib.hid (fun x hx => below_law P Q (R + j) j (by omega) l h x D1 D2 hx)
      have hlh := below_lt P (R + j) j (by omega) hD1 l h D1 D2
      have HNN := Lib.hid hN
      rw [hN] at hNN HBL ⊢
      clear D1 D2 HD1
      obtain ⟨g3, rfl⟩ := bw_of hb
      clear hb
      go_wp2_with fail
      refine (SP.out _ _ _ (by simp [go_sem])).mono ?_
      rintro e_3 w_3 ⟨X, m, cp, M, rfl, hMl, hws, hDw, hm0, hm24, hb_3⟩
      have hb4 : Below g3.out.heap.size g3.out w_3 := below_step (bl_alloc (Below.refl _ _) _) hb_3
      have HML := Lib.hid hMl
      have HDW := Lib.hid hDw
      have HWS := Lib.hid hws
      have hm0I : (0 : Int) < (m : Int) := by omega
      clear hMl hDw hws hb_3 SP
      go_wp2_with fail
      go_loopg [32] m (fun n i W => ∃ k : Nat, k + n = m ∧ i = .int .i64 (k : Int) ∧ Below w_3.heap.size w_3 W)
      case atStart => exact ⟨0, by omega, rfl, by repeat (first | with_reducible exact Below.refl _ _ | with_reducible refine bl_alloc ?_ _ | with_reducible refine bl_drewN ?_ _ | with_reducible refine bl_drew ?_ | (with_reducible refine bl_set ?_ ?_ _; rotate_left; focus (first | (simp; done) | (simp; omega) | omega)) | with_reducible refine below_step ?_ (Bw.below _) | with_reducible refine below_step ?_ (by assumption))⟩
      case round =>
        obtain ⟨k, hk, rfl, hb5⟩ := hrel
        rcases (show k < m ∨ k = m by omega) with hlt2 | hlt2
        · as_aux_lemma =>
          have hkI : (k : Int) < (m : Int) := by omega
          obtain ⟨gx, eX, cx0⟩ := HWS.out k (by rw [HML.out]; exact hlt2)
          subst eX
          have cx := bl_hold hb5 cx0
          have hlaw := HBL.out (M.getD k 0) (HDW.out _ (by
            rw [List.getD_eq_getElem?_getD, List.getElem?_eq_getElem (by rw [HML.out]; exact hlt2)]
            exact List.getElem_mem _))
          have heq := HEQ.out
          clear cx0 HBL HDW HWS HEQ HML hD hmin
          generalize M.getD k 0 = z at *
          by_cases hAB : A = B
          · have hz := hlaw.2 (heq.1 hAB)
            obtain ⟨z1, z2⟩ := hz
            have hq : (A == B) = true := by simpa using hAB
            clear hlaw heq hAB
            go_wp2_with fail
            go_roundg (m - (k + 1))
            case measure => omega
            case rel => exact ⟨k + 1, by omega, by go_num, by repeat (first | with_reducible exact Below.refl _ _ | with_reducible refine bl_alloc ?_ _ | with_reducible refine bl_drewN ?_ _ | with_reducible refine bl_drew ?_ | (with_reducible refine bl_set ?_ ?_ _; rotate_left; focus (first | (simp; done) | (simp; omega) | omega)) | with_reducible refine below_step ?_ (Bw.below _) | with_reducible refine below_step ?_ (by assumption))⟩
          · have hz : ¬ (l ≤ z ∧ z ≤ h) := fun hh => hAB (heq.2 (hlaw.1 hh))
            have hq : (A == B) = false := by simpa using hAB
            clear hlaw heq hAB
            by_cases z1 : l ≤ z
            · have z2 : ¬ z ≤ h := fun hh => hz ⟨z1, hh⟩
              clear hz
              go_wp2_with fail
              go_roundg (m - (k + 1))
              case measure => omega
              case rel => exact ⟨k + 1, by omega, by go_num, by repeat (first | with_reducible exact Below.refl _ _ | with_reducible refine bl_alloc ?_ _ | with_reducible refine bl_drewN ?_ _ | with_reducible refine bl_drew ?_ | (with_reducible refine bl_set ?_ ?_ _; rotate_left; focus (first | (simp; done) | (simp; omega) | omega)) | with_reducible refine below_step ?_ (Bw.below _) | with_reducible refine below_step ?_ (by assumption))⟩
            · clear hz
              go_wp2_with fail
              go_roundg (m - (k + 1))
              case measure => omega
              case rel => exact ⟨k + 1, by omega, by go_num, by repeat (first | with_reducible exact Below.refl _ _ | with_reducible refine bl_alloc ?_ _ | with_reducible refine bl_drewN ?_ _ | with_reducible refine bl_drew ?_ | (with_reducible refine bl_set ?_ ?_ _; rotate_left; focus (first | (simp; done) | (simp; omega) | omega)) | with_reducible refine below_step ?_ (Bw.below _) | with_reducible refine below_step ?_ (by assumption))⟩
        · subst hlt2
          clear HBL HDW HWS HEQ HML hD hmin
          go_wp2_with fail
          refine (awake5 _).mono ?_
          rintro e_4 w_4 ⟨rfl, hb_4⟩
          go_wp2_with fail
          go_ret
          exact ⟨rfl, below_step g3.below (below_step hb4 (below_step hb5 hb_4))⟩
/-! THE STATEMENT IdentBelow -/
section
open Go.ChangeShapes Go.WideShapes Go.ChangeAt Go.RowKit Go.Joins
set_option linter.unusedVariables false
set_option maxRecDepth 100000 in
theorem identBelow_lifted (os : Os) (started : os.Started) (H : Type) (enc : TypeId × Value → H) :
    ReturnsInHanded {} Try.checked os 4 .any (Rows.identBelowSpec.pre6 enc Try.prog Try.f4 Rows.identBelowRow.domain false) (Rows.identBelowSpec.post enc Try.prog Try.f4 false true false false) := by
  refine returnsInHanded_of_change (C := Try.checked) (show ownKnob Try.prog.godebug = none by kernel_rfl) started (by kernel_rfl) Try.func4
    (ChangeSpec.witness6 (enc := enc) (C := Try.checked) false ⟨#[], #[.int .i64 0, .int .i64 0, .int .i64 0, .int .i64 0, .int .i64 0, .int .i64 0], []⟩ 8 (by kernel_rfl) (by kernel_rfl) (by kernel_rfl) (by kernel_rfl)) ?_
  intro W base args ds gs before hval0 hW hcnd _
  have hval : ∀ (j : Nat) t v, Try.f4.params[j]? = some t → args[j]? = some v → Value.okWide Try.prog W .any base t v := hval0
  have hW' := hW
  obtain ⟨p, q, hA0, hV, rfl, hfz, hnd⟩ := hW
  have hA : DataW.TrodAll enc Try.prog W 0 (fun _ => true) true Try.f4.params.toList args.toList ds p := hA0
  rw [Try.params4] at hA hval
  obtain ⟨v0, vs0, d0, ds0, p0, q0, hargs, rfl, rfl, h0, r0⟩ := trodAll_cons hA
  obtain ⟨v1, vs1, d1, ds1, p1, q1, rfl, rfl, rfl, h1, r1⟩ := trodAll_cons r0
  obtain ⟨v2, vs2, d2, ds2, p2, q2, rfl, rfl, rfl, h2, r2⟩ := trodAll_cons r1
  obtain ⟨v3, vs3, d3, ds3, p3, q3, rfl, rfl, rfl, h3, r3⟩ := trodAll_cons r2
  obtain ⟨v4, vs4, d4, ds4, p4, q4, rfl, rfl, rfl, h4, r4⟩ := trodAll_cons r3
  obtain ⟨v5, vs5, d5, ds5, p5, q5, rfl, rfl, rfl, h5, r5⟩ := trodAll_cons r4
  obtain ⟨rfl, rfl, rfl⟩ := trodAll_nil r5
  obtain rfl : args = #[v0, v1, v2, v3, v4, v5] := by cases args; simp_all
  obtain ⟨rfl, rfl⟩ := trodVars_none hV
  obtain ⟨x, rfl, rfl, rfl, wf_x⟩ := open_int Try.underlying2 (hval 0 2 v0 rfl rfl) h0
  obtain ⟨y, rfl, rfl, rfl, wf_y⟩ := open_int Try.underlying2 (hval 1 2 v1 rfl rfl) h1
  obtain ⟨u, rfl, rfl, rfl, wf_u⟩ := open_int Try.underlying2 (hval 2 2 v2 rfl rfl) h2
  obtain ⟨v, rfl, rfl, rfl, wf_v⟩ := open_int Try.underlying2 (hval 3 2 v3 rfl rfl) h3
  obtain ⟨r, rfl, rfl, rfl, wf_r⟩ := open_int Try.underlying3 (hval 4 3 v4 rfl rfl) h4
  obtain ⟨d, rfl, rfl, rfl, wf_d⟩ := open_int Try.underlying3 (hval 5 3 v5 rfl rfl) h5
  clear hA0 hval0
  simp only [List.append_nil] at hW'
  refine (identbelow_walk x y u v r d (wf_i64 wf_x).1 (wf_i64 wf_x).2 (wf_i64 wf_y).1 (wf_i64 wf_y).2 (wf_i64 wf_u).1 (wf_i64 wf_u).2 (wf_i64 wf_v).1 (wf_i64 wf_v).2 (wf_i64 wf_r).1 (wf_i64 wf_r).2 (wf_i64 wf_d).1 (wf_i64 wf_d).2 W).mono fun e W' ⟨he, hb⟩ => ?_
  subst he
  exact ⟨_, rfl, post_of_below (pa := []) (pv := []) hW' (fun _ _ _ => (trodAll_cons_mk (shut_bool Try.underlying4 _) trodAll_mk0)) (fun sp _ => (trodAll_cons_mk (shut_int Try.underlying2 wf_x) (trodAll_cons_mk (shut_int Try.underlying2 wf_y) (trodAll_cons_mk (shut_int Try.underlying2 wf_u) (trodAll_cons_mk (shut_int Try.underlying2 wf_v) (trodAll_cons_mk (shut_int Try.underlying3 wf_r) (trodAll_cons_mk (shut_int Try.underlying3 wf_d) trodAll_mk0))))))) (fun _ _ => rfl) rfl hb
    (ok_one (by kernel_rfl) rfl (okWide_bool_mk Try.underlying4 _))⟩
theorem identBelow_holds : Rows.IdentBelowSaid :=
  OpenClaim.holds_of_wide 4 Try.f4 rfl rfl rfl rfl rfl rfl rfl ⟨rfl, rfl, rfl, rfl, rfl⟩ rfl rfl rfl rfl rfl (by kernel_rfl) Try.func4 (by kernel_rfl)
    (of_decide_eq_true (by kernel_rfl)) (by unfold Func.isWrapper; first | (rw [if_pos (by decide +kernel)]; kernel_rfl) | (rw [if_neg (by decide +kernel)]; exact ⟨rfl, rfl⟩))
    (fun os started H enc _ => identBelow_lifted os started H enc)
end
#print axioms identBelow_holds
end Go.Proofs.Ytmipkloleklnkaa

/- IdentReads: any word is that of one cell, or of none, as the reference says. No condition. -/
import Derived.Test.YtmipkloleklnkaaIdMore
namespace Go.Proofs.Ytmipkloleklnkaa
open Go.RowKit
set_option linter.unusedSimpArgs false
set_option linter.unusedVariables false
theorem read_facts (u : Int) (h0 : 0 ≤ u) (h1 : u < 18446744073709551616) : ∃ p e : Int, Hid (∀ w, Calls Try.prog 26 #[.int .u64 u] w fun e' w' => e' = .returned (.tuple #[.int .u64 p, .int .i64 e]) ∧ Below w.heap.size w w') ∧
    Hid (∀ w, Calls Try.prog 28 #[.int .u64 u] w fun e' w' => e' = .returned (.tuple #[.int .u64 p, .int .i64 e]) ∧ Below w.heap.size w w') := by
  rcases h : wG u with _ | _
  · exact ⟨_, _, Lib.hid (id_up_no u h0 h1 h), Lib.hid (ref_up5_no u h0 h1 h)⟩
  · by_cases hr : wR u = 0
    · exact ⟨_, _, Lib.hid (id_up_top u h0 h1 h hr), Lib.hid (ref_up5_top u h0 h1 h hr)⟩
    · obtain ⟨_, ⟨r1, _⟩, _⟩ := wG_true h
      obtain ⟨n, hn⟩ : ∃ n : Nat, wR u = (n : Int) + 1 := ⟨(wR u - 1).toNat, by omega⟩
      exact ⟨_, _, Lib.hid (id_up u h0 h1 n h hn), Lib.hid (ref_up5 u h0 h1 n h hn)⟩
set_option maxRecDepth 100000 in
set_option maxHeartbeats 8000000 in
theorem identreads_walk (v x y r bit : Int) (hv : 0 ≤ v) (hv' : v ≤ 18446744073709551615) (hx : -9223372036854775808 ≤ x) (hx' : x ≤ 9223372036854775807) (hy : -9223372036854775808 ≤ y) (hy' : y ≤ 9223372036854775807) (hr : -9223372036854775808 ≤ r) (hr' : r ≤ 9223372036854775807) (hbit : -9223372036854775808 ≤ bit) (hbit' : bit ≤ 9223372036854775807) (w : World) :
    Calls Try.prog 8 #[.int .u64 v, .int .i64 x, .int .i64 y, .int .i64 r, .int .i64 bit] w fun e w' => e = .returned (.bool true) ∧ Below w.heap.size w w' := by
  have W1 := law5_word x y r hx hx' hy hy' hr hr'
  generalize (r.tmod 13 + 13).tmod 13 = R at W1
  have H1 := Lib.hid W1
  have hmb : bits .and .i64 bit 63 = bit % 64 := i64_mask bit 6 (by omega)
  have m1 : 0 ≤ bit % 64 := by omega
  have m2 : bit % 64 ≤ 63 := by omega
  clear W1
  generalize bit % 64 = bm at *
  go_enter Try.func8, Try.ntmps8
  go_wp2_with fail
  refine (H1.out _).mono ?_
  rintro e_1 w_1 ⟨a, b, rfl, ok1, hb_1⟩
  obtain ⟨g1, rfl⟩ := bw_of hb_1
  clear hb_1 H1
  obtain ⟨⟨p1, p2⟩, _, _, _⟩ := word_of ok1
  generalize wv a b R.toNat = P at *
  clear ok1
  obtain ⟨S, hS⟩ : ∃ S : Int, IntKind.u64.wrap (1 * 2 ^ bm.toNat) = S := ⟨_, rfl⟩
  have hS1 : 0 ≤ S := by rw [← hS, IntKind.wrap_u64]; omega
  have hS2 : S < 18446744073709551616 := by rw [← hS, IntKind.wrap_u64]; omega
  have hS' : IntKind.u64.wrap (2 ^ bm.toNat) = S := by rw [← hS, Int.one_mul]
  obtain ⟨X, hX⟩ : ∃ X : Int, bits .xor .u64 P S = X := ⟨_, rfl⟩
  have hX1 : 0 ≤ X ∧ X < 18446744073709551616 := by
    rw [← hX, u64_xor P S p1 p2 hS1 hS2]
    have : P.toNat ^^^ S.toNat < 2 ^ 64 := Nat.xor_lt_two_pow (by omega) (by omega)
    omega
  clear hS1 hS2
  go_wp2_with fail
  go_loopg [12] 3 (fun n i W => ∃ k : Nat, k + n = 3 ∧ i = .int .i64 (k : Int) ∧ Below w.heap.size w W)
  case atStart => exact ⟨0, by omega, rfl, by repeat (first | with_reducible exact Below.refl _ _ | with_reducible refine bl_alloc ?_ _ | with_reducible refine bl_drewN ?_ _ | with_reducible refine bl_drew ?_ | (with_reducible refine bl_set ?_ ?_ _; rotate_left; focus (first | (simp; done) | (simp; omega) | omega)) | with_reducible refine below_step ?_ (Bw.below _) | with_reducible refine below_step ?_ (by assumption))⟩
  case round =>
    obtain ⟨k, hk, rfl, hb⟩ := hrel
    obtain ⟨g, rfl⟩ := bw_of hb
    clear hb
    rcases (show k = 0 ∨ k = 1 ∨ k = 2 ∨ k = 3 by omega) with h | h | h | h
    · subst h
      obtain ⟨pp, pe, UP1, UP2⟩ := read_facts v (hv) (by omega)
      have RS0 := id_res v (hv) (by omega)
      have OK0 := id_ok v (hv) (by omega)
      rcases hg : wG v with _ | _
      · have C1 := Lib.hid (id_cell_no v (hv) (by omega) hg)
        have C2 := Lib.hid (ref_cell_no v (hv) (by omega) hg)
        rw [hg] at OK0
        rw [show rsV v = -1 by unfold rsV; rw [hg]; rfl] at RS0
        have RS := Lib.hid RS0
        have OK := Lib.hid OK0
        clear RS0 OK0 hg
        go_wp2_with fail
        refine (C1.out _).mono ?_
        rintro e_3 w_3 ⟨rfl, hb_3⟩
        obtain ⟨g3, rfl⟩ := bw_of (show Below w.heap.size w w_3 by repeat (first | with_reducible exact Below.refl _ _ | with_reducible refine bl_alloc ?_ _ | with_reducible refine bl_drewN ?_ _ | with_reducible refine bl_drew ?_ | (with_reducible refine bl_set ?_ ?_ _; rotate_left; focus (first | (simp; done) | (simp; omega) | omega)) | with_reducible refine below_step ?_ (Bw.below _) | with_reducible refine below_step ?_ (by assumption)))
        clear hb_3
        go_wp2_with fail
        refine calls_start (fun V2 => V2.cell? ⟨g3.out.heap.size, 0, none⟩ = some (.int .i64 0) ∧ V2.cell? ⟨g3.out.heap.size, 1, none⟩ = some (.int .i64 0) ∧ V2.cell? ⟨g3.out.heap.size, 2, none⟩ = some (.int .i64 0) ∧ Below w.heap.size w V2) ⟨by first | with_reducible assumption | (simp [go_sem]; done), by first | with_reducible assumption | (simp [go_sem]; done), by first | with_reducible assumption | (simp [go_sem]; done), by repeat (first | with_reducible exact Below.refl _ _ | with_reducible refine bl_alloc ?_ _ | with_reducible refine bl_drewN ?_ _ | with_reducible refine bl_drew ?_ | (with_reducible refine bl_set ?_ ?_ _; rotate_left; focus (first | (simp; done) | (simp; omega) | omega)) | with_reducible refine below_step ?_ (Bw.below _) | with_reducible refine below_step ?_ (by assumption))⟩ ?_
        rintro V2 ⟨htb1, htb2, htb3, hWtb⟩ gtb
        have tb1 := Bw.hold htb1
        have tb2 := Bw.hold htb2
        have tb3 := Bw.hold htb3
        have tbz1 := fun g : Bw V2 => cell_lt (tb1 g)
        have tby1 := fun g : Bw V2 => Nat.le_of_lt (tbz1 g)
        clear htb1 htb2 htb3
        refine (C2.out _).mono ?_
        rintro e_g4 w_g4 ⟨rfl, hb_g4⟩
        obtain ⟨g4, rfl⟩ := gtb.next hb_g4
        clear hb_g4
        go_wp2_with fail
        refine calls_start (fun V3 => V3.cell? ⟨g3.out.heap.size, 0, none⟩ = some (.int .i64 0) ∧ V3.cell? ⟨g3.out.heap.size, 1, none⟩ = some (.int .i64 0) ∧ V3.cell? ⟨g3.out.heap.size, 2, none⟩ = some (.int .i64 0) ∧ V3.cell? ⟨g4.out.heap.size, 0, none⟩ = some (.int .i64 0) ∧ V3.cell? ⟨g4.out.heap.size, 1, none⟩ = some (.int .i64 0) ∧ V3.cell? ⟨g4.out.heap.size, 2, none⟩ = some (.int .i64 0) ∧ Below w.heap.size w V3) ⟨by first | with_reducible assumption | (simp [go_sem]; done) | with_reducible exact hold_al tb1 _ _ | with_reducible exact hold_al tb2 _ _ | with_reducible exact hold_al tb3 _ _ | (simp [go_sem, tb1, tb2, tb3, tbz1, tby1]; done), by first | with_reducible assumption | (simp [go_sem]; done) | with_reducible exact hold_al tb1 _ _ | with_reducible exact hold_al tb2 _ _ | with_reducible exact hold_al tb3 _ _ | (simp [go_sem, tb1, tb2, tb3, tbz1, tby1]; done), by first | with_reducible assumption | (simp [go_sem]; done) | with_reducible exact hold_al tb1 _ _ | with_reducible exact hold_al tb2 _ _ | with_reducible exact hold_al tb3 _ _ | (simp [go_sem, tb1, tb2, tb3, tbz1, tby1]; done), by first | with_reducible assumption | (simp [go_sem]; done) | with_reducible exact hold_al tb1 _ _ | with_reducible exact hold_al tb2 _ _ | with_reducible exact hold_al tb3 _ _ | (simp [go_sem, tb1, tb2, tb3, tbz1, tby1]; done), by first | with_reducible assumption | (simp [go_sem]; done) | with_reducible exact hold_al tb1 _ _ | with_reducible exact hold_al tb2 _ _ | with_reducible exact hold_al tb3 _ _ | (simp [go_sem, tb1, tb2, tb3, tbz1, tby1]; done), by first | with_reducible assumption | (simp [go_sem]; done) | with_reducible exact hold_al tb1 _ _ | with_reducible exact hold_al tb2 _ _ | with_reducible exact hold_al tb3 _ _ | (simp [go_sem, tb1, tb2, tb3, tbz1, tby1]; done), by repeat (first | with_reducible exact Below.refl _ _ | with_reducible refine bl_alloc ?_ _ | with_reducible refine bl_drewN ?_ _ | with_reducible refine bl_drew ?_ | (with_reducible refine bl_set ?_ ?_ _; rotate_left; focus (first | (simp; done) | (simp; omega) | omega)) | with_reducible refine below_step ?_ (Bw.below _) | with_reducible refine below_step ?_ (by assumption))⟩ ?_
        rintro V3 ⟨htc1, htc2, htc3, htc4, htc5, htc6, hWtc⟩ gtc
        have tc1 := Bw.hold htc1
        have tc2 := Bw.hold htc2
        have tc3 := Bw.hold htc3
        have tc4 := Bw.hold htc4
        have tc5 := Bw.hold htc5
        have tc6 := Bw.hold htc6
        have tcz1 := fun g : Bw V3 => cell_lt (tc1 g)
        have tcy1 := fun g : Bw V3 => Nat.le_of_lt (tcz1 g)
        have tcz4 := fun g : Bw V3 => cell_lt (tc4 g)
        have tcy4 := fun g : Bw V3 => Nat.le_of_lt (tcz4 g)
        clear htc1 htc2 htc3 htc4 htc5 htc6
        clear tb1 tb2 tb3 tbz1 tby1
        refine (OK.out _).mono ?_
        rintro e_g5 w_g5 ⟨rfl, hb_g5⟩
        obtain ⟨g5, rfl⟩ := gtc.next hb_g5
        clear hb_g5
        go_wp2_with fail
        refine (UP1.out _).mono ?_
        rintro e_g6 w_g6 ⟨rfl, hb_g6⟩
        obtain ⟨g6, rfl⟩ := g5.next hb_g6
        clear hb_g6
        go_wp2_with fail
        refine (UP2.out _).mono ?_
        rintro e_g7 w_g7 ⟨rfl, hb_g7⟩
        obtain ⟨g7, rfl⟩ := g6.next hb_g7
        clear hb_g7
        go_wp2_with fail
        refine (RS.out _).mono ?_
        rintro e_g8 w_g8 ⟨rfl, hb_g8⟩
        obtain ⟨g8, rfl⟩ := g7.next hb_g8
        clear hb_g8
        go_wp2_with fail
        go_roundg 2
        case measure => omega
        case rel => exact ⟨1, by omega, by first | rfl | go_num, by repeat (first | with_reducible exact Below.refl _ _ | with_reducible refine bl_alloc ?_ _ | with_reducible refine bl_drewN ?_ _ | with_reducible refine bl_drew ?_ | (with_reducible refine bl_set ?_ ?_ _; rotate_left; focus (first | (simp; done) | (simp; omega) | omega)) | with_reducible refine below_step ?_ (Bw.below _) | with_reducible refine below_step ?_ (by assumption))⟩
      · have C1 := Lib.hid (id_cell_yes v (hv) (by omega) hg)
        have C2 := Lib.hid (ref_cell_yes v (hv) (by omega) hg)
        rw [hg] at OK0
        rw [show rsV v = wR v by unfold rsV; rw [hg]; rfl] at RS0
        have RS := Lib.hid RS0
        have OK := Lib.hid OK0
        obtain ⟨_, ⟨r1, r2⟩, _⟩ := wG_true hg
        obtain ⟨m, hm⟩ : ∃ m : Nat, wR v = (m : Int) := ⟨(wR v).toNat, by omega⟩
        have okw := word_ok hg
        rw [hm] at okw
        have OF0 := id_of_yes _ _ m okw
        have hback := word_back hg
        rw [hm, Int.toNat_natCast] at hback
        rw [hback] at OF0
        have OF := Lib.hid OF0
        rw [hm] at C1 C2 RS
        clear RS0 OK0 hg r1 r2 hm okw OF0 hback
        generalize (wZ v).1 = c1 at *
        generalize (wZ v).2 = c2 at *
        go_wp2_with fail
        refine (C1.out _).mono ?_
        rintro e_3 w_3 ⟨rfl, hb_3⟩
        obtain ⟨g3, rfl⟩ := bw_of (show Below w.heap.size w w_3 by repeat (first | with_reducible exact Below.refl _ _ | with_reducible refine bl_alloc ?_ _ | with_reducible refine bl_drewN ?_ _ | with_reducible refine bl_drew ?_ | (with_reducible refine bl_set ?_ ?_ _; rotate_left; focus (first | (simp; done) | (simp; omega) | omega)) | with_reducible refine below_step ?_ (Bw.below _) | with_reducible refine below_step ?_ (by assumption)))
        clear hb_3
        go_wp2_with fail
        refine calls_start (fun V2 => V2.cell? ⟨g3.out.heap.size, 0, none⟩ = some (.int .i64 (m : Int)) ∧ V2.cell? ⟨g3.out.heap.size, 1, none⟩ = some (.int .i64 c1) ∧ V2.cell? ⟨g3.out.heap.size, 2, none⟩ = some (.int .i64 c2) ∧ Below w.heap.size w V2) ⟨by first | with_reducible assumption | (simp [go_sem]; done), by first | with_reducible assumption | (simp [go_sem]; done), by first | with_reducible assumption | (simp [go_sem]; done), by repeat (first | with_reducible exact Below.refl _ _ | with_reducible refine bl_alloc ?_ _ | with_reducible refine bl_drewN ?_ _ | with_reducible refine bl_drew ?_ | (with_reducible refine bl_set ?_ ?_ _; rotate_left; focus (first | (simp; done) | (simp; omega) | omega)) | with_reducible refine below_step ?_ (Bw.below _) | with_reducible refine below_step ?_ (by assumption))⟩ ?_
        rintro V2 ⟨htb1, htb2, htb3, hWtb⟩ gtb
        have tb1 := Bw.hold htb1
        have tb2 := Bw.hold htb2
        have tb3 := Bw.hold htb3
        have tbz1 := fun g : Bw V2 => cell_lt (tb1 g)
        have tby1 := fun g : Bw V2 => Nat.le_of_lt (tbz1 g)
        clear htb1 htb2 htb3
        refine (C2.out _).mono ?_
        rintro e_g4 w_g4 ⟨rfl, hb_g4⟩
        obtain ⟨g4, rfl⟩ := gtb.next hb_g4
        clear hb_g4
        go_wp2_with fail
        refine calls_start (fun V3 => V3.cell? ⟨g3.out.heap.size, 0, none⟩ = some (.int .i64 (m : Int)) ∧ V3.cell? ⟨g3.out.heap.size, 1, none⟩ = some (.int .i64 c1) ∧ V3.cell? ⟨g3.out.heap.size, 2, none⟩ = some (.int .i64 c2) ∧ V3.cell? ⟨g4.out.heap.size, 0, none⟩ = some (.int .i64 (m : Int)) ∧ V3.cell? ⟨g4.out.heap.size, 1, none⟩ = some (.int .i64 c1) ∧ V3.cell? ⟨g4.out.heap.size, 2, none⟩ = some (.int .i64 c2) ∧ Below w.heap.size w V3) ⟨by first | with_reducible assumption | (simp [go_sem]; done) | with_reducible exact hold_al tb1 _ _ | with_reducible exact hold_al tb2 _ _ | with_reducible exact hold_al tb3 _ _ | (simp [go_sem, tb1, tb2, tb3, tbz1, tby1]; done), by first | with_reducible assumption | (simp [go_sem]; done) | with_reducible exact hold_al tb1 _ _ | with_reducible exact hold_al tb2 _ _ | with_reducible exact hold_al tb3 _ _ | (simp [go_sem, tb1, tb2, tb3, tbz1, tby1]; done), by first | with_reducible assumption | (simp [go_sem]; done) | with_reducible exact hold_al tb1 _ _ | with_reducible exact hold_al tb2 _ _ | with_reducible exact hold_al tb3 _ _ | (simp [go_sem, tb1, tb2, tb3, tbz1, tby1]; done), by first | with_reducible assumption | (simp [go_sem]; done) | with_reducible exact hold_al tb1 _ _ | with_reducible exact hold_al tb2 _ _ | with_reducible exact hold_al tb3 _ _ | (simp [go_sem, tb1, tb2, tb3, tbz1, tby1]; done), by first | with_reducible assumption | (simp [go_sem]; done) | with_reducible exact hold_al tb1 _ _ | with_reducible exact hold_al tb2 _ _ | with_reducible exact hold_al tb3 _ _ | (simp [go_sem, tb1, tb2, tb3, tbz1, tby1]; done), by first | with_reducible assumption | (simp [go_sem]; done) | with_reducible exact hold_al tb1 _ _ | with_reducible exact hold_al tb2 _ _ | with_reducible exact hold_al tb3 _ _ | (simp [go_sem, tb1, tb2, tb3, tbz1, tby1]; done), by repeat (first | with_reducible exact Below.refl _ _ | with_reducible refine bl_alloc ?_ _ | with_reducible refine bl_drewN ?_ _ | with_reducible refine bl_drew ?_ | (with_reducible refine bl_set ?_ ?_ _; rotate_left; focus (first | (simp; done) | (simp; omega) | omega)) | with_reducible refine below_step ?_ (Bw.below _) | with_reducible refine below_step ?_ (by assumption))⟩ ?_
        rintro V3 ⟨htc1, htc2, htc3, htc4, htc5, htc6, hWtc⟩ gtc
        have tc1 := Bw.hold htc1
        have tc2 := Bw.hold htc2
        have tc3 := Bw.hold htc3
        have tc4 := Bw.hold htc4
        have tc5 := Bw.hold htc5
        have tc6 := Bw.hold htc6
        have tcz1 := fun g : Bw V3 => cell_lt (tc1 g)
        have tcy1 := fun g : Bw V3 => Nat.le_of_lt (tcz1 g)
        have tcz4 := fun g : Bw V3 => cell_lt (tc4 g)
        have tcy4 := fun g : Bw V3 => Nat.le_of_lt (tcz4 g)
        clear htc1 htc2 htc3 htc4 htc5 htc6
        clear tb1 tb2 tb3 tbz1 tby1
        refine (OK.out _).mono ?_
        rintro e_g5 w_g5 ⟨rfl, hb_g5⟩
        obtain ⟨g5, rfl⟩ := gtc.next hb_g5
        clear hb_g5
        go_wp2_with fail
        refine (OF.out _).mono ?_
        rintro e_g5b w_g5b ⟨rfl, hb_g5b⟩
        obtain ⟨g5b, rfl⟩ := g5.next hb_g5b
        clear hb_g5b
        go_wp2_with fail
        refine (UP1.out _).mono ?_
        rintro e_g6 w_g6 ⟨rfl, hb_g6⟩
        obtain ⟨g6, rfl⟩ := g5b.next hb_g6
        clear hb_g6
        go_wp2_with fail
        refine (UP2.out _).mono ?_
        rintro e_g7 w_g7 ⟨rfl, hb_g7⟩
        obtain ⟨g7, rfl⟩ := g6.next hb_g7
        clear hb_g7
        go_wp2_with fail
        refine (RS.out _).mono ?_
        rintro e_g8 w_g8 ⟨rfl, hb_g8⟩
        obtain ⟨g8, rfl⟩ := g7.next hb_g8
        clear hb_g8
        go_wp2_with fail
        go_roundg 2
        case measure => omega
        case rel => exact ⟨1, by omega, by first | rfl | go_num, by repeat (first | with_reducible exact Below.refl _ _ | with_reducible refine bl_alloc ?_ _ | with_reducible refine bl_drewN ?_ _ | with_reducible refine bl_drew ?_ | (with_reducible refine bl_set ?_ ?_ _; rotate_left; focus (first | (simp; done) | (simp; omega) | omega)) | with_reducible refine below_step ?_ (Bw.below _) | with_reducible refine below_step ?_ (by assumption))⟩
    · subst h
      obtain ⟨pp, pe, UP1, UP2⟩ := read_facts P (p1) (p2)
      have RS0 := id_res P (p1) (p2)
      have OK0 := id_ok P (p1) (p2)
      rcases hg : wG P with _ | _
      · have C1 := Lib.hid (id_cell_no P (p1) (p2) hg)
        have C2 := Lib.hid (ref_cell_no P (p1) (p2) hg)
        rw [hg] at OK0
        rw [show rsV P = -1 by unfold rsV; rw [hg]; rfl] at RS0
        have RS := Lib.hid RS0
        have OK := Lib.hid OK0
        clear RS0 OK0 hg
        go_wp2_with fail
        refine (C1.out _).mono ?_
        rintro e_3 w_3 ⟨rfl, hb_3⟩
        obtain ⟨g3, rfl⟩ := bw_of (show Below w.heap.size w w_3 by repeat (first | with_reducible exact Below.refl _ _ | with_reducible refine bl_alloc ?_ _ | with_reducible refine bl_drewN ?_ _ | with_reducible refine bl_drew ?_ | (with_reducible refine bl_set ?_ ?_ _; rotate_left; focus (first | (simp; done) | (simp; omega) | omega)) | with_reducible refine below_step ?_ (Bw.below _) | with_reducible refine below_step ?_ (by assumption)))
        clear hb_3
        go_wp2_with fail
        refine calls_start (fun V2 => V2.cell? ⟨g3.out.heap.size, 0, none⟩ = some (.int .i64 0) ∧ V2.cell? ⟨g3.out.heap.size, 1, none⟩ = some (.int .i64 0) ∧ V2.cell? ⟨g3.out.heap.size, 2, none⟩ = some (.int .i64 0) ∧ Below w.heap.size w V2) ⟨by first | with_reducible assumption | (simp [go_sem]; done), by first | with_reducible assumption | (simp [go_sem]; done), by first | with_reducible assumption | (simp [go_sem]; done), by repeat (first | with_reducible exact Below.refl _ _ | with_reducible refine bl_alloc ?_ _ | with_reducible refine bl_drewN ?_ _ | with_reducible refine bl_drew ?_ | (with_reducible refine bl_set ?_ ?_ _; rotate_left; focus (first | (simp; done) | (simp; omega) | omega)) | with_reducible refine below_step ?_ (Bw.below _) | with_reducible refine below_step ?_ (by assumption))⟩ ?_
        rintro V2 ⟨htb1, htb2, htb3, hWtb⟩ gtb
        have tb1 := Bw.hold htb1
        have tb2 := Bw.hold htb2
        have tb3 := Bw.hold htb3
        have tbz1 := fun g : Bw V2 => cell_lt (tb1 g)
        have tby1 := fun g : Bw V2 => Nat.le_of_lt (tbz1 g)
        clear htb1 htb2 htb3
        refine (C2.out _).mono ?_
        rintro e_g4 w_g4 ⟨rfl, hb_g4⟩
        obtain ⟨g4, rfl⟩ := gtb.next hb_g4
        clear hb_g4
        go_wp2_with fail
        refine calls_start (fun V3 => V3.cell? ⟨g3.out.heap.size, 0, none⟩ = some (.int .i64 0) ∧ V3.cell? ⟨g3.out.heap.size, 1, none⟩ = some (.int .i64 0) ∧ V3.cell? ⟨g3.out.heap.size, 2, none⟩ = some (.int .i64 0) ∧ V3.cell? ⟨g4.out.heap.size, 0, none⟩ = some (.int .i64 0) ∧ V3.cell? ⟨g4.out.heap.size, 1, none⟩ = some (.int .i64 0) ∧ V3.cell? ⟨g4.out.heap.size, 2, none⟩ = some (.int .i64 0) ∧ Below w.heap.size w V3) ⟨by first | with_reducible assumption | (simp [go_sem]; done) | with_reducible exact hold_al tb1 _ _ | with_reducible exact hold_al tb2 _ _ | with_reducible exact hold_al tb3 _ _ | (simp [go_sem, tb1, tb2, tb3, tbz1, tby1]; done), by first | with_reducible assumption | (simp [go_sem]; done) | with_reducible exact hold_al tb1 _ _ | with_reducible exact hold_al tb2 _ _ | with_reducible exact hold_al tb3 _ _ | (simp [go_sem, tb1, tb2, tb3, tbz1, tby1]; done), by first | with_reducible assumption | (simp [go_sem]; done) | with_reducible exact hold_al tb1 _ _ | with_reducible exact hold_al tb2 _ _ | with_reducible exact hold_al tb3 _ _ | (simp [go_sem, tb1, tb2, tb3, tbz1, tby1]; done), by first | with_reducible assumption | (simp [go_sem]; done) | with_reducible exact hold_al tb1 _ _ | with_reducible exact hold_al tb2 _ _ | with_reducible exact hold_al tb3 _ _ | (simp [go_sem, tb1, tb2, tb3, tbz1, tby1]; done), by first | with_reducible assumption | (simp [go_sem]; done) | with_reducible exact hold_al tb1 _ _ | with_reducible exact hold_al tb2 _ _ | with_reducible exact hold_al tb3 _ _ | (simp [go_sem, tb1, tb2, tb3, tbz1, tby1]; done), by first | with_reducible assumption | (simp [go_sem]; done) | with_reducible exact hold_al tb1 _ _ | with_reducible exact hold_al tb2 _ _ | with_reducible exact hold_al tb3 _ _ | (simp [go_sem, tb1, tb2, tb3, tbz1, tby1]; done), by repeat (first | with_reducible exact Below.refl _ _ | with_reducible refine bl_alloc ?_ _ | with_reducible refine bl_drewN ?_ _ | with_reducible refine bl_drew ?_ | (with_reducible refine bl_set ?_ ?_ _; rotate_left; focus (first | (simp; done) | (simp; omega) | omega)) | with_reducible refine below_step ?_ (Bw.below _) | with_reducible refine below_step ?_ (by assumption))⟩ ?_
        rintro V3 ⟨htc1, htc2, htc3, htc4, htc5, htc6, hWtc⟩ gtc
        have tc1 := Bw.hold htc1
        have tc2 := Bw.hold htc2
        have tc3 := Bw.hold htc3
        have tc4 := Bw.hold htc4
        have tc5 := Bw.hold htc5
        have tc6 := Bw.hold htc6
        have tcz1 := fun g : Bw V3 => cell_lt (tc1 g)
        have tcy1 := fun g : Bw V3 => Nat.le_of_lt (tcz1 g)
        have tcz4 := fun g : Bw V3 => cell_lt (tc4 g)
        have tcy4 := fun g : Bw V3 => Nat.le_of_lt (tcz4 g)
        clear htc1 htc2 htc3 htc4 htc5 htc6
        clear tb1 tb2 tb3 tbz1 tby1
        refine (OK.out _).mono ?_
        rintro e_g5 w_g5 ⟨rfl, hb_g5⟩
        obtain ⟨g5, rfl⟩ := gtc.next hb_g5
        clear hb_g5
        go_wp2_with fail
        refine (UP1.out _).mono ?_
        rintro e_g6 w_g6 ⟨rfl, hb_g6⟩
        obtain ⟨g6, rfl⟩ := g5.next hb_g6
        clear hb_g6
        go_wp2_with fail
        refine (UP2.out _).mono ?_
        rintro e_g7 w_g7 ⟨rfl, hb_g7⟩
        obtain ⟨g7, rfl⟩ := g6.next hb_g7
        clear hb_g7
        go_wp2_with fail
        refine (RS.out _).mono ?_
        rintro e_g8 w_g8 ⟨rfl, hb_g8⟩
        obtain ⟨g8, rfl⟩ := g7.next hb_g8
        clear hb_g8
        go_wp2_with fail
        go_roundg 1
        case measure => omega
        case rel => exact ⟨2, by omega, by first | rfl | go_num, by repeat (first | with_reducible exact Below.refl _ _ | with_reducible refine bl_alloc ?_ _ | with_reducible refine bl_drewN ?_ _ | with_reducible refine bl_drew ?_ | (with_reducible refine bl_set ?_ ?_ _; rotate_left; focus (first | (simp; done) | (simp; omega) | omega)) | with_reducible refine below_step ?_ (Bw.below _) | with_reducible refine below_step ?_ (by assumption))⟩
      · have C1 := Lib.hid (id_cell_yes P (p1) (p2) hg)
        have C2 := Lib.hid (ref_cell_yes P (p1) (p2) hg)
        rw [hg] at OK0
        rw [show rsV P = wR P by unfold rsV; rw [hg]; rfl] at RS0
        have RS := Lib.hid RS0
        have OK := Lib.hid OK0
        obtain ⟨_, ⟨r1, r2⟩, _⟩ := wG_true hg
        obtain ⟨m, hm⟩ : ∃ m : Nat, wR P = (m : Int) := ⟨(wR P).toNat, by omega⟩
        have okw := word_ok hg
        rw [hm] at okw
        have OF0 := id_of_yes _ _ m okw
        have hback := word_back hg
        rw [hm, Int.toNat_natCast] at hback
        rw [hback] at OF0
        have OF := Lib.hid OF0
        rw [hm] at C1 C2 RS
        clear RS0 OK0 hg r1 r2 hm okw OF0 hback
        generalize (wZ P).1 = c1 at *
        generalize (wZ P).2 = c2 at *
        go_wp2_with fail
        refine (C1.out _).mono ?_
        rintro e_3 w_3 ⟨rfl, hb_3⟩
        obtain ⟨g3, rfl⟩ := bw_of (show Below w.heap.size w w_3 by repeat (first | with_reducible exact Below.refl _ _ | with_reducible refine bl_alloc ?_ _ | with_reducible refine bl_drewN ?_ _ | with_reducible refine bl_drew ?_ | (with_reducible refine bl_set ?_ ?_ _; rotate_left; focus (first | (simp; done) | (simp; omega) | omega)) | with_reducible refine below_step ?_ (Bw.below _) | with_reducible refine below_step ?_ (by assumption)))
        clear hb_3
        go_wp2_with fail
        refine calls_start (fun V2 => V2.cell? ⟨g3.out.heap.size, 0, none⟩ = some (.int .i64 (m : Int)) ∧ V2.cell? ⟨g3.out.heap.size, 1, none⟩ = some (.int .i64 c1) ∧ V2.cell? ⟨g3.out.heap.size, 2, none⟩ = some (.int .i64 c2) ∧ Below w.heap.size w V2) ⟨by first | with_reducible assumption | (simp [go_sem]; done), by first | with_reducible assumption | (simp [go_sem]; done), by first | with_reducible assumption | (simp [go_sem]; done), by repeat (first | with_reducible exact Below.refl _ _ | with_reducible refine bl_alloc ?_ _ | with_reducible refine bl_drewN ?_ _ | with_reducible refine bl_drew ?_ | (with_reducible refine bl_set ?_ ?_ _; rotate_left; focus (first | (simp; done) | (simp; omega) | omega)) | with_reducible refine below_step ?_ (Bw.below _) | with_reducible refine below_step ?_ (by assumption))⟩ ?_
        rintro V2 ⟨htb1, htb2, htb3, hWtb⟩ gtb
        have tb1 := Bw.hold htb1
        have tb2 := Bw.hold htb2
        have tb3 := Bw.hold htb3
        have tbz1 := fun g : Bw V2 => cell_lt (tb1 g)
        have tby1 := fun g : Bw V2 => Nat.le_of_lt (tbz1 g)
        clear htb1 htb2 htb3
        refine (C2.out _).mono ?_
        rintro e_g4 w_g4 ⟨rfl, hb_g4⟩
        obtain ⟨g4, rfl⟩ := gtb.next hb_g4
        clear hb_g4
        go_wp2_with fail
        refine calls_start (fun V3 => V3.cell? ⟨g3.out.heap.size, 0, none⟩ = some (.int .i64 (m : Int)) ∧ V3.cell? ⟨g3.out.heap.size, 1, none⟩ = some (.int .i64 c1) ∧ V3.cell? ⟨g3.out.heap.size, 2, none⟩ = some (.int .i64 c2) ∧ V3.cell? ⟨g4.out.heap.size, 0, none⟩ = some (.int .i64 (m : Int)) ∧ V3.cell? ⟨g4.out.heap.size, 1, none⟩ = some (.int .i64 c1) ∧ V3.cell? ⟨g4.out.heap.size, 2, none⟩ = some (.int .i64 c2) ∧ Below w.heap.size w V3) ⟨by first | with_reducible assumption | (simp [go_sem]; done) | with_reducible exact hold_al tb1 _ _ | with_reducible exact hold_al tb2 _ _ | with_reducible exact hold_al tb3 _ _ | (simp [go_sem, tb1, tb2, tb3, tbz1, tby1]; done), by first | with_reducible assumption | (simp [go_sem]; done) | with_reducible exact hold_al tb1 _ _ | with_reducible exact hold_al tb2 _ _ | with_reducible exact hold_al tb3 _ _ | (simp [go_sem, tb1, tb2, tb3, tbz1, tby1]; done), by first | with_reducible assumption | (simp [go_sem]; done) | with_reducible exact hold_al tb1 _ _ | with_reducible exact hold_al tb2 _ _ | with_reducible exact hold_al tb3 _ _ | (simp [go_sem, tb1, tb2, tb3, tbz1, tby1]; done), by first | with_reducible assumption | (simp [go_sem]; done) | with_reducible exact hold_al tb1 _ _ | with_reducible exact hold_al tb2 _ _ | with_reducible exact hold_al tb3 _ _ | (simp [go_sem, tb1, tb2, tb3, tbz1, tby1]; done), by first | with_reducible assumption | (simp [go_sem]; done) | with_reducible exact hold_al tb1 _ _ | with_reducible exact hold_al tb2 _ _ | with_reducible exact hold_al tb3 _ _ | (simp [go_sem, tb1, tb2, tb3, tbz1, tby1]; done), by first | with_reducible assumption | (simp [go_sem]; done) | with_reducible exact hold_al tb1 _ _ | with_reducible exact hold_al tb2 _ _ | with_reducible exact hold_al tb3 _ _ | (simp [go_sem, tb1, tb2, tb3, tbz1, tby1]; done), by repeat (first | with_reducible exact Below.refl _ _ | with_reducible refine bl_alloc ?_ _ | with_reducible refine bl_drewN ?_ _ | with_reducible refine bl_drew ?_ | (with_reducible refine bl_set ?_ ?_ _; rotate_left; focus (first | (simp; done) | (simp; omega) | omega)) | with_reducible refine below_step ?_ (Bw.below _) | with_reducible refine below_step ?_ (by assumption))⟩ ?_
        rintro V3 ⟨htc1, htc2, htc3, htc4, htc5, htc6, hWtc⟩ gtc
        have tc1 := Bw.hold htc1
        have tc2 := Bw.hold htc2
        have tc3 := Bw.hold htc3
        have tc4 := Bw.hold htc4
        have tc5 := Bw.hold htc5
        have tc6 := Bw.hold htc6
        have tcz1 := fun g : Bw V3 => cell_lt (tc1 g)
        have tcy1 := fun g : Bw V3 => Nat.le_of_lt (tcz1 g)
        have tcz4 := fun g : Bw V3 => cell_lt (tc4 g)
        have tcy4 := fun g : Bw V3 => Nat.le_of_lt (tcz4 g)
        clear htc1 htc2 htc3 htc4 htc5 htc6
        clear tb1 tb2 tb3 tbz1 tby1
        refine (OK.out _).mono ?_
        rintro e_g5 w_g5 ⟨rfl, hb_g5⟩
        obtain ⟨g5, rfl⟩ := gtc.next hb_g5
        clear hb_g5
        go_wp2_with fail
        refine (OF.out _).mono ?_
        rintro e_g5b w_g5b ⟨rfl, hb_g5b⟩
        obtain ⟨g5b, rfl⟩ := g5.next hb_g5b
        clear hb_g5b
        go_wp2_with fail
        refine (UP1.out _).mono ?_
        rintro e_g6 w_g6 ⟨rfl, hb_g6⟩
        obtain ⟨g6, rfl⟩ := g5b.next hb_g6
        clear hb_g6
        go_wp2_with fail
        refine (UP2.out _).mono ?_
        rintro e_g7 w_g7 ⟨rfl, hb_g7⟩
        obtain ⟨g7, rfl⟩ := g6.next hb_g7
        clear hb_g7
        go_wp2_with fail
        refine (RS.out _).mono ?_
        rintro e_g8 w_g8 ⟨rfl, hb_g8⟩
        obtain ⟨g8, rfl⟩ := g7.next hb_g8
        clear hb_g8
        go_wp2_with fail
        go_roundg 1
        case measure => omega
        case rel => exact ⟨2, by omega, by first | rfl | go_num, by repeat (first | with_reducible exact Below.refl _ _ | with_reducible refine bl_alloc ?_ _ | with_reducible refine bl_drewN ?_ _ | with_reducible refine bl_drew ?_ | (with_reducible refine bl_set ?_ ?_ _; rotate_left; focus (first | (simp; done) | (simp; omega) | omega)) | with_reducible refine below_step ?_ (Bw.below _) | with_reducible refine below_step ?_ (by assumption))⟩
    · subst h
      obtain ⟨pp, pe, UP1, UP2⟩ := read_facts X (hX1.1) (hX1.2)
      have RS0 := id_res X (hX1.1) (hX1.2)
      have OK0 := id_ok X (hX1.1) (hX1.2)
      rcases hg : wG X with _ | _
      · have C1 := Lib.hid (id_cell_no X (hX1.1) (hX1.2) hg)
        have C2 := Lib.hid (ref_cell_no X (hX1.1) (hX1.2) hg)
        rw [hg] at OK0
        rw [show rsV X = -1 by unfold rsV; rw [hg]; rfl] at RS0
        have RS := Lib.hid RS0
        have OK := Lib.hid OK0
        clear RS0 OK0 hg
        go_wp2_with fail
        refine (C1.out _).mono ?_
        rintro e_3 w_3 ⟨rfl, hb_3⟩
        obtain ⟨g3, rfl⟩ := bw_of (show Below w.heap.size w w_3 by repeat (first | with_reducible exact Below.refl _ _ | with_reducible refine bl_alloc ?_ _ | with_reducible refine bl_drewN ?_ _ | with_reducible refine bl_drew ?_ | (with_reducible refine bl_set ?_ ?_ _; rotate_left; focus (first | (simp; done) | (simp; omega) | omega)) | with_reducible refine below_step ?_ (Bw.below _) | with_reducible refine below_step ?_ (by assumption)))
        clear hb_3
        go_wp2_with fail
        refine calls_start (fun V2 => V2.cell? ⟨g3.out.heap.size, 0, none⟩ = some (.int .i64 0) ∧ V2.cell? ⟨g3.out.heap.size, 1, none⟩ = some (.int .i64 0) ∧ V2.cell? ⟨g3.out.heap.size, 2, none⟩ = some (.int .i64 0) ∧ Below w.heap.size w V2) ⟨by first | with_reducible assumption | (simp [go_sem]; done), by first | with_reducible assumption | (simp [go_sem]; done), by first | with_reducible assumption | (simp [go_sem]; done), by repeat (first | with_reducible exact Below.refl _ _ | with_reducible refine bl_alloc ?_ _ | with_reducible refine bl_drewN ?_ _ | with_reducible refine bl_drew ?_ | (with_reducible refine bl_set ?_ ?_ _; rotate_left; focus (first | (simp; done) | (simp; omega) | omega)) | with_reducible refine below_step ?_ (Bw.below _) | with_reducible refine below_step ?_ (by assumption))⟩ ?_
        rintro V2 ⟨htb1, htb2, htb3, hWtb⟩ gtb
        have tb1 := Bw.hold htb1
        have tb2 := Bw.hold htb2
        have tb3 := Bw.hold htb3
        have tbz1 := fun g : Bw V2 => cell_lt (tb1 g)
        have tby1 := fun g : Bw V2 => Nat.le_of_lt (tbz1 g)
        clear htb1 htb2 htb3
        refine (C2.out _).mono ?_
        rintro e_g4 w_g4 ⟨rfl, hb_g4⟩
        obtain ⟨g4, rfl⟩ := gtb.next hb_g4
        clear hb_g4
        go_wp2_with fail
        refine calls_start (fun V3 => V3.cell? ⟨g3.out.heap.size, 0, none⟩ = some (.int .i64 0) ∧ V3.cell? ⟨g3.out.heap.size, 1, none⟩ = some (.int .i64 0) ∧ V3.cell? ⟨g3.out.heap.size, 2, none⟩ = some (.int .i64 0) ∧ V3.cell? ⟨g4.out.heap.size, 0, none⟩ = some (.int .i64 0) ∧ V3.cell? ⟨g4.out.heap.size, 1, none⟩ = some (.int .i64 0) ∧ V3.cell? ⟨g4.out.heap.size, 2, none⟩ = some (.int .i64 0) ∧ Below w.heap.size w V3) ⟨by first | with_reducible assumption | (simp [go_sem]; done) | with_reducible exact hold_al tb1 _ _ | with_reducible exact hold_al tb2 _ _ | with_reducible exact hold_al tb3 _ _ | (simp [go_sem, tb1, tb2, tb3, tbz1, tby1]; done), by first | with_reducible assumption | (simp [go_sem]; done) | with_reducible exact hold_al tb1 _ _ | with_reducible exact hold_al tb2 _ _ | with_reducible exact hold_al tb3 _ _ | (simp [go_sem, tb1, tb2, tb3, tbz1, tby1]; done), by first | with_reducible assumption | (simp [go_sem]; done) | with_reducible exact hold_al tb1 _ _ | with_reducible exact hold_al tb2 _ _ | with_reducible exact hold_al tb3 _ _ | (simp [go_sem, tb1, tb2, tb3, tbz1, tby1]; done), by first | with_reducible assumption | (simp [go_sem]; done) | with_reducible exact hold_al tb1 _ _ | with_reducible exact hold_al tb2 _ _ | with_reducible exact hold_al tb3 _ _ | (simp [go_sem, tb1, tb2, tb3, tbz1, tby1]; done), by first | with_reducible assumption | (simp [go_sem]; done) | with_reducible exact hold_al tb1 _ _ | with_reducible exact hold_al tb2 _ _ | with_reducible exact hold_al tb3 _ _ | (simp [go_sem, tb1, tb2, tb3, tbz1, tby1]; done), by first | with_reducible assumption | (simp [go_sem]; done) | with_reducible exact hold_al tb1 _ _ | with_reducible exact hold_al tb2 _ _ | with_reducible exact hold_al tb3 _ _ | (simp [go_sem, tb1, tb2, tb3, tbz1, tby1]; done), by repeat (first | with_reducible exact Below.refl _ _ | with_reducible refine bl_alloc ?_ _ | with_reducible refine bl_drewN ?_ _ | with_reducible refine bl_drew ?_ | (with_reducible refine bl_set ?_ ?_ _; rotate_left; focus (first | (simp; done) | (simp; omega) | omega)) | with_reducible refine below_step ?_ (Bw.below _) | with_reducible refine below_step ?_ (by assumption))⟩ ?_
        rintro V3 ⟨htc1, htc2, htc3, htc4, htc5, htc6, hWtc⟩ gtc
        have tc1 := Bw.hold htc1
        have tc2 := Bw.hold htc2
        have tc3 := Bw.hold htc3
        have tc4 := Bw.hold htc4
        have tc5 := Bw.hold htc5
        have tc6 := Bw.hold htc6
        have tcz1 := fun g : Bw V3 => cell_lt (tc1 g)
        have tcy1 := fun g : Bw V3 => Nat.le_of_lt (tcz1 g)
        have tcz4 := fun g : Bw V3 => cell_lt (tc4 g)
        have tcy4 := fun g : Bw V3 => Nat.le_of_lt (tcz4 g)
        clear htc1 htc2 htc3 htc4 htc5 htc6
        clear tb1 tb2 tb3 tbz1 tby1
        refine (OK.out _).mono ?_
        rintro e_g5 w_g5 ⟨rfl, hb_g5⟩
        obtain ⟨g5, rfl⟩ := gtc.next hb_g5
        clear hb_g5
        go_wp2_with fail
        refine (UP1.out _).mono ?_
        rintro e_g6 w_g6 ⟨rfl, hb_g6⟩
        obtain ⟨g6, rfl⟩ := g5.next hb_g6
        clear hb_g6
        go_wp2_with fail
        refine (UP2.out _).mono ?_
        rintro e_g7 w_g7 ⟨rfl, hb_g7⟩
        obtain ⟨g7, rfl⟩ := g6.next hb_g7
        clear hb_g7
        go_wp2_with fail
        refine (RS.out _).mono ?_
        rintro e_g8 w_g8 ⟨rfl, hb_g8⟩
        obtain ⟨g8, rfl⟩ := g7.next hb_g8
        clear hb_g8
        go_wp2_with fail
        go_roundg 0
        case measure => omega
        case rel => exact ⟨3, by omega, by first | rfl | go_num, by repeat (first | with_reducible exact Below.refl _ _ | with_reducible refine bl_alloc ?_ _ | with_reducible refine bl_drewN ?_ _ | with_reducible refine bl_drew ?_ | (with_reducible refine bl_set ?_ ?_ _; rotate_left; focus (first | (simp; done) | (simp; omega) | omega)) | with_reducible refine below_step ?_ (Bw.below _) | with_reducible refine below_step ?_ (by assumption))⟩
      · have C1 := Lib.hid (id_cell_yes X (hX1.1) (hX1.2) hg)
        have C2 := Lib.hid (ref_cell_yes X (hX1.1) (hX1.2) hg)
        rw [hg] at OK0
        rw [show rsV X = wR X by unfold rsV; rw [hg]; rfl] at RS0
        have RS := Lib.hid RS0
        have OK := Lib.hid OK0
        obtain ⟨_, ⟨r1, r2⟩, _⟩ := wG_true hg
        obtain ⟨m, hm⟩ : ∃ m : Nat, wR X = (m : Int) := ⟨(wR X).toNat, by omega⟩
        have okw := word_ok hg
        rw [hm] at okw
        have OF0 := id_of_yes _ _ m okw
        have hback := word_back hg
        rw [hm, Int.toNat_natCast] at hback
        rw [hback] at OF0
        have OF := Lib.hid OF0
        rw [hm] at C1 C2 RS
        clear RS0 OK0 hg r1 r2 hm okw OF0 hback
        generalize (wZ X).1 = c1 at *
        generalize (wZ X).2 = c2 at *
        go_wp2_with fail
        refine (C1.out _).mono ?_
        rintro e_3 w_3 ⟨rfl, hb_3⟩
        obtain ⟨g3, rfl⟩ := bw_of (show Below w.heap.size w w_3 by repeat (first | with_reducible exact Below.refl _ _ | with_reducible refine bl_alloc ?_ _ | with_reducible refine bl_drewN ?_ _ | with_reducible refine bl_drew ?_ | (with_reducible refine bl_set ?_ ?_ _; rotate_left; focus (first | (simp; done) | (simp; omega) | omega)) | with_reducible refine below_step ?_ (Bw.below _) | with_reducible refine below_step ?_ (by assumption)))
        clear hb_3
        go_wp2_with fail
        refine calls_start (fun V2 => V2.cell? ⟨g3.out.heap.size, 0, none⟩ = some (.int .i64 (m : Int)) ∧ V2.cell? ⟨g3.out.heap.size, 1, none⟩ = some (.int .i64 c1) ∧ V2.cell? ⟨g3.out.heap.size, 2, none⟩ = some (.int .i64 c2) ∧ Below w.heap.size w V2) ⟨by first | with_reducible assumption | (simp [go_sem]; done), by first | with_reducible assumption | (simp [go_sem]; done), by first | with_reducible assumption | (simp [go_sem]; done), by repeat (first | with_reducible exact Below.refl _ _ | with_reducible refine bl_alloc ?_ _ | with_reducible refine bl_drewN ?_ _ | with_reducible refine bl_drew ?_ | (with_reducible refine bl_set ?_ ?_ _; rotate_left; focus (first | (simp; done) | (simp; omega) | omega)) | with_reducible refine below_step ?_ (Bw.below _) | with_reducible refine below_step ?_ (by assumption))⟩ ?_
        rintro V2 ⟨htb1, htb2, htb3, hWtb⟩ gtb
        have tb1 := Bw.hold htb1
        have tb2 := Bw.hold htb2
        have tb3 := Bw.hold htb3
        have tbz1 := fun g : Bw V2 => cell_lt (tb1 g)
        have tby1 := fun g : Bw V2 => Nat.le_of_lt (tbz1 g)
        clear htb1 htb2 htb3
        refine (C2.out _).mono ?_
        rintro e_g4 w_g4 ⟨rfl, hb_g4⟩
        obtain ⟨g4, rfl⟩ := gtb.next hb_g4
        clear hb_g4
        go_wp2_with fail
        refine calls_start (fun V3 => V3.cell? ⟨g3.out.heap.size, 0, none⟩ = some (.int .i64 (m : Int)) ∧ V3.cell? ⟨g3.out.heap.size, 1, none⟩ = some (.int .i64 c1) ∧ V3.cell? ⟨g3.out.heap.size, 2, none⟩ = some (.int .i64 c2) ∧ V3.cell? ⟨g4.out.heap.size, 0, none⟩ = some (.int .i64 (m : Int)) ∧ V3.cell? ⟨g4.out.heap.size, 1, none⟩ = some (.int .i64 c1) ∧ V3.cell? ⟨g4.out.heap.size, 2, none⟩ = some (.int .i64 c2) ∧ Below w.heap.size w V3) ⟨by first | with_reducible assumption | (simp [go_sem]; done) | with_reducible exact hold_al tb1 _ _ | with_reducible exact hold_al tb2 _ _ | with_reducible exact hold_al tb3 _ _ | (simp [go_sem, tb1, tb2, tb3, tbz1, tby1]; done), by first | with_reducible assumption | (simp [go_sem]; done) | with_reducible exact hold_al tb1 _ _ | with_reducible exact hold_al tb2 _ _ | with_reducible exact hold_al tb3 _ _ | (simp [go_sem, tb1, tb2, tb3, tbz1, tby1]; done), by first | with_reducible assumption | (simp [go_sem]; done) | with_reducible exact hold_al tb1 _ _ | with_reducible exact hold_al tb2 _ _ | with_reducible exact hold_al tb3 _ _ | (simp [go_sem, tb1, tb2, tb3, tbz1, tby1]; done), by first | with_reducible assumption | (simp [go_sem]; done) | with_reducible exact hold_al tb1 _ _ | with_reducible exact hold_al tb2 _ _ | with_reducible exact hold_al tb3 _ _ | (simp [go_sem, tb1, tb2, tb3, tbz1, tby1]; done), by first | with_reducible assumption | (simp [go_sem]; done) | with_reducible exact hold_al tb1 _ _ | with_reducible exact hold_al tb2 _ _ | with_reducible exact hold_al tb3 _ _ | (simp [go_sem, tb1, tb2, tb3, tbz1, tby1]; done), by first | with_reducible assumption | (simp [go_sem]; done) | with_reducible exact hold_al tb1 _ _ | with_reducible exact hold_al tb2 _ _ | with_reducible exact hold_al tb3 _ _ | (simp [go_sem, tb1, tb2, tb3, tbz1, tby1]; done), by repeat (first | with_reducible exact Below.refl _ _ | with_reducible refine bl_alloc ?_ _ | with_reducible refine bl_drewN ?_ _ | with_reducible refine bl_drew ?_ | (with_reducible refine bl_set ?_ ?_ _; rotate_left; focus (first | (simp; done) | (simp; omega) | omega)) | with_reducible refine below_step ?_ (Bw.below _) | with_reducible refine below_step ?_ (by assumption))⟩ ?_
        rintro V3 ⟨htc1, htc2, htc3, htc4, htc5, htc6, hWtc⟩ gtc
        have tc1 := Bw.hold htc1
        have tc2 := Bw.hold htc2
        have tc3 := Bw.hold htc3
        have tc4 := Bw.hold htc4
        have tc5 := Bw.hold htc5
        have tc6 := Bw.hold htc6
        have tcz1 := fun g : Bw V3 => cell_lt (tc1 g)
        have tcy1 := fun g : Bw V3 => Nat.le_of_lt (tcz1 g)
        have tcz4 := fun g : Bw V3 => cell_lt (tc4 g)
        have tcy4 := fun g : Bw V3 => Nat.le_of_lt (tcz4 g)
        clear htc1 htc2 htc3 htc4 htc5 htc6
        clear tb1 tb2 tb3 tbz1 tby1
        refine (OK.out _).mono ?_
        rintro e_g5 w_g5 ⟨rfl, hb_g5⟩
        obtain ⟨g5, rfl⟩ := gtc.next hb_g5
        clear hb_g5
        go_wp2_with fail
        refine (OF.out _).mono ?_
        rintro e_g5b w_g5b ⟨rfl, hb_g5b⟩
        obtain ⟨g5b, rfl⟩ := g5.next hb_g5b
        clear hb_g5b
        go_wp2_with fail
        refine (UP1.out _).mono ?_
        rintro e_g6 w_g6 ⟨rfl, hb_g6⟩
        obtain ⟨g6, rfl⟩ := g5b.next hb_g6
        clear hb_g6
        go_wp2_with fail
        refine (UP2.out _).mono ?_
        rintro e_g7 w_g7 ⟨rfl, hb_g7⟩
        obtain ⟨g7, rfl⟩ := g6.next hb_g7
        clear hb_g7
        go_wp2_with fail
        refine (RS.out _).mono ?_
        rintro e_g8 w_g8 ⟨rfl, hb_g8⟩
        obtain ⟨g8, rfl⟩ := g7.next hb_g8
        clear hb_g8
        go_wp2_with fail
        go_roundg 0
        case measure => omega
        case rel => exact ⟨3, by omega, by first | rfl | go_num, by repeat (first | with_reducible exact Below.refl _ _ | with_reducible refine bl_alloc ?_ _ | with_reducible refine bl_drewN ?_ _ | with_reducible refine bl_drew ?_ | (with_reducible refine bl_set ?_ ?_ _; rotate_left; focus (first | (simp; done) | (simp; omega) | omega)) | with_reducible refine below_step ?_ (Bw.below _) | with_reducible refine below_step ?_ (by assumption))⟩
    · subst h
      go_wp2_with fail
      refine (awake5 _).mono ?_
      rintro e_g3 w_g3 ⟨rfl, hb_g3⟩
      obtain ⟨g3, rfl⟩ := g.next hb_g3
      clear hb_g3
      go_wp2_with fail
      go_ret
      exact ⟨rfl, by repeat (first | with_reducible exact Below.refl _ _ | with_reducible refine bl_alloc ?_ _ | with_reducible refine bl_drewN ?_ _ | with_reducible refine bl_drew ?_ | (with_reducible refine bl_set ?_ ?_ _; rotate_left; focus (first | (simp; done) | (simp; omega) | omega)) | with_reducible refine below_step ?_ (Bw.below _) | with_reducible refine below_step ?_ (by assumption))⟩
/-! THE STATEMENT IdentReads -/
section
open Go.ChangeShapes Go.WideShapes Go.ChangeAt Go.RowKit Go.Joins
set_option linter.unusedVariables false
set_option maxRecDepth 100000 in
theorem identReads_lifted (os : Os) (started : os.Started) (H : Type) (enc : TypeId × Value → H) :
    ReturnsInHanded {} Try.checked os 8 .any (Rows.identReadsSpec.pre6 enc Try.prog Try.f8 Rows.identReadsRow.domain false) (Rows.identReadsSpec.post enc Try.prog Try.f8 false true false false) := by
  refine returnsInHanded_of_change (C := Try.checked) (show ownKnob Try.prog.godebug = none by kernel_rfl) started (by kernel_rfl) Try.func8
    (ChangeSpec.witness6 (enc := enc) (C := Try.checked) false ⟨#[], #[.int .u64 0, .int .i64 0, .int .i64 0, .int .i64 0, .int .i64 0], []⟩ 8 (by kernel_rfl) (by kernel_rfl) (by kernel_rfl) (by kernel_rfl)) ?_
  intro W base args ds gs before hval0 hW hcnd _
  have hval : ∀ (j : Nat) t v, Try.f8.params[j]? = some t → args[j]? = some v → Value.okWide Try.prog W .any base t v := hval0
  have hW' := hW
  obtain ⟨p, q, hA0, hV, rfl, hfz, hnd⟩ := hW
  have hA : DataW.TrodAll enc Try.prog W 0 (fun _ => true) true Try.f8.params.toList args.toList ds p := hA0
  rw [Try.params8] at hA hval
  obtain ⟨v0, vs0, d0, ds0, p0, q0, hargs, rfl, rfl, h0, r0⟩ := trodAll_cons hA
  obtain ⟨v1, vs1, d1, ds1, p1, q1, rfl, rfl, rfl, h1, r1⟩ := trodAll_cons r0
  obtain ⟨v2, vs2, d2, ds2, p2, q2, rfl, rfl, rfl, h2, r2⟩ := trodAll_cons r1
  obtain ⟨v3, vs3, d3, ds3, p3, q3, rfl, rfl, rfl, h3, r3⟩ := trodAll_cons r2
  obtain ⟨v4, vs4, d4, ds4, p4, q4, rfl, rfl, rfl, h4, r4⟩ := trodAll_cons r3
  obtain ⟨rfl, rfl, rfl⟩ := trodAll_nil r4
  obtain rfl : args = #[v0, v1, v2, v3, v4] := by cases args; simp_all
  obtain ⟨rfl, rfl⟩ := trodVars_none hV
  obtain ⟨v, rfl, rfl, rfl, wf_v⟩ := open_int Try.underlying22 (hval 0 22 v0 rfl rfl) h0
  obtain ⟨x, rfl, rfl, rfl, wf_x⟩ := open_int Try.underlying2 (hval 1 2 v1 rfl rfl) h1
  obtain ⟨y, rfl, rfl, rfl, wf_y⟩ := open_int Try.underlying2 (hval 2 2 v2 rfl rfl) h2
  obtain ⟨r, rfl, rfl, rfl, wf_r⟩ := open_int Try.underlying3 (hval 3 3 v3 rfl rfl) h3
  obtain ⟨bit, rfl, rfl, rfl, wf_bit⟩ := open_int Try.underlying3 (hval 4 3 v4 rfl rfl) h4
  clear hA0 hval0
  simp only [List.append_nil] at hW'
  refine (identreads_walk v x y r bit (wf_u64 wf_v).1 (wf_u64 wf_v).2 (wf_i64 wf_x).1 (wf_i64 wf_x).2 (wf_i64 wf_y).1 (wf_i64 wf_y).2 (wf_i64 wf_r).1 (wf_i64 wf_r).2 (wf_i64 wf_bit).1 (wf_i64 wf_bit).2 W).mono fun e W' ⟨he, hb⟩ => ?_
  subst he
  exact ⟨_, rfl, post_of_below (pa := []) (pv := []) hW' (fun _ _ _ => (trodAll_cons_mk (shut_bool Try.underlying4 _) trodAll_mk0)) (fun sp _ => (trodAll_cons_mk (shut_int Try.underlying22 wf_v) (trodAll_cons_mk (shut_int Try.underlying2 wf_x) (trodAll_cons_mk (shut_int Try.underlying2 wf_y) (trodAll_cons_mk (shut_int Try.underlying3 wf_r) (trodAll_cons_mk (shut_int Try.underlying3 wf_bit) trodAll_mk0)))))) (fun _ _ => rfl) rfl hb
    (ok_one (by kernel_rfl) rfl (okWide_bool_mk Try.underlying4 _))⟩
theorem identReads_holds : Rows.IdentReadsSaid :=
  OpenClaim.holds_of_wide 8 Try.f8 rfl rfl rfl rfl rfl rfl rfl ⟨rfl, rfl, rfl, rfl, rfl⟩ rfl rfl rfl rfl rfl (by kernel_rfl) Try.func8 (by kernel_rfl)
    (of_decide_eq_true (by kernel_rfl)) (by unfold Func.isWrapper; first | (rw [if_pos (by decide +kernel)]; kernel_rfl) | (rw [if_neg (by decide +kernel)]; exact ⟨rfl, rfl⟩))
    (fun os started H enc _ => identReads_lifted os started H enc)
end
#print axioms identReads_holds
end Go.Proofs.Ytmipkloleklnkaa

/- CellEdge: a base cell may be up to the edges of its numbers, and no further; so may all of its descendants. No condition. -/
import Derived.Test.YtajojnbpmbkghaaKidsLaw
namespace Go.Proofs.Ytajojnbpmbkghaa
open Go.RowKit
set_option linter.unusedSimpArgs false
set_option linter.unusedVariables false
set_option maxHeartbeats 1000000 in
theorem cell_children_no (r a b : Int) (h : okB r a b = false) (w : World) :
    Calls Try.prog 19 #[.agg #[.int .i64 r, .int .i64 a, .int .i64 b]] w fun e w' => e = .returned (.tuple #[.slice none 0 0, .int .i64 2]) ∧ Below w.heap.size w w' := by
  have OK := cell_ok r a b
  rw [h] at OK
  have HO := Lib.hid OK
  clear OK h
  go_enter Try.func19, Try.ntmps19
  go_wp2_with fail
  refine calls_start (fun V => V.cell? ⟨w.heap.size, 0, none⟩ = some (.int .i64 r) ∧ V.cell? ⟨w.heap.size, 1, none⟩ = some (.int .i64 a) ∧ V.cell? ⟨w.heap.size, 2, none⟩ = some (.int .i64 b) ∧ Below w.heap.size w V) ⟨by first | with_reducible assumption | (simp [go_sem]; done), by first | with_reducible assumption | (simp [go_sem]; done), by first | with_reducible assumption | (simp [go_sem]; done), by repeat (first | with_reducible exact Below.refl _ _ | with_reducible refine bl_alloc ?_ _ | with_reducible refine bl_drewN ?_ _ | with_reducible refine bl_drew ?_ | (with_reducible refine bl_set ?_ ?_ _; rotate_left; focus (first | (simp; done) | (simp; omega) | omega)) | with_reducible refine below_step ?_ (Bw.below _) | with_reducible refine below_step ?_ (by assumption))⟩ ?_
  rintro V ⟨hc1, hc2, hc3, hWc⟩ gc
  have c1 := Bw.hold hc1
  have c2 := Bw.hold hc2
  have c3 := Bw.hold hc3
  have cz1 := fun g : Bw V => cell_lt (c1 g)
  have cy1 := fun g : Bw V => Nat.le_of_lt (cz1 g)
  clear hc1 hc2 hc3
  refine (HO.out _).mono ?_
  rintro e_g2 w_g2 ⟨rfl, hb_g2⟩
  obtain ⟨g2, rfl⟩ := gc.next hb_g2
  clear hb_g2
  go_wp2_with fail
  refine bodyPost_ret (v := .tuple #[.slice none 0 0, .int .i64 2]) (by simp [results, Try.results19, go_sem]) rfl ⟨rfl, by repeat (first | with_reducible exact Below.refl _ _ | with_reducible refine bl_alloc ?_ _ | with_reducible refine bl_drewN ?_ _ | with_reducible refine bl_drew ?_ | (with_reducible refine bl_set ?_ ?_ _; rotate_left; focus (first | (simp; done) | (simp; omega) | omega)) | with_reducible refine below_step ?_ (Bw.below _) | with_reducible refine below_step ?_ (by assumption))⟩
theorem base_okB (a b : Int) : okB 0 a b = true ↔ -512 ≤ a ∧ a ≤ 511 ∧ -512 ≤ b ∧ b ≤ 511 := by
  constructor
  · intro h
    obtain ⟨_, _, hb⟩ := okB_true h
    unfold baseB at hb
    rw [Bool.and_eq_true] at hb
    have b1 : -512 ≤ a ∧ a < 512 := of_decide_eq_true hb.1
    have b2 : -512 ≤ b ∧ b < 512 := of_decide_eq_true hb.2
    omega
  · intro h
    exact (base_ok a b h.1 h.2.1 h.2.2.1 h.2.2.2).1
theorem idx7 (d : Int) : (d % 256 % 7).toNat < 7 := by omega
/-- A base cell's descendants: contracts. -/
theorem edge_facts (A B : Int) (h1 : -512 ≤ A) (h2 : A ≤ 511) (h3 : -512 ≤ B) (h4 : B ≤ 511) (J J2 : Nat) (hJ : J < 7) (hJ2 : J2 < 7) : ∃ X1 Y1 X2 Y2 : Int,
    chX (2 * A - B) J = X1 ∧ chY (A + 3 * B) J = Y1 ∧ chX (2 * X1 - Y1) J2 = X2 ∧ chY (X1 + 3 * Y1) J2 = Y2 ∧ okB 0 A B = true ∧ okB 1 X1 Y1 = true ∧
    (∀ w : World, Calls Try.prog 14 #[.agg #[.int .i64 2, .int .i64 X2, .int .i64 Y2]] w fun e w' => e = .returned (.tuple #[.agg #[.int .i64 0, .int .i64 A, .int .i64 B], .int .i64 0]) ∧ Below w.heap.size w w') := by
  have o0 := (base_ok A B h1 h2 h3 h4).1
  have o1 := kid_ok A B 0 J (by omega) hJ o0
  have o1' : okB ((1 : Nat) : Int) (chX (2 * A - B) J) (chY (A + 3 * B) J) = true := o1
  have o2 := kid_ok _ _ 1 J2 (by omega) hJ2 o1'
  have u := cell_up _ _ _ 0 2 (by decide) (by decide) o2
  have e1 := ch_zz (chX (2 * A - B) J) (chY (A + 3 * B) J) J2 hJ2 1
  have e2 := ch_zz A B J hJ 0
  rw [e2] at e1
  rw [e1] at u
  exact ⟨_, _, _, _, rfl, rfl, rfl, rfl, o0, o1, cell_base 2 _ _ _ _ _ _ u⟩
set_option maxRecDepth 100000 in
set_option maxHeartbeats 4000000 in
theorem celledge_walk (a b d : Int) (ha : -9223372036854775808 ≤ a) (ha' : a ≤ 9223372036854775807) (hb : -9223372036854775808 ≤ b) (hb' : b ≤ 9223372036854775807) (hd : -9223372036854775808 ≤ d) (hd' : d ≤ 9223372036854775807) (w : World) : Calls Try.prog 6 #[.int .i64 a, .int .i64 b, .int .i64 d] w fun e w' => e = .returned (.bool true) ∧ Below w.heap.size w w' := by
  have hm3 : ∀ v : Int, bits .and .i64 v 3 = v % 4 := fun v => i64_mask v 2 (by omega)
  have hm1 : ∀ v : Int, bits .and .i64 v 1 = v % 2 := fun v => i64_mask v 1 (by omega)
  have hm8 : ∀ v : Int, bits .and .i64 v 255 = v % 256 := fun v => i64_mask v 8 (by omega)
  obtain ⟨A, hA⟩ : ∃ A, a % 4 - 514 + a / 4 % 2 * 1024 = A := ⟨_, rfl⟩
  obtain ⟨B, hB⟩ : ∃ B, b % 4 - 514 + b / 4 % 2 * 1024 = B := ⟨_, rfl⟩
  have A1 : -514 ≤ A := by omega
  have A2 : A ≤ 513 := by omega
  have B1 : -514 ≤ B := by omega
  have B2 : B ≤ 513 := by omega
  by_cases h0 : A < -512
  · have ho : okB 0 A B = false := by
      rcases h : okB 0 A B with _ | _
      · rfl
      · have := (base_okB A B).1 h
        omega
    have OK := cell_ok 0 A B
    rw [ho] at OK
    have HO := Lib.hid OK
    have HK := Lib.hid (cell_children_no 0 A B ho)
    clear OK ho
    have dd : decide (-512 ≤ A) = false := decide_eq_false (by omega)
    go_enter Try.func6, Try.ntmps6
    go_wp2_with fail
    refine calls_start (fun V => V.cell? ⟨w.heap.size, 0, none⟩ = some (.int .i64 0) ∧ V.cell? ⟨w.heap.size, 1, none⟩ = some (.int .i64 A) ∧ V.cell? ⟨w.heap.size, 2, none⟩ = some (.int .i64 B) ∧ Below w.heap.size w V) ⟨by first | with_reducible assumption | (simp [go_sem]; done), by first | with_reducible assumption | (simp [go_sem]; done), by first | with_reducible assumption | (simp [go_sem]; done), by repeat (first | with_reducible exact Below.refl _ _ | with_reducible refine bl_alloc ?_ _ | with_reducible refine bl_drewN ?_ _ | with_reducible refine bl_drew ?_ | (with_reducible refine bl_set ?_ ?_ _; rotate_left; focus (first | (simp; done) | (simp; omega) | omega)) | with_reducible refine below_step ?_ (Bw.below _) | with_reducible refine below_step ?_ (by assumption))⟩ ?_
    rintro V ⟨hc1, hc2, hc3, hWc⟩ gc
    have c1 := Bw.hold hc1
    have c2 := Bw.hold hc2
    have c3 := Bw.hold hc3
    have cz1 := fun g : Bw V => cell_lt (c1 g)
    have cy1 := fun g : Bw V => Nat.le_of_lt (cz1 g)
    clear hc1 hc2 hc3
    refine (HO.out _).mono ?_
    rintro e_g2 w_g2 ⟨rfl, hb_g2⟩
    obtain ⟨g2, rfl⟩ := gc.next hb_g2
    clear hb_g2
    go_wp2_with fail
    refine (HK.out _).mono ?_
    rintro e_g3 w_g3 ⟨rfl, hb_g3⟩
    obtain ⟨g3, rfl⟩ := g2.next hb_g3
    clear hb_g3
    go_wp2_with fail
    refine (awake4 _).mono ?_
    rintro e_g4 w_g4 ⟨rfl, hb_g4⟩
    obtain ⟨g4, rfl⟩ := g3.next hb_g4
    clear hb_g4
    go_wp2_with fail
    go_ret
    exact ⟨rfl, by repeat (first | with_reducible exact Below.refl _ _ | with_reducible refine bl_alloc ?_ _ | with_reducible refine bl_drewN ?_ _ | with_reducible refine bl_drew ?_ | (with_reducible refine bl_set ?_ ?_ _; rotate_left; focus (first | (simp; done) | (simp; omega) | omega)) | with_reducible refine below_step ?_ (Bw.below _) | with_reducible refine below_step ?_ (by assumption))⟩
  by_cases h1 : 511 < A
  · have ho : okB 0 A B = false := by
      rcases h : okB 0 A B with _ | _
      · rfl
      · have := (base_okB A B).1 h
        omega
    have OK := cell_ok 0 A B
    rw [ho] at OK
    have HO := Lib.hid OK
    have HK := Lib.hid (cell_children_no 0 A B ho)
    clear OK ho
    have dd : decide (A ≤ 511) = false := decide_eq_false (by omega)
    go_enter Try.func6, Try.ntmps6
    go_wp2_with fail
    refine calls_start (fun V => V.cell? ⟨w.heap.size, 0, none⟩ = some (.int .i64 0) ∧ V.cell? ⟨w.heap.size, 1, none⟩ = some (.int .i64 A) ∧ V.cell? ⟨w.heap.size, 2, none⟩ = some (.int .i64 B) ∧ Below w.heap.size w V) ⟨by first | with_reducible assumption | (simp [go_sem]; done), by first | with_reducible assumption | (simp [go_sem]; done), by first | with_reducible assumption | (simp [go_sem]; done), by repeat (first | with_reducible exact Below.refl _ _ | with_reducible refine bl_alloc ?_ _ | with_reducible refine bl_drewN ?_ _ | with_reducible refine bl_drew ?_ | (with_reducible refine bl_set ?_ ?_ _; rotate_left; focus (first | (simp; done) | (simp; omega) | omega)) | with_reducible refine below_step ?_ (Bw.below _) | with_reducible refine below_step ?_ (by assumption))⟩ ?_
    rintro V ⟨hc1, hc2, hc3, hWc⟩ gc
    have c1 := Bw.hold hc1
    have c2 := Bw.hold hc2
    have c3 := Bw.hold hc3
    have cz1 := fun g : Bw V => cell_lt (c1 g)
    have cy1 := fun g : Bw V => Nat.le_of_lt (cz1 g)
    clear hc1 hc2 hc3
    refine (HO.out _).mono ?_
    rintro e_g2 w_g2 ⟨rfl, hb_g2⟩
    obtain ⟨g2, rfl⟩ := gc.next hb_g2
    clear hb_g2
    go_wp2_with fail
    refine (HK.out _).mono ?_
    rintro e_g3 w_g3 ⟨rfl, hb_g3⟩
    obtain ⟨g3, rfl⟩ := g2.next hb_g3
    clear hb_g3
    go_wp2_with fail
    refine (awake4 _).mono ?_
    rintro e_g4 w_g4 ⟨rfl, hb_g4⟩
    obtain ⟨g4, rfl⟩ := g3.next hb_g4
    clear hb_g4
    go_wp2_with fail
    go_ret
    exact ⟨rfl, by repeat (first | with_reducible exact Below.refl _ _ | with_reducible refine bl_alloc ?_ _ | with_reducible refine bl_drewN ?_ _ | with_reducible refine bl_drew ?_ | (with_reducible refine bl_set ?_ ?_ _; rotate_left; focus (first | (simp; done) | (simp; omega) | omega)) | with_reducible refine below_step ?_ (Bw.below _) | with_reducible refine below_step ?_ (by assumption))⟩
  by_cases h2 : B < -512
  · have ho : okB 0 A B = false := by
      rcases h : okB 0 A B with _ | _
      · rfl
      · have := (base_okB A B).1 h
        omega
    have OK := cell_ok 0 A B
    rw [ho] at OK
    have HO := Lib.hid OK
    have HK := Lib.hid (cell_children_no 0 A B ho)
    clear OK ho
    have dd : decide (-512 ≤ B) = false := decide_eq_false (by omega)
    go_enter Try.func6, Try.ntmps6
    go_wp2_with fail
    refine calls_start (fun V => V.cell? ⟨w.heap.size, 0, none⟩ = some (.int .i64 0) ∧ V.cell? ⟨w.heap.size, 1, none⟩ = some (.int .i64 A) ∧ V.cell? ⟨w.heap.size, 2, none⟩ = some (.int .i64 B) ∧ Below w.heap.size w V) ⟨by first | with_reducible assumption | (simp [go_sem]; done), by first | with_reducible assumption | (simp [go_sem]; done), by first | with_reducible assumption | (simp [go_sem]; done), by repeat (first | with_reducible exact Below.refl _ _ | with_reducible refine bl_alloc ?_ _ | with_reducible refine bl_drewN ?_ _ | with_reducible refine bl_drew ?_ | (with_reducible refine bl_set ?_ ?_ _; rotate_left; focus (first | (simp; done) | (simp; omega) | omega)) | with_reducible refine below_step ?_ (Bw.below _) | with_reducible refine below_step ?_ (by assumption))⟩ ?_
    rintro V ⟨hc1, hc2, hc3, hWc⟩ gc
    have c1 := Bw.hold hc1
    have c2 := Bw.hold hc2
    have c3 := Bw.hold hc3
    have cz1 := fun g : Bw V => cell_lt (c1 g)
    have cy1 := fun g : Bw V => Nat.le_of_lt (cz1 g)
    clear hc1 hc2 hc3
    refine (HO.out _).mono ?_
    rintro e_g2 w_g2 ⟨rfl, hb_g2⟩
    obtain ⟨g2, rfl⟩ := gc.next hb_g2
    clear hb_g2
    go_wp2_with fail
    refine (HK.out _).mono ?_
    rintro e_g3 w_g3 ⟨rfl, hb_g3⟩
    obtain ⟨g3, rfl⟩ := g2.next hb_g3
    clear hb_g3
    go_wp2_with fail
    refine (awake4 _).mono ?_
    rintro e_g4 w_g4 ⟨rfl, hb_g4⟩
    obtain ⟨g4, rfl⟩ := g3.next hb_g4
    clear hb_g4
    go_wp2_with fail
    go_ret
    exact ⟨rfl, by repeat (first | with_reducible exact Below.refl _ _ | with_reducible refine bl_alloc ?_ _ | with_reducible refine bl_drewN ?_ _ | with_reducible refine bl_drew ?_ | (with_reducible refine bl_set ?_ ?_ _; rotate_left; focus (first | (simp; done) | (simp; omega) | omega)) | with_reducible refine below_step ?_ (Bw.below _) | with_reducible refine below_step ?_ (by assumption))⟩
  by_cases h3 : 511 < B
  · have ho : okB 0 A B = false := by
      rcases h : okB 0 A B with _ | _
      · rfl
      · have := (base_okB A B).1 h
        omega
    have OK := cell_ok 0 A B
    rw [ho] at OK
    have HO := Lib.hid OK
    have HK := Lib.hid (cell_children_no 0 A B ho)
    clear OK ho
    have dd : decide (B ≤ 511) = false := decide_eq_false (by omega)
    go_enter Try.func6, Try.ntmps6
    go_wp2_with fail
    refine calls_start (fun V => V.cell? ⟨w.heap.size, 0, none⟩ = some (.int .i64 0) ∧ V.cell? ⟨w.heap.size, 1, none⟩ = some (.int .i64 A) ∧ V.cell? ⟨w.heap.size, 2, none⟩ = some (.int .i64 B) ∧ Below w.heap.size w V) ⟨by first | with_reducible assumption | (simp [go_sem]; done), by first | with_reducible assumption | (simp [go_sem]; done), by first | with_reducible assumption | (simp [go_sem]; done), by repeat (first | with_reducible exact Below.refl _ _ | with_reducible refine bl_alloc ?_ _ | with_reducible refine bl_drewN ?_ _ | with_reducible refine bl_drew ?_ | (with_reducible refine bl_set ?_ ?_ _; rotate_left; focus (first | (simp; done) | (simp; omega) | omega)) | with_reducible refine below_step ?_ (Bw.below _) | with_reducible refine below_step ?_ (by assumption))⟩ ?_
    rintro V ⟨hc1, hc2, hc3, hWc⟩ gc
    have c1 := Bw.hold hc1
    have c2 := Bw.hold hc2
    have c3 := Bw.hold hc3
    have cz1 := fun g : Bw V => cell_lt (c1 g)
    have cy1 := fun g : Bw V => Nat.le_of_lt (cz1 g)
    clear hc1 hc2 hc3
    refine (HO.out _).mono ?_
    rintro e_g2 w_g2 ⟨rfl, hb_g2⟩
    obtain ⟨g2, rfl⟩ := gc.next hb_g2
    clear hb_g2
    go_wp2_with fail
    refine (HK.out _).mono ?_
    rintro e_g3 w_g3 ⟨rfl, hb_g3⟩
    obtain ⟨g3, rfl⟩ := g2.next hb_g3
    clear hb_g3
    go_wp2_with fail
    refine (awake4 _).mono ?_
    rintro e_g4 w_g4 ⟨rfl, hb_g4⟩
    obtain ⟨g4, rfl⟩ := g3.next hb_g4
    clear hb_g4
    go_wp2_with fail
    go_ret
    exact ⟨rfl, by repeat (first | with_reducible exact Below.refl _ _ | with_reducible refine bl_alloc ?_ _ | with_reducible refine bl_drewN ?_ _ | with_reducible refine bl_drew ?_ | (with_reducible refine bl_set ?_ ?_ _; rotate_left; focus (first | (simp; done) | (simp; omega) | omega)) | with_reducible refine below_step ?_ (Bw.below _) | with_reducible refine below_step ?_ (by assumption))⟩
  obtain ⟨J, hJ⟩ : ∃ J, (d % 256 % 7).toNat = J := ⟨_, rfl⟩
  obtain ⟨J2, hJ2⟩ : ∃ J, (d / 256 % 256 % 7).toNat = J := ⟨_, rfl⟩
  obtain ⟨X1, Y1, X2, Y2, x1, y1, x2, y2, o0, o1, BS⟩ := edge_facts A B (by omega) (by omega) (by omega) (by omega) J J2 (by omega) (by omega)
  have OK0 := cell_ok 0 A B
  rw [o0] at OK0
  have OK1 := cell_ok 1 X1 Y1
  rw [o1] at OK1
  have DG := cell_Digit 0 A B
  rw [show digV 0 A B = -1 by unfold digV; rw [if_neg (by simp)]] at DG
  have K0 := cell_children 0 A B o0 (by decide)
  rw [show (0 : Int) + 1 = 1 by decide] at K0
  have K1 := cell_children 1 X1 Y1 o1 (by decide)
  rw [show (1 : Int) + 1 = 2 by decide] at K1
  have HO0 := Lib.hid OK0
  have HO1 := Lib.hid OK1
  have HD := Lib.hid DG
  have HK0 := Lib.hid K0
  have HK1 := Lib.hid K1
  have HBS := Lib.hid BS
  have hj7 : Hid (J < 7) := Lib.hid (by omega)
  have hj27 : Hid (J2 < 7) := Lib.hid (by omega)
  have EX1 := Lib.hid x1
  have EY1 := Lib.hid y1
  have EX2 := Lib.hid x2
  have EY2 := Lib.hid y2
  clear OK0 OK1 DG K0 K1 BS o0 o1 x1 y1 x2 y2
  go_enter Try.func6, Try.ntmps6
  go_wp2_with fail
  refine calls_start (fun V => V.cell? ⟨w.heap.size, 0, none⟩ = some (.int .i64 0) ∧ V.cell? ⟨w.heap.size, 1, none⟩ = some (.int .i64 A) ∧ V.cell? ⟨w.heap.size, 2, none⟩ = some (.int .i64 B) ∧ Below w.heap.size w V) ⟨by first | with_reducible assumption | (simp [go_sem]; done), by first | with_reducible assumption | (simp [go_sem]; done), by first | with_reducible assumption | (simp [go_sem]; done), by repeat (first | with_reducible exact Below.refl _ _ | with_reducible refine bl_alloc ?_ _ | with_reducible refine bl_drewN ?_ _ | with_reducible refine bl_drew ?_ | (with_reducible refine bl_set ?_ ?_ _; rotate_left; focus (first | (simp; done) | (simp; omega) | omega)) | with_reducible refine below_step ?_ (Bw.below _) | with_reducible refine below_step ?_ (by assumption))⟩ ?_
  rintro V ⟨hc1, hc2, hc3, hWc⟩ gc
  have c1 := Bw.hold hc1
  have c2 := Bw.hold hc2
  have c3 := Bw.hold hc3
  have cz1 := fun g : Bw V => cell_lt (c1 g)
  have cy1 := fun g : Bw V => Nat.le_of_lt (cz1 g)
  clear hc1 hc2 hc3
  refine (HO0.out _).mono ?_
  rintro e_g2 w_g2 ⟨rfl, hb_g2⟩
  obtain ⟨g2, rfl⟩ := gc.next hb_g2
  clear hb_g2
  go_wp2_with fail
  refine (HK0.out _).mono ?_
  rintro e_h w_h ⟨v, rfl, own_h, hb_h⟩
  obtain ⟨g3, rfl⟩ := g2.next hb_h
  clear hb_h
  obtain ⟨hg, cap, rfl, hgb, hcs⟩ := own_kids own_h
  obtain ⟨k1, k2, k3⟩ := hcs J hj7.out
  rw [EX1.out] at k2
  rw [EY1.out] at k3
  clear own_h hcs
  go_wp2_with fail
  refine calls_start (fun V2 => V2.cell? ⟨w.heap.size, 0, none⟩ = some (.int .i64 0) ∧ V2.cell? ⟨w.heap.size, 1, none⟩ = some (.int .i64 A) ∧ V2.cell? ⟨w.heap.size, 2, none⟩ = some (.int .i64 B) ∧ V2.cell? ⟨g3.out.heap.size, 0, none⟩ = some (.int .i64 1) ∧ V2.cell? ⟨g3.out.heap.size, 1, none⟩ = some (.int .i64 X1) ∧ V2.cell? ⟨g3.out.heap.size, 2, none⟩ = some (.int .i64 Y1) ∧ Below w.heap.size w V2) ⟨by first | with_reducible assumption | (simp [go_sem]; done) | with_reducible exact hold_al c1 _ _ | with_reducible exact hold_al c2 _ _ | with_reducible exact hold_al c3 _ _ | (simp [go_sem, c1, c2, c3, cz1, cy1]; done), by first | with_reducible assumption | (simp [go_sem]; done) | with_reducible exact hold_al c1 _ _ | with_reducible exact hold_al c2 _ _ | with_reducible exact hold_al c3 _ _ | (simp [go_sem, c1, c2, c3, cz1, cy1]; done), by first | with_reducible assumption | (simp [go_sem]; done) | with_reducible exact hold_al c1 _ _ | with_reducible exact hold_al c2 _ _ | with_reducible exact hold_al c3 _ _ | (simp [go_sem, c1, c2, c3, cz1, cy1]; done), by first | with_reducible assumption | (simp [go_sem]; done) | with_reducible exact hold_al c1 _ _ | with_reducible exact hold_al c2 _ _ | with_reducible exact hold_al c3 _ _ | (simp [go_sem, c1, c2, c3, cz1, cy1]; done), by first | with_reducible assumption | (simp [go_sem]; done) | with_reducible exact hold_al c1 _ _ | with_reducible exact hold_al c2 _ _ | with_reducible exact hold_al c3 _ _ | (simp [go_sem, c1, c2, c3, cz1, cy1]; done), by first | with_reducible assumption | (simp [go_sem]; done) | with_reducible exact hold_al c1 _ _ | with_reducible exact hold_al c2 _ _ | with_reducible exact hold_al c3 _ _ | (simp [go_sem, c1, c2, c3, cz1, cy1]; done), by repeat (first | with_reducible exact Below.refl _ _ | with_reducible refine bl_alloc ?_ _ | with_reducible refine bl_drewN ?_ _ | with_reducible refine bl_drew ?_ | (with_reducible refine bl_set ?_ ?_ _; rotate_left; focus (first | (simp; done) | (simp; omega) | omega)) | with_reducible refine below_step ?_ (Bw.below _) | with_reducible refine below_step ?_ (by assumption))⟩ ?_
  rintro V2 ⟨hm1, hm2, hm3, hm4, hm5, hm6, hWm⟩ gm
  have m1 := Bw.hold hm1
  have m2 := Bw.hold hm2
  have m3 := Bw.hold hm3
  have m4 := Bw.hold hm4
  have m5 := Bw.hold hm5
  have m6 := Bw.hold hm6
  have mz1 := fun g : Bw V2 => cell_lt (m1 g)
  have my1 := fun g : Bw V2 => Nat.le_of_lt (mz1 g)
  have mz4 := fun g : Bw V2 => cell_lt (m4 g)
  have my4 := fun g : Bw V2 => Nat.le_of_lt (mz4 g)
  clear hm1 hm2 hm3 hm4 hm5 hm6
  clear c1 c2 c3 cz1 cy1
  clear k1 k2 k3
  refine (HK1.out _).mono ?_
  rintro e_h w_h ⟨v, rfl, own_h, hb_h⟩
  obtain ⟨g4, rfl⟩ := gm.next hb_h
  clear hb_h
  obtain ⟨hg2, cap2, rfl, hgb2, hcs⟩ := own_kids own_h
  obtain ⟨k1, k2, k3⟩ := hcs J2 hj27.out
  rw [EX2.out] at k2
  rw [EY2.out] at k3
  clear own_h hcs
  go_wp2_with fail
  refine calls_start (fun V3 => V3.cell? ⟨w.heap.size, 0, none⟩ = some (.int .i64 0) ∧ V3.cell? ⟨w.heap.size, 1, none⟩ = some (.int .i64 A) ∧ V3.cell? ⟨w.heap.size, 2, none⟩ = some (.int .i64 B) ∧ V3.cell? ⟨g3.out.heap.size, 0, none⟩ = some (.int .i64 1) ∧ V3.cell? ⟨g3.out.heap.size, 1, none⟩ = some (.int .i64 X1) ∧ V3.cell? ⟨g3.out.heap.size, 2, none⟩ = some (.int .i64 Y1) ∧ Below w.heap.size w V3) ⟨by first | with_reducible assumption | (simp [go_sem]; done) | with_reducible exact hold_al m1 _ _ | with_reducible exact hold_al m2 _ _ | with_reducible exact hold_al m3 _ _ | with_reducible exact hold_al m4 _ _ | with_reducible exact hold_al m5 _ _ | with_reducible exact hold_al m6 _ _ | (simp [go_sem, m1, m2, m3, m4, m5, m6, mz1, my1, mz4, my4]; done), by first | with_reducible assumption | (simp [go_sem]; done) | with_reducible exact hold_al m1 _ _ | with_reducible exact hold_al m2 _ _ | with_reducible exact hold_al m3 _ _ | with_reducible exact hold_al m4 _ _ | with_reducible exact hold_al m5 _ _ | with_reducible exact hold_al m6 _ _ | (simp [go_sem, m1, m2, m3, m4, m5, m6, mz1, my1, mz4, my4]; done), by first | with_reducible assumption | (simp [go_sem]; done) | with_reducible exact hold_al m1 _ _ | with_reducible exact hold_al m2 _ _ | with_reducible exact hold_al m3 _ _ | with_reducible exact hold_al m4 _ _ | with_reducible exact hold_al m5 _ _ | with_reducible exact hold_al m6 _ _ | (simp [go_sem, m1, m2, m3, m4, m5, m6, mz1, my1, mz4, my4]; done), by first | with_reducible assumption | (simp [go_sem]; done) | with_reducible exact hold_al m1 _ _ | with_reducible exact hold_al m2 _ _ | with_reducible exact hold_al m3 _ _ | with_reducible exact hold_al m4 _ _ | with_reducible exact hold_al m5 _ _ | with_reducible exact hold_al m6 _ _ | (simp [go_sem, m1, m2, m3, m4, m5, m6, mz1, my1, mz4, my4]; done), by first | with_reducible assumption | (simp [go_sem]; done) | with_reducible exact hold_al m1 _ _ | with_reducible exact hold_al m2 _ _ | with_reducible exact hold_al m3 _ _ | with_reducible exact hold_al m4 _ _ | with_reducible exact hold_al m5 _ _ | with_reducible exact hold_al m6 _ _ | (simp [go_sem, m1, m2, m3, m4, m5, m6, mz1, my1, mz4, my4]; done), by first | with_reducible assumption | (simp [go_sem]; done) | with_reducible exact hold_al m1 _ _ | with_reducible exact hold_al m2 _ _ | with_reducible exact hold_al m3 _ _ | with_reducible exact hold_al m4 _ _ | with_reducible exact hold_al m5 _ _ | with_reducible exact hold_al m6 _ _ | (simp [go_sem, m1, m2, m3, m4, m5, m6, mz1, my1, mz4, my4]; done), by repeat (first | with_reducible exact Below.refl _ _ | with_reducible refine bl_alloc ?_ _ | with_reducible refine bl_drewN ?_ _ | with_reducible refine bl_drew ?_ | (with_reducible refine bl_set ?_ ?_ _; rotate_left; focus (first | (simp; done) | (simp; omega) | omega)) | with_reducible refine below_step ?_ (Bw.below _) | with_reducible refine below_step ?_ (by assumption))⟩ ?_
  rintro V3 ⟨hta1, hta2, hta3, hta4, hta5, hta6, hWta⟩ gta
  have ta1 := Bw.hold hta1
  have ta2 := Bw.hold hta2
  have ta3 := Bw.hold hta3
  have ta4 := Bw.hold hta4
  have ta5 := Bw.hold hta5
  have ta6 := Bw.hold hta6
  have taz1 := fun g : Bw V3 => cell_lt (ta1 g)
  have tay1 := fun g : Bw V3 => Nat.le_of_lt (taz1 g)
  have taz4 := fun g : Bw V3 => cell_lt (ta4 g)
  have tay4 := fun g : Bw V3 => Nat.le_of_lt (taz4 g)
  clear hta1 hta2 hta3 hta4 hta5 hta6
  clear m1 m2 m3 m4 m5 m6 mz1 my1 mz4 my4
  clear k1 k2 k3
  refine (HBS.out _).mono ?_
  rintro e_g5 w_g5 ⟨rfl, hb_g5⟩
  obtain ⟨g5, rfl⟩ := gta.next hb_g5
  clear hb_g5
  go_wp2_with fail
  refine calls_start (fun V4 => V4.cell? ⟨w.heap.size, 0, none⟩ = some (.int .i64 0) ∧ V4.cell? ⟨w.heap.size, 1, none⟩ = some (.int .i64 A) ∧ V4.cell? ⟨w.heap.size, 2, none⟩ = some (.int .i64 B) ∧ V4.cell? ⟨g3.out.heap.size, 0, none⟩ = some (.int .i64 1) ∧ V4.cell? ⟨g3.out.heap.size, 1, none⟩ = some (.int .i64 X1) ∧ V4.cell? ⟨g3.out.heap.size, 2, none⟩ = some (.int .i64 Y1) ∧ V4.cell? ⟨g5.out.heap.size, 0, none⟩ = some (.int .i64 0) ∧ V4.cell? ⟨g5.out.heap.size, 1, none⟩ = some (.int .i64 A) ∧ V4.cell? ⟨g5.out.heap.size, 2, none⟩ = some (.int .i64 B) ∧ Below w.heap.size w V4) ⟨by first | with_reducible assumption | (simp [go_sem]; done) | with_reducible exact hold_al ta1 _ _ | with_reducible exact hold_al ta2 _ _ | with_reducible exact hold_al ta3 _ _ | with_reducible exact hold_al ta4 _ _ | with_reducible exact hold_al ta5 _ _ | with_reducible exact hold_al ta6 _ _ | (simp [go_sem, ta1, ta2, ta3, ta4, ta5, ta6, taz1, tay1, taz4, tay4]; done), by first | with_reducible assumption | (simp [go_sem]; done) | with_reducible exact hold_al ta1 _ _ | with_reducible exact hold_al ta2 _ _ | with_reducible exact hold_al ta3 _ _ | with_reducible exact hold_al ta4 _ _ | with_reducible exact hold_al ta5 _ _ | with_reducible exact hold_al ta6 _ _ | (simp [go_sem, ta1, ta2, ta3, ta4, ta5, ta6, taz1, tay1, taz4, tay4]; done), by first | with_reducible assumption | (simp [go_sem]; done) | with_reducible exact hold_al ta1 _ _ | with_reducible exact hold_al ta2 _ _ | with_reducible exact hold_al ta3 _ _ | with_reducible exact hold_al ta4 _ _ | with_reducible exact hold_al ta5 _ _ | with_reducible exact hold_al ta6 _ _ | (simp [go_sem, ta1, ta2, ta3, ta4, ta5, ta6, taz1, tay1, taz4, tay4]; done), by first | with_reducible assumption | (simp [go_sem]; done) | with_reducible exact hold_al ta1 _ _ | with_reducible exact hold_al ta2 _ _ | with_reducible exact hold_al ta3 _ _ | with_reducible exact hold_al ta4 _ _ | with_reducible exact hold_al ta5 _ _ | with_reducible exact hold_al ta6 _ _ | (simp [go_sem, ta1, ta2, ta3, ta4, ta5, ta6, taz1, tay1, taz4, tay4]; done), by first | with_reducible assumption | (simp [go_sem]; done) | with_reducible exact hold_al ta1 _ _ | with_reducible exact hold_al ta2 _ _ | with_reducible exact hold_al ta3 _ _ | with_reducible exact hold_al ta4 _ _ | with_reducible exact hold_al ta5 _ _ | with_reducible exact hold_al ta6 _ _ | (simp [go_sem, ta1, ta2, ta3, ta4, ta5, ta6, taz1, tay1, taz4, tay4]; done), by first | with_reducible assumption | (simp [go_sem]; done) | with_reducible exact hold_al ta1 _ _ | with_reducible exact hold_al ta2 _ _ | with_reducible exact hold_al ta3 _ _ | with_reducible exact hold_al ta4 _ _ | with_reducible exact hold_al ta5 _ _ | with_reducible exact hold_al ta6 _ _ | (simp [go_sem, ta1, ta2, ta3, ta4, ta5, ta6, taz1, tay1, taz4, tay4]; done), by first | with_reducible assumption | (simp [go_sem]; done) | with_reducible exact hold_al ta1 _ _ | with_reducible exact hold_al ta2 _ _ | with_reducible exact hold_al ta3 _ _ | with_reducible exact hold_al ta4 _ _ | with_reducible exact hold_al ta5 _ _ | with_reducible exact hold_al ta6 _ _ | (simp [go_sem, ta1, ta2, ta3, ta4, ta5, ta6, taz1, tay1, taz4, tay4]; done), by first | with_reducible assumption | (simp [go_sem]; done) | with_reducible exact hold_al ta1 _ _ | with_reducible exact hold_al ta2 _ _ | with_reducible exact hold_al ta3 _ _ | with_reducible exact hold_al ta4 _ _ | with_reducible exact hold_al ta5 _ _ | with_reducible exact hold_al ta6 _ _ | (simp [go_sem, ta1, ta2, ta3, ta4, ta5, ta6, taz1, tay1, taz4, tay4]; done), by first | with_reducible assumption | (simp [go_sem]; done) | with_reducible exact hold_al ta1 _ _ | with_reducible exact hold_al ta2 _ _ | with_reducible exact hold_al ta3 _ _ | with_reducible exact hold_al ta4 _ _ | with_reducible exact hold_al ta5 _ _ | with_reducible exact hold_al ta6 _ _ | (simp [go_sem, ta1, ta2, ta3, ta4, ta5, ta6, taz1, tay1, taz4, tay4]; done), by repeat (first | with_reducible exact Below.refl _ _ | with_reducible refine bl_alloc ?_ _ | with_reducible refine bl_drewN ?_ _ | with_reducible refine bl_drew ?_ | (with_reducible refine bl_set ?_ ?_ _; rotate_left; focus (first | (simp; done) | (simp; omega) | omega)) | with_reducible refine below_step ?_ (Bw.below _) | with_reducible refine below_step ?_ (by assumption))⟩ ?_
  rintro V4 ⟨htb1, htb2, htb3, htb4, htb5, htb6, htb7, htb8, htb9, hWtb⟩ gtb
  have tb1 := Bw.hold htb1
  have tb2 := Bw.hold htb2
  have tb3 := Bw.hold htb3
  have tb4 := Bw.hold htb4
  have tb5 := Bw.hold htb5
  have tb6 := Bw.hold htb6
  have tb7 := Bw.hold htb7
  have tb8 := Bw.hold htb8
  have tb9 := Bw.hold htb9
  have tbz1 := fun g : Bw V4 => cell_lt (tb1 g)
  have tby1 := fun g : Bw V4 => Nat.le_of_lt (tbz1 g)
  have tbz4 := fun g : Bw V4 => cell_lt (tb4 g)
  have tby4 := fun g : Bw V4 => Nat.le_of_lt (tbz4 g)
  have tbz7 := fun g : Bw V4 => cell_lt (tb7 g)
  have tby7 := fun g : Bw V4 => Nat.le_of_lt (tbz7 g)
  clear htb1 htb2 htb3 htb4 htb5 htb6 htb7 htb8 htb9
  clear ta1 ta2 ta3 ta4 ta5 ta6 taz1 tay1 taz4 tay4
  refine (HO1.out _).mono ?_
  rintro e_g6 w_g6 ⟨rfl, hb_g6⟩
  obtain ⟨g6, rfl⟩ := gtb.next hb_g6
  clear hb_g6
  go_wp2_with fail
  refine (HD.out _).mono ?_
  rintro e_g7 w_g7 ⟨rfl, hb_g7⟩
  obtain ⟨g7, rfl⟩ := g6.next hb_g7
  clear hb_g7
  go_wp2_with fail
  refine (awake4 _).mono ?_
  rintro e_g8 w_g8 ⟨rfl, hb_g8⟩
  obtain ⟨g8, rfl⟩ := g7.next hb_g8
  clear hb_g8
  go_wp2_with fail
  go_ret
  exact ⟨rfl, by repeat (first | with_reducible exact Below.refl _ _ | with_reducible refine bl_alloc ?_ _ | with_reducible refine bl_drewN ?_ _ | with_reducible refine bl_drew ?_ | (with_reducible refine bl_set ?_ ?_ _; rotate_left; focus (first | (simp; done) | (simp; omega) | omega)) | with_reducible refine below_step ?_ (Bw.below _) | with_reducible refine below_step ?_ (by assumption))⟩
/-! THE STATEMENT CellEdge -/
section
open Go.ChangeShapes Go.WideShapes Go.ChangeAt Go.RowKit Go.Joins
set_option linter.unusedVariables false
set_option maxRecDepth 100000 in
theorem cellEdge_lifted (os : Os) (started : os.Started) (H : Type) (enc : TypeId × Value → H) :
    ReturnsInHanded {} Try.checked os 6 .any (Rows.cellEdgeSpec.pre6 enc Try.prog Try.f6 Rows.cellEdgeRow.domain false) (Rows.cellEdgeSpec.post enc Try.prog Try.f6 false true false false) := by
  refine returnsInHanded_of_change (C := Try.checked) (show ownKnob Try.prog.godebug = none by kernel_rfl) started (by kernel_rfl) Try.func6
    (ChangeSpec.witness6 (enc := enc) (C := Try.checked) false ⟨#[], #[.int .i64 0, .int .i64 0, .int .i64 0], []⟩ 8 (by kernel_rfl) (by kernel_rfl) (by kernel_rfl) (by kernel_rfl)) ?_
  intro W base args ds gs before hval0 hW hcnd _
  have hval : ∀ (j : Nat) t v, Try.f6.params[j]? = some t → args[j]? = some v → Value.okWide Try.prog W .any base t v := hval0
  have hW' := hW
  obtain ⟨p, q, hA0, hV, rfl, hfz, hnd⟩ := hW
  have hA : DataW.TrodAll enc Try.prog W 0 (fun _ => true) true Try.f6.params.toList args.toList ds p := hA0
  rw [Try.params6] at hA hval
  obtain ⟨v0, vs0, d0, ds0, p0, q0, hargs, rfl, rfl, h0, r0⟩ := trodAll_cons hA
  obtain ⟨v1, vs1, d1, ds1, p1, q1, rfl, rfl, rfl, h1, r1⟩ := trodAll_cons r0
  obtain ⟨v2, vs2, d2, ds2, p2, q2, rfl, rfl, rfl, h2, r2⟩ := trodAll_cons r1
  obtain ⟨rfl, rfl, rfl⟩ := trodAll_nil r2
  obtain rfl : args = #[v0, v1, v2] := by cases args; simp_all
  obtain ⟨rfl, rfl⟩ := trodVars_none hV
  obtain ⟨a, rfl, rfl, rfl, wf_a⟩ := open_int Try.underlying2 (hval 0 2 v0 rfl rfl) h0
  obtain ⟨b, rfl, rfl, rfl, wf_b⟩ := open_int Try.underlying2 (hval 1 2 v1 rfl rfl) h1
  obtain ⟨d, rfl, rfl, rfl, wf_d⟩ := open_int Try.underlying3 (hval 2 3 v2 rfl rfl) h2
  clear hA0 hval0
  simp only [List.append_nil] at hW'
  refine (celledge_walk a b d (wf_i64 wf_a).1 (wf_i64 wf_a).2 (wf_i64 wf_b).1 (wf_i64 wf_b).2 (wf_i64 wf_d).1 (wf_i64 wf_d).2 W).mono fun e W' ⟨he, hb⟩ => ?_
  subst he
  exact ⟨_, rfl, post_of_below (pa := []) (pv := []) hW' (fun _ _ _ => (trodAll_cons_mk (shut_bool Try.underlying4 _) trodAll_mk0)) (fun sp _ => (trodAll_cons_mk (shut_int Try.underlying2 wf_a) (trodAll_cons_mk (shut_int Try.underlying2 wf_b) (trodAll_cons_mk (shut_int Try.underlying3 wf_d) trodAll_mk0)))) (fun _ _ => rfl) rfl hb
    (ok_one (by kernel_rfl) rfl (okWide_bool_mk Try.underlying4 _))⟩
theorem cellEdge_holds : Rows.CellEdgeSaid :=
  OpenClaim.holds_of_wide 6 Try.f6 rfl rfl rfl rfl rfl rfl rfl ⟨rfl, rfl, rfl, rfl, rfl⟩ rfl rfl rfl rfl rfl (by kernel_rfl) Try.func6 (by kernel_rfl)
    (of_decide_eq_true (by kernel_rfl)) (by unfold Func.isWrapper; first | (rw [if_pos (by decide +kernel)]; kernel_rfl) | (rw [if_neg (by decide +kernel)]; exact ⟨rfl, rfl⟩))
    (fun os started H enc _ => cellEdge_lifted os started H enc)
end
#print axioms cellEdge_holds
end Go.Proofs.Ytajojnbpmbkghaa

/- IdentOne: unlike cells have unlike words, unlike words unlike texts. No condition. -/
import Derived.Test.YtmipkloleklnkaaIdMore
namespace Go.Proofs.Ytmipkloleklnkaa
open Go.RowKit
set_option linter.unusedSimpArgs false
set_option linter.unusedVariables false
theorem bytes_inj {a b : ByteArray} (h : a.toList = b.toList) : a = b := by
  rw [ByteArray.toList_eq, ByteArray.toList_eq] at h
  exact ByteArray.ext (Array.toList_inj.mp h)
set_option maxRecDepth 100000 in
set_option maxHeartbeats 8000000 in
theorem identone_walk (x y r u v s A B : Int) (hx : -9223372036854775808 ≤ x) (hx' : x ≤ 9223372036854775807) (hy : -9223372036854775808 ≤ y) (hy' : y ≤ 9223372036854775807) (hr : -9223372036854775808 ≤ r) (hr' : r ≤ 9223372036854775807) (hu : -9223372036854775808 ≤ u) (hu' : u ≤ 9223372036854775807) (hv : -9223372036854775808 ≤ v) (hv' : v ≤ 9223372036854775807) (hs : -9223372036854775808 ≤ s) (hs' : s ≤ 9223372036854775807) (hA : 0 ≤ A) (hA' : A ≤ 18446744073709551615) (hB : 0 ≤ B) (hB' : B ≤ 18446744073709551615) (w : World) :
    Calls Try.prog 3 #[.int .i64 x, .int .i64 y, .int .i64 r, .int .i64 u, .int .i64 v, .int .i64 s, .int .u64 A, .int .u64 B] w fun e w' => e = .returned (.bool true) ∧ Below w.heap.size w w' := by
  have W1 := law5_word x y r hx hx' hy hy' hr hr'
  have W2 := law5_word u v s hu hu' hv hv' hs hs'
  generalize (r.tmod 13 + 13).tmod 13 = R at W1
  generalize (s.tmod 13 + 13).tmod 13 = S at W2
  have H1 := Lib.hid W1
  have H2 := Lib.hid W2
  have TA := Lib.hid (id_text A hA (by omega))
  have TB := Lib.hid (id_text B hB (by omega))
  have XA := Lib.hid (ref_hex A hA (by omega))
  have hinj := hex_inj A B hA (by omega) hB (by omega)
  have hsz := hex_size A
  have hAB : (A = B ∧ hexS A = hexS B) ∨ (A ≠ B ∧ hexS A ≠ hexS B) := by
    by_cases e : A = B
    · exact .inl ⟨e, by rw [e]⟩
    · exact .inr ⟨e, fun h => e (hinj h)⟩
  clear W1 W2 hinj
  generalize hexS A = ta at *
  generalize hexS B = tb at *
  go_enter Try.func3, Try.ntmps3
  go_wp2_with fail
  refine (H1.out _).mono ?_
  rintro e_1 w_1 ⟨a, b, rfl, ok1, hb_1⟩
  obtain ⟨g1, rfl⟩ := bw_of hb_1
  clear hb_1
  go_wp2_with fail
  refine (H2.out _).mono ?_
  rintro e_2 w_2 ⟨c, d, rfl, ok2, hb_2⟩
  obtain ⟨g2, rfl⟩ := g1.next hb_2
  clear hb_2
  obtain ⟨⟨p1, p2⟩, p3, p4, p5⟩ := word_of ok1
  obtain ⟨⟨q1, q2⟩, q3, q4, q5⟩ := word_of ok2
  have C1 := id_cell_yes _ p1 p2 p3
  have C2 := id_cell_yes _ q1 q2 q3
  rw [p4, p5] at C1
  rw [q4, q5] at C2
  have hcase : (R = S ∧ a = c ∧ b = d ∧ wv a b R.toNat = wv c d S.toNat) ∨ (R ≠ S ∧ wv a b R.toNat ≠ wv c d S.toNat) ∨ (a ≠ c ∧ wv a b R.toNat ≠ wv c d S.toNat) ∨ (b ≠ d ∧ wv a b R.toNat ≠ wv c d S.toNat) := by
    by_cases hw : wv a b R.toNat = wv c d S.toNat
    · refine .inl ⟨?_, ?_, ?_, hw⟩
      · rw [← p4, ← q4, hw]
      · have : (a, b) = (c, d) := by rw [← p5, ← q5, hw]
        exact (Prod.mk.inj this).1
      · have : (a, b) = (c, d) := by rw [← p5, ← q5, hw]
        exact (Prod.mk.inj this).2
    · by_cases h1 : R = S
      · by_cases h2 : a = c
        · by_cases h3 : b = d
          · exact absurd (by rw [h1, h2, h3]) hw
          · exact .inr (.inr (.inr ⟨h3, hw⟩))
        · exact .inr (.inr (.inl ⟨h2, hw⟩))
      · exact .inr (.inl ⟨h1, hw⟩)
  have K1 := Lib.hid C1
  have K2 := Lib.hid C2
  clear C1 C2 p1 p2 p3 p4 p5 q1 q2 q3 q4 q5 ok1 ok2 H1 H2
  generalize wv a b R.toNat = P at *
  generalize wv c d S.toNat = Q at *
  go_wp2_with fail
  refine (K1.out _).mono ?_
  rintro e_3 w_3 ⟨rfl, hb_3⟩
  obtain ⟨g3, rfl⟩ := g2.next hb_3
  clear hb_3
  go_wp2_with fail
  refine calls_start (fun V => V.cell? ⟨g3.out.heap.size, 0, none⟩ = some (.int .i64 R) ∧ V.cell? ⟨g3.out.heap.size, 1, none⟩ = some (.int .i64 a) ∧ V.cell? ⟨g3.out.heap.size, 2, none⟩ = some (.int .i64 b) ∧ Below w.heap.size w V) ⟨by first | with_reducible assumption | (simp [go_sem]; done), by first | with_reducible assumption | (simp [go_sem]; done), by first | with_reducible assumption | (simp [go_sem]; done), by repeat (first | with_reducible exact Below.refl _ _ | with_reducible refine bl_alloc ?_ _ | with_reducible refine bl_drewN ?_ _ | with_reducible refine bl_drew ?_ | (with_reducible refine bl_set ?_ ?_ _; rotate_left; focus (first | (simp; done) | (simp; omega) | omega)) | with_reducible refine below_step ?_ (Bw.below _) | with_reducible refine below_step ?_ (by assumption))⟩ ?_
  rintro V ⟨hta11, hta12, hta13, hWta1⟩ gta1
  have ta11 := Bw.hold hta11
  have ta12 := Bw.hold hta12
  have ta13 := Bw.hold hta13
  have ta1z1 := fun g : Bw V => cell_lt (ta11 g)
  have ta1y1 := fun g : Bw V => Nat.le_of_lt (ta1z1 g)
  clear hta11 hta12 hta13
  refine (K2.out _).mono ?_
  rintro e_4 w_4 ⟨rfl, hb_4⟩
  obtain ⟨g4, rfl⟩ := gta1.next hb_4
  clear hb_4
  rcases hcase with ⟨h1, h2, h3, h4⟩ | ⟨h1, h4⟩ | ⟨h2, h4⟩ | ⟨h3, h4⟩
  · have e1 : (R == S) = true := by simp [h1]
    have e2 : (a == c) = true := by simp [h2]
    have e3 : (b == d) = true := by simp [h3]
    have e4 : (P == Q) = true := by simp [h4]
    clear h1 h2 h3 h4
    rcases hAB with ⟨h5, h6⟩ | ⟨h5, h6⟩
    · have e5 : (A == B) = true := by simp [h5]
      have e6 : ta.toList = tb.toList := by rw [h6]
      clear h5
      clear h6
      go_wp2_with fail
      refine calls_start (fun V2 => V2.cell? ⟨g3.out.heap.size, 0, none⟩ = some (.int .i64 R) ∧ V2.cell? ⟨g3.out.heap.size, 1, none⟩ = some (.int .i64 a) ∧ V2.cell? ⟨g3.out.heap.size, 2, none⟩ = some (.int .i64 b) ∧ V2.cell? ⟨g4.out.heap.size, 0, none⟩ = some (.int .i64 S) ∧ V2.cell? ⟨g4.out.heap.size, 1, none⟩ = some (.int .i64 c) ∧ V2.cell? ⟨g4.out.heap.size, 2, none⟩ = some (.int .i64 d) ∧ Below w.heap.size w V2) ⟨by first | with_reducible assumption | (simp [go_sem]; done) | with_reducible exact hold_al ta11 _ _ | with_reducible exact hold_al ta12 _ _ | with_reducible exact hold_al ta13 _ _ | (simp [go_sem, ta11, ta12, ta13, ta1z1, ta1y1]; done), by first | with_reducible assumption | (simp [go_sem]; done) | with_reducible exact hold_al ta11 _ _ | with_reducible exact hold_al ta12 _ _ | with_reducible exact hold_al ta13 _ _ | (simp [go_sem, ta11, ta12, ta13, ta1z1, ta1y1]; done), by first | with_reducible assumption | (simp [go_sem]; done) | with_reducible exact hold_al ta11 _ _ | with_reducible exact hold_al ta12 _ _ | with_reducible exact hold_al ta13 _ _ | (simp [go_sem, ta11, ta12, ta13, ta1z1, ta1y1]; done), by first | with_reducible assumption | (simp [go_sem]; done) | with_reducible exact hold_al ta11 _ _ | with_reducible exact hold_al ta12 _ _ | with_reducible exact hold_al ta13 _ _ | (simp [go_sem, ta11, ta12, ta13, ta1z1, ta1y1]; done), by first | with_reducible assumption | (simp [go_sem]; done) | with_reducible exact hold_al ta11 _ _ | with_reducible exact hold_al ta12 _ _ | with_reducible exact hold_al ta13 _ _ | (simp [go_sem, ta11, ta12, ta13, ta1z1, ta1y1]; done), by first | with_reducible assumption | (simp [go_sem]; done) | with_reducible exact hold_al ta11 _ _ | with_reducible exact hold_al ta12 _ _ | with_reducible exact hold_al ta13 _ _ | (simp [go_sem, ta11, ta12, ta13, ta1z1, ta1y1]; done), by repeat (first | with_reducible exact Below.refl _ _ | with_reducible refine bl_alloc ?_ _ | with_reducible refine bl_drewN ?_ _ | with_reducible refine bl_drew ?_ | (with_reducible refine bl_set ?_ ?_ _; rotate_left; focus (first | (simp; done) | (simp; omega) | omega)) | with_reducible refine below_step ?_ (Bw.below _) | with_reducible refine below_step ?_ (by assumption))⟩ ?_
      rintro V2 ⟨htb11, htb12, htb13, htb14, htb15, htb16, hWtb1⟩ gtb1
      have tb11 := Bw.hold htb11
      have tb12 := Bw.hold htb12
      have tb13 := Bw.hold htb13
      have tb14 := Bw.hold htb14
      have tb15 := Bw.hold htb15
      have tb16 := Bw.hold htb16
      have tb1z1 := fun g : Bw V2 => cell_lt (tb11 g)
      have tb1y1 := fun g : Bw V2 => Nat.le_of_lt (tb1z1 g)
      have tb1z4 := fun g : Bw V2 => cell_lt (tb14 g)
      have tb1y4 := fun g : Bw V2 => Nat.le_of_lt (tb1z4 g)
      clear htb11 htb12 htb13 htb14 htb15 htb16
      refine (TA.out _).mono ?_
      rintro e_g5 w_g5 ⟨rfl, hb_g5⟩
      obtain ⟨g5, rfl⟩ := gtb1.next hb_g5
      clear hb_g5
      go_wp2_with fail
      refine (TB.out _).mono ?_
      rintro e_g6 w_g6 ⟨rfl, hb_g6⟩
      obtain ⟨g6, rfl⟩ := g5.next hb_g6
      clear hb_g6
      go_wp2_with fail
      refine (TA.out _).mono ?_
      rintro e_g7 w_g7 ⟨rfl, hb_g7⟩
      obtain ⟨g7, rfl⟩ := g6.next hb_g7
      clear hb_g7
      go_wp2_with fail
      refine (TA.out _).mono ?_
      rintro e_g8 w_g8 ⟨rfl, hb_g8⟩
      obtain ⟨g8, rfl⟩ := g7.next hb_g8
      clear hb_g8
      go_wp2_with fail
      refine (XA.out _).mono ?_
      rintro e_9 w_9 ⟨rfl, rfl⟩
      go_wp2_with fail
      refine (awake5 _).mono ?_
      rintro e_g9 w_g9 ⟨rfl, hb_g9⟩
      obtain ⟨g9, rfl⟩ := g8.next hb_g9
      clear hb_g9
      go_wp2_with fail
      go_ret
      exact ⟨rfl, by repeat (first | with_reducible exact Below.refl _ _ | with_reducible refine bl_alloc ?_ _ | with_reducible refine bl_drewN ?_ _ | with_reducible refine bl_drew ?_ | (with_reducible refine bl_set ?_ ?_ _; rotate_left; focus (first | (simp; done) | (simp; omega) | omega)) | with_reducible refine below_step ?_ (Bw.below _) | with_reducible refine below_step ?_ (by assumption))⟩
    · have e5 : (A == B) = false := by simp [h5]
      have e6 : (ta.toList == tb.toList) = false := by rw [beq_eq_false_iff_ne]; exact fun h => h6 (bytes_inj h)
      clear h5
      clear h6
      go_wp2_with fail
      refine calls_start (fun V2 => V2.cell? ⟨g3.out.heap.size, 0, none⟩ = some (.int .i64 R) ∧ V2.cell? ⟨g3.out.heap.size, 1, none⟩ = some (.int .i64 a) ∧ V2.cell? ⟨g3.out.heap.size, 2, none⟩ = some (.int .i64 b) ∧ V2.cell? ⟨g4.out.heap.size, 0, none⟩ = some (.int .i64 S) ∧ V2.cell? ⟨g4.out.heap.size, 1, none⟩ = some (.int .i64 c) ∧ V2.cell? ⟨g4.out.heap.size, 2, none⟩ = some (.int .i64 d) ∧ Below w.heap.size w V2) ⟨by first | with_reducible assumption | (simp [go_sem]; done) | with_reducible exact hold_al ta11 _ _ | with_reducible exact hold_al ta12 _ _ | with_reducible exact hold_al ta13 _ _ | (simp [go_sem, ta11, ta12, ta13, ta1z1, ta1y1]; done), by first | with_reducible assumption | (simp [go_sem]; done) | with_reducible exact hold_al ta11 _ _ | with_reducible exact hold_al ta12 _ _ | with_reducible exact hold_al ta13 _ _ | (simp [go_sem, ta11, ta12, ta13, ta1z1, ta1y1]; done), by first | with_reducible assumption | (simp [go_sem]; done) | with_reducible exact hold_al ta11 _ _ | with_reducible exact hold_al ta12 _ _ | with_reducible exact hold_al ta13 _ _ | (simp [go_sem, ta11, ta12, ta13, ta1z1, ta1y1]; done), by first | with_reducible assumption | (simp [go_sem]; done) | with_reducible exact hold_al ta11 _ _ | with_reducible exact hold_al ta12 _ _ | with_reducible exact hold_al ta13 _ _ | (simp [go_sem, ta11, ta12, ta13, ta1z1, ta1y1]; done), by first | with_reducible assumption | (simp [go_sem]; done) | with_reducible exact hold_al ta11 _ _ | with_reducible exact hold_al ta12 _ _ | with_reducible exact hold_al ta13 _ _ | (simp [go_sem, ta11, ta12, ta13, ta1z1, ta1y1]; done), by first | with_reducible assumption | (simp [go_sem]; done) | with_reducible exact hold_al ta11 _ _ | with_reducible exact hold_al ta12 _ _ | with_reducible exact hold_al ta13 _ _ | (simp [go_sem, ta11, ta12, ta13, ta1z1, ta1y1]; done), by repeat (first | with_reducible exact Below.refl _ _ | with_reducible refine bl_alloc ?_ _ | with_reducible refine bl_drewN ?_ _ | with_reducible refine bl_drew ?_ | (with_reducible refine bl_set ?_ ?_ _; rotate_left; focus (first | (simp; done) | (simp; omega) | omega)) | with_reducible refine below_step ?_ (Bw.below _) | with_reducible refine below_step ?_ (by assumption))⟩ ?_
      rintro V2 ⟨htb11, htb12, htb13, htb14, htb15, htb16, hWtb1⟩ gtb1
      have tb11 := Bw.hold htb11
      have tb12 := Bw.hold htb12
      have tb13 := Bw.hold htb13
      have tb14 := Bw.hold htb14
      have tb15 := Bw.hold htb15
      have tb16 := Bw.hold htb16
      have tb1z1 := fun g : Bw V2 => cell_lt (tb11 g)
      have tb1y1 := fun g : Bw V2 => Nat.le_of_lt (tb1z1 g)
      have tb1z4 := fun g : Bw V2 => cell_lt (tb14 g)
      have tb1y4 := fun g : Bw V2 => Nat.le_of_lt (tb1z4 g)
      clear htb11 htb12 htb13 htb14 htb15 htb16
      refine (TA.out _).mono ?_
      rintro e_g5 w_g5 ⟨rfl, hb_g5⟩
      obtain ⟨g5, rfl⟩ := gtb1.next hb_g5
      clear hb_g5
      go_wp2_with fail
      refine (TB.out _).mono ?_
      rintro e_g6 w_g6 ⟨rfl, hb_g6⟩
      obtain ⟨g6, rfl⟩ := g5.next hb_g6
      clear hb_g6
      go_wp2_with fail
      refine (TA.out _).mono ?_
      rintro e_g7 w_g7 ⟨rfl, hb_g7⟩
      obtain ⟨g7, rfl⟩ := g6.next hb_g7
      clear hb_g7
      go_wp2_with fail
      refine (TA.out _).mono ?_
      rintro e_g8 w_g8 ⟨rfl, hb_g8⟩
      obtain ⟨g8, rfl⟩ := g7.next hb_g8
      clear hb_g8
      go_wp2_with fail
      refine (XA.out _).mono ?_
      rintro e_9 w_9 ⟨rfl, rfl⟩
      go_wp2_with fail
      refine (awake5 _).mono ?_
      rintro e_g9 w_g9 ⟨rfl, hb_g9⟩
      obtain ⟨g9, rfl⟩ := g8.next hb_g9
      clear hb_g9
      go_wp2_with fail
      go_ret
      exact ⟨rfl, by repeat (first | with_reducible exact Below.refl _ _ | with_reducible refine bl_alloc ?_ _ | with_reducible refine bl_drewN ?_ _ | with_reducible refine bl_drew ?_ | (with_reducible refine bl_set ?_ ?_ _; rotate_left; focus (first | (simp; done) | (simp; omega) | omega)) | with_reducible refine below_step ?_ (Bw.below _) | with_reducible refine below_step ?_ (by assumption))⟩
  · have e1 : (R == S) = false := by simp [h1]
    have e4 : (P == Q) = false := by simp [h4]
    clear h1 h4
    rcases hAB with ⟨h5, h6⟩ | ⟨h5, h6⟩
    · have e5 : (A == B) = true := by simp [h5]
      have e6 : ta.toList = tb.toList := by rw [h6]
      clear h5
      clear h6
      go_wp2_with fail
      refine calls_start (fun V2 => V2.cell? ⟨g3.out.heap.size, 0, none⟩ = some (.int .i64 R) ∧ V2.cell? ⟨g3.out.heap.size, 1, none⟩ = some (.int .i64 a) ∧ V2.cell? ⟨g3.out.heap.size, 2, none⟩ = some (.int .i64 b) ∧ V2.cell? ⟨g4.out.heap.size, 0, none⟩ = some (.int .i64 S) ∧ V2.cell? ⟨g4.out.heap.size, 1, none⟩ = some (.int .i64 c) ∧ V2.cell? ⟨g4.out.heap.size, 2, none⟩ = some (.int .i64 d) ∧ Below w.heap.size w V2) ⟨by first | with_reducible assumption | (simp [go_sem]; done) | with_reducible exact hold_al ta11 _ _ | with_reducible exact hold_al ta12 _ _ | with_reducible exact hold_al ta13 _ _ | (simp [go_sem, ta11, ta12, ta13, ta1z1, ta1y1]; done), by first | with_reducible assumption | (simp [go_sem]; done) | with_reducible exact hold_al ta11 _ _ | with_reducible exact hold_al ta12 _ _ | with_reducible exact hold_al ta13 _ _ | (simp [go_sem, ta11, ta12, ta13, ta1z1, ta1y1]; done), by first | with_reducible assumption | (simp [go_sem]; done) | with_reducible exact hold_al ta11 _ _ | with_reducible exact hold_al ta12 _ _ | with_reducible exact hold_al ta13 _ _ | (simp [go_sem, ta11, ta12, ta13, ta1z1, ta1y1]; done), by first | with_reducible assumption | (simp [go_sem]; done) | with_reducible exact hold_al ta11 _ _ | with_reducible exact hold_al ta12 _ _ | with_reducible exact hold_al ta13 _ _ | (simp [go_sem, ta11, ta12, ta13, ta1z1, ta1y1]; done), by first | with_reducible assumption | (simp [go_sem]; done) | with_reducible exact hold_al ta11 _ _ | with_reducible exact hold_al ta12 _ _ | with_reducible exact hold_al ta13 _ _ | (simp [go_sem, ta11, ta12, ta13, ta1z1, ta1y1]; done), by first | with_reducible assumption | (simp [go_sem]; done) | with_reducible exact hold_al ta11 _ _ | with_reducible exact hold_al ta12 _ _ | with_reducible exact hold_al ta13 _ _ | (simp [go_sem, ta11, ta12, ta13, ta1z1, ta1y1]; done), by repeat (first | with_reducible exact Below.refl _ _ | with_reducible refine bl_alloc ?_ _ | with_reducible refine bl_drewN ?_ _ | with_reducible refine bl_drew ?_ | (with_reducible refine bl_set ?_ ?_ _; rotate_left; focus (first | (simp; done) | (simp; omega) | omega)) | with_reducible refine below_step ?_ (Bw.below _) | with_reducible refine below_step ?_ (by assumption))⟩ ?_
      rintro V2 ⟨htb11, htb12, htb13, htb14, htb15, htb16, hWtb1⟩ gtb1
      have tb11 := Bw.hold htb11
      have tb12 := Bw.hold htb12
      have tb13 := Bw.hold htb13
      have tb14 := Bw.hold htb14
      have tb15 := Bw.hold htb15
      have tb16 := Bw.hold htb16
      have tb1z1 := fun g : Bw V2 => cell_lt (tb11 g)
      have tb1y1 := fun g : Bw V2 => Nat.le_of_lt (tb1z1 g)
      have tb1z4 := fun g : Bw V2 => cell_lt (tb14 g)
      have tb1y4 := fun g : Bw V2 => Nat.le_of_lt (tb1z4 g)
      clear htb11 htb12 htb13 htb14 htb15 htb16
      refine (TA.out _).mono ?_
      rintro e_g5 w_g5 ⟨rfl, hb_g5⟩
      obtain ⟨g5, rfl⟩ := gtb1.next hb_g5
      clear hb_g5
      go_wp2_with fail
      refine (TB.out _).mono ?_
      rintro e_g6 w_g6 ⟨rfl, hb_g6⟩
      obtain ⟨g6, rfl⟩ := g5.next hb_g6
      clear hb_g6
      go_wp2_with fail
      refine (TA.out _).mono ?_
      rintro e_g7 w_g7 ⟨rfl, hb_g7⟩
      obtain ⟨g7, rfl⟩ := g6.next hb_g7
      clear hb_g7
      go_wp2_with fail
      refine (TA.out _).mono ?_
      rintro e_g8 w_g8 ⟨rfl, hb_g8⟩
      obtain ⟨g8, rfl⟩ := g7.next hb_g8
      clear hb_g8
      go_wp2_with fail
      refine (XA.out _).mono ?_
      rintro e_9 w_9 ⟨rfl, rfl⟩
      go_wp2_with fail
      refine (awake5 _).mono ?_
      rintro e_g9 w_g9 ⟨rfl, hb_g9⟩
      obtain ⟨g9, rfl⟩ := g8.next hb_g9
      clear hb_g9
      go_wp2_with fail
      go_ret
      exact ⟨rfl, by repeat (first | with_reducible exact Below.refl _ _ | with_reducible refine bl_alloc ?_ _ | with_reducible refine bl_drewN ?_ _ | with_reducible refine bl_drew ?_ | (with_reducible refine bl_set ?_ ?_ _; rotate_left; focus (first | (simp; done) | (simp; omega) | omega)) | with_reducible refine below_step ?_ (Bw.below _) | with_reducible refine below_step ?_ (by assumption))⟩
    · have e5 : (A == B) = false := by simp [h5]
      have e6 : (ta.toList == tb.toList) = false := by rw [beq_eq_false_iff_ne]; exact fun h => h6 (bytes_inj h)
      clear h5
      clear h6
      go_wp2_with fail
      refine calls_start (fun V2 => V2.cell? ⟨g3.out.heap.size, 0, none⟩ = some (.int .i64 R) ∧ V2.cell? ⟨g3.out.heap.size, 1, none⟩ = some (.int .i64 a) ∧ V2.cell? ⟨g3.out.heap.size, 2, none⟩ = some (.int .i64 b) ∧ V2.cell? ⟨g4.out.heap.size, 0, none⟩ = some (.int .i64 S) ∧ V2.cell? ⟨g4.out.heap.size, 1, none⟩ = some (.int .i64 c) ∧ V2.cell? ⟨g4.out.heap.size, 2, none⟩ = some (.int .i64 d) ∧ Below w.heap.size w V2) ⟨by first | with_reducible assumption | (simp [go_sem]; done) | with_reducible exact hold_al ta11 _ _ | with_reducible exact hold_al ta12 _ _ | with_reducible exact hold_al ta13 _ _ | (simp [go_sem, ta11, ta12, ta13, ta1z1, ta1y1]; done), by first | with_reducible assumption | (simp [go_sem]; done) | with_reducible exact hold_al ta11 _ _ | with_reducible exact hold_al ta12 _ _ | with_reducible exact hold_al ta13 _ _ | (simp [go_sem, ta11, ta12, ta13, ta1z1, ta1y1]; done), by first | with_reducible assumption | (simp [go_sem]; done) | with_reducible exact hold_al ta11 _ _ | with_reducible exact hold_al ta12 _ _ | with_reducible exact hold_al ta13 _ _ | (simp [go_sem, ta11, ta12, ta13, ta1z1, ta1y1]; done), by first | with_reducible assumption | (simp [go_sem]; done) | with_reducible exact hold_al ta11 _ _ | with_reducible exact hold_al ta12 _ _ | with_reducible exact hold_al ta13 _ _ | (simp [go_sem, ta11, ta12, ta13, ta1z1, ta1y1]; done), by first | with_reducible assumption | (simp [go_sem]; done) | with_reducible exact hold_al ta11 _ _ | with_reducible exact hold_al ta12 _ _ | with_reducible exact hold_al ta13 _ _ | (simp [go_sem, ta11, ta12, ta13, ta1z1, ta1y1]; done), by first | with_reducible assumption | (simp [go_sem]; done) | with_reducible exact hold_al ta11 _ _ | with_reducible exact hold_al ta12 _ _ | with_reducible exact hold_al ta13 _ _ | (simp [go_sem, ta11, ta12, ta13, ta1z1, ta1y1]; done), by repeat (first | with_reducible exact Below.refl _ _ | with_reducible refine bl_alloc ?_ _ | with_reducible refine bl_drewN ?_ _ | with_reducible refine bl_drew ?_ | (with_reducible refine bl_set ?_ ?_ _; rotate_left; focus (first | (simp; done) | (simp; omega) | omega)) | with_reducible refine below_step ?_ (Bw.below _) | with_reducible refine below_step ?_ (by assumption))⟩ ?_
      rintro V2 ⟨htb11, htb12, htb13, htb14, htb15, htb16, hWtb1⟩ gtb1
      have tb11 := Bw.hold htb11
      have tb12 := Bw.hold htb12
      have tb13 := Bw.hold htb13
      have tb14 := Bw.hold htb14
      have tb15 := Bw.hold htb15
      have tb16 := Bw.hold htb16
      have tb1z1 := fun g : Bw V2 => cell_lt (tb11 g)
      have tb1y1 := fun g : Bw V2 => Nat.le_of_lt (tb1z1 g)
      have tb1z4 := fun g : Bw V2 => cell_lt (tb14 g)
      have tb1y4 := fun g : Bw V2 => Nat.le_of_lt (tb1z4 g)
      clear htb11 htb12 htb13 htb14 htb15 htb16
      refine (TA.out _).mono ?_
      rintro e_g5 w_g5 ⟨rfl, hb_g5⟩
      obtain ⟨g5, rfl⟩ := gtb1.next hb_g5
      clear hb_g5
      go_wp2_with fail
      refine (TB.out _).mono ?_
      rintro e_g6 w_g6 ⟨rfl, hb_g6⟩
      obtain ⟨g6, rfl⟩ := g5.next hb_g6
      clear hb_g6
      go_wp2_with fail
      refine (TA.out _).mono ?_
      rintro e_g7 w_g7 ⟨rfl, hb_g7⟩
      obtain ⟨g7, rfl⟩ := g6.next hb_g7
      clear hb_g7
      go_wp2_with fail
      refine (TA.out _).mono ?_
      rintro e_g8 w_g8 ⟨rfl, hb_g8⟩
      obtain ⟨g8, rfl⟩ := g7.next hb_g8
      clear hb_g8
      go_wp2_with fail
      refine (XA.out _).mono ?_
      rintro e_9 w_9 ⟨rfl, rfl⟩
      go_wp2_with fail
      refine (awake5 _).mono ?_
      rintro e_g9 w_g9 ⟨rfl, hb_g9⟩
      obtain ⟨g9, rfl⟩ := g8.next hb_g9
      clear hb_g9
      go_wp2_with fail
      go_ret
      exact ⟨rfl, by repeat (first | with_reducible exact Below.refl _ _ | with_reducible refine bl_alloc ?_ _ | with_reducible refine bl_drewN ?_ _ | with_reducible refine bl_drew ?_ | (with_reducible refine bl_set ?_ ?_ _; rotate_left; focus (first | (simp; done) | (simp; omega) | omega)) | with_reducible refine below_step ?_ (Bw.below _) | with_reducible refine below_step ?_ (by assumption))⟩
  · have e1 : (a == c) = false := by simp [h2]
    have e4 : (P == Q) = false := by simp [h4]
    clear h2 h4
    rcases hAB with ⟨h5, h6⟩ | ⟨h5, h6⟩
    · have e5 : (A == B) = true := by simp [h5]
      have e6 : ta.toList = tb.toList := by rw [h6]
      clear h5
      clear h6
      go_wp2_with fail
      refine calls_start (fun V2 => V2.cell? ⟨g3.out.heap.size, 0, none⟩ = some (.int .i64 R) ∧ V2.cell? ⟨g3.out.heap.size, 1, none⟩ = some (.int .i64 a) ∧ V2.cell? ⟨g3.out.heap.size, 2, none⟩ = some (.int .i64 b) ∧ V2.cell? ⟨g4.out.heap.size, 0, none⟩ = some (.int .i64 S) ∧ V2.cell? ⟨g4.out.heap.size, 1, none⟩ = some (.int .i64 c) ∧ V2.cell? ⟨g4.out.heap.size, 2, none⟩ = some (.int .i64 d) ∧ Below w.heap.size w V2) ⟨by first | with_reducible assumption | (simp [go_sem]; done) | with_reducible exact hold_al ta11 _ _ | with_reducible exact hold_al ta12 _ _ | with_reducible exact hold_al ta13 _ _ | (simp [go_sem, ta11, ta12, ta13, ta1z1, ta1y1]; done), by first | with_reducible assumption | (simp [go_sem]; done) | with_reducible exact hold_al ta11 _ _ | with_reducible exact hold_al ta12 _ _ | with_reducible exact hold_al ta13 _ _ | (simp [go_sem, ta11, ta12, ta13, ta1z1, ta1y1]; done), by first | with_reducible assumption | (simp [go_sem]; done) | with_reducible exact hold_al ta11 _ _ | with_reducible exact hold_al ta12 _ _ | with_reducible exact hold_al ta13 _ _ | (simp [go_sem, ta11, ta12, ta13, ta1z1, ta1y1]; done), by first | with_reducible assumption | (simp [go_sem]; done) | with_reducible exact hold_al ta11 _ _ | with_reducible exact hold_al ta12 _ _ | with_reducible exact hold_al ta13 _ _ | (simp [go_sem, ta11, ta12, ta13, ta1z1, ta1y1]; done), by first | with_reducible assumption | (simp [go_sem]; done) | with_reducible exact hold_al ta11 _ _ | with_reducible exact hold_al ta12 _ _ | with_reducible exact hold_al ta13 _ _ | (simp [go_sem, ta11, ta12, ta13, ta1z1, ta1y1]; done), by first | with_reducible assumption | (simp [go_sem]; done) | with_reducible exact hold_al ta11 _ _ | with_reducible exact hold_al ta12 _ _ | with_reducible exact hold_al ta13 _ _ | (simp [go_sem, ta11, ta12, ta13, ta1z1, ta1y1]; done), by repeat (first | with_reducible exact Below.refl _ _ | with_reducible refine bl_alloc ?_ _ | with_reducible refine bl_drewN ?_ _ | with_reducible refine bl_drew ?_ | (with_reducible refine bl_set ?_ ?_ _; rotate_left; focus (first | (simp; done) | (simp; omega) | omega)) | with_reducible refine below_step ?_ (Bw.below _) | with_reducible refine below_step ?_ (by assumption))⟩ ?_
      rintro V2 ⟨htb11, htb12, htb13, htb14, htb15, htb16, hWtb1⟩ gtb1
      have tb11 := Bw.hold htb11
      have tb12 := Bw.hold htb12
      have tb13 := Bw.hold htb13
      have tb14 := Bw.hold htb14
      have tb15 := Bw.hold htb15
      have tb16 := Bw.hold htb16
      have tb1z1 := fun g : Bw V2 => cell_lt (tb11 g)
      have tb1y1 := fun g : Bw V2 => Nat.le_of_lt (tb1z1 g)
      have tb1z4 := fun g : Bw V2 => cell_lt (tb14 g)
      have tb1y4 := fun g : Bw V2 => Nat.le_of_lt (tb1z4 g)
      clear htb11 htb12 htb13 htb14 htb15 htb16
      refine (TA.out _).mono ?_
      rintro e_g5 w_g5 ⟨rfl, hb_g5⟩
      obtain ⟨g5, rfl⟩ := gtb1.next hb_g5
      clear hb_g5
      go_wp2_with fail
      refine (TB.out _).mono ?_
      rintro e_g6 w_g6 ⟨rfl, hb_g6⟩
      obtain ⟨g6, rfl⟩ := g5.next hb_g6
      clear hb_g6
      go_wp2_with fail
      refine (TA.out _).mono ?_
      rintro e_g7 w_g7 ⟨rfl, hb_g7⟩
      obtain ⟨g7, rfl⟩ := g6.next hb_g7
      clear hb_g7
      go_wp2_with fail
      refine (TA.out _).mono ?_
      rintro e_g8 w_g8 ⟨rfl, hb_g8⟩
      obtain ⟨g8, rfl⟩ := g7.next hb_g8
      clear hb_g8
      go_wp2_with fail
      refine (XA.out _).mono ?_
      rintro e_9 w_9 ⟨rfl, rfl⟩
      go_wp2_with fail
      refine (awake5 _).mono ?_
      rintro e_g9 w_g9 ⟨rfl, hb_g9⟩
      obtain ⟨g9, rfl⟩ := g8.next hb_g9
      clear hb_g9
      go_wp2_with fail
      go_ret
      exact ⟨rfl, by repeat (first | with_reducible exact Below.refl _ _ | with_reducible refine bl_alloc ?_ _ | with_reducible refine bl_drewN ?_ _ | with_reducible refine bl_drew ?_ | (with_reducible refine bl_set ?_ ?_ _; rotate_left; focus (first | (simp; done) | (simp; omega) | omega)) | with_reducible refine below_step ?_ (Bw.below _) | with_reducible refine below_step ?_ (by assumption))⟩
    · have e5 : (A == B) = false := by simp [h5]
      have e6 : (ta.toList == tb.toList) = false := by rw [beq_eq_false_iff_ne]; exact fun h => h6 (bytes_inj h)
      clear h5
      clear h6
      go_wp2_with fail
      refine calls_start (fun V2 => V2.cell? ⟨g3.out.heap.size, 0, none⟩ = some (.int .i64 R) ∧ V2.cell? ⟨g3.out.heap.size, 1, none⟩ = some (.int .i64 a) ∧ V2.cell? ⟨g3.out.heap.size, 2, none⟩ = some (.int .i64 b) ∧ V2.cell? ⟨g4.out.heap.size, 0, none⟩ = some (.int .i64 S) ∧ V2.cell? ⟨g4.out.heap.size, 1, none⟩ = some (.int .i64 c) ∧ V2.cell? ⟨g4.out.heap.size, 2, none⟩ = some (.int .i64 d) ∧ Below w.heap.size w V2) ⟨by first | with_reducible assumption | (simp [go_sem]; done) | with_reducible exact hold_al ta11 _ _ | with_reducible exact hold_al ta12 _ _ | with_reducible exact hold_al ta13 _ _ | (simp [go_sem, ta11, ta12, ta13, ta1z1, ta1y1]; done), by first | with_reducible assumption | (simp [go_sem]; done) | with_reducible exact hold_al ta11 _ _ | with_reducible exact hold_al ta12 _ _ | with_reducible exact hold_al ta13 _ _ | (simp [go_sem, ta11, ta12, ta13, ta1z1, ta1y1]; done), by first | with_reducible assumption | (simp [go_sem]; done) | with_reducible exact hold_al ta11 _ _ | with_reducible exact hold_al ta12 _ _ | with_reducible exact hold_al ta13 _ _ | (simp [go_sem, ta11, ta12, ta13, ta1z1, ta1y1]; done), by first | with_reducible assumption | (simp [go_sem]; done) | with_reducible exact hold_al ta11 _ _ | with_reducible exact hold_al ta12 _ _ | with_reducible exact hold_al ta13 _ _ | (simp [go_sem, ta11, ta12, ta13, ta1z1, ta1y1]; done), by first | with_reducible assumption | (simp [go_sem]; done) | with_reducible exact hold_al ta11 _ _ | with_reducible exact hold_al ta12 _ _ | with_reducible exact hold_al ta13 _ _ | (simp [go_sem, ta11, ta12, ta13, ta1z1, ta1y1]; done), by first | with_reducible assumption | (simp [go_sem]; done) | with_reducible exact hold_al ta11 _ _ | with_reducible exact hold_al ta12 _ _ | with_reducible exact hold_al ta13 _ _ | (simp [go_sem, ta11, ta12, ta13, ta1z1, ta1y1]; done), by repeat (first | with_reducible exact Below.refl _ _ | with_reducible refine bl_alloc ?_ _ | with_reducible refine bl_drewN ?_ _ | with_reducible refine bl_drew ?_ | (with_reducible refine bl_set ?_ ?_ _; rotate_left; focus (first | (simp; done) | (simp; omega) | omega)) | with_reducible refine below_step ?_ (Bw.below _) | with_reducible refine below_step ?_ (by assumption))⟩ ?_
      rintro V2 ⟨htb11, htb12, htb13, htb14, htb15, htb16, hWtb1⟩ gtb1
      have tb11 := Bw.hold htb11
      have tb12 := Bw.hold htb12
      have tb13 := Bw.hold htb13
      have tb14 := Bw.hold htb14
      have tb15 := Bw.hold htb15
      have tb16 := Bw.hold htb16
      have tb1z1 := fun g : Bw V2 => cell_lt (tb11 g)
      have tb1y1 := fun g : Bw V2 => Nat.le_of_lt (tb1z1 g)
      have tb1z4 := fun g : Bw V2 => cell_lt (tb14 g)
      have tb1y4 := fun g : Bw V2 => Nat.le_of_lt (tb1z4 g)
      clear htb11 htb12 htb13 htb14 htb15 htb16
      refine (TA.out _).mono ?_
      rintro e_g5 w_g5 ⟨rfl, hb_g5⟩
      obtain ⟨g5, rfl⟩ := gtb1.next hb_g5
      clear hb_g5
      go_wp2_with fail
      refine (TB.out _).mono ?_
      rintro e_g6 w_g6 ⟨rfl, hb_g6⟩
      obtain ⟨g6, rfl⟩ := g5.next hb_g6
      clear hb_g6
      go_wp2_with fail
      refine (TA.out _).mono ?_
      rintro e_g7 w_g7 ⟨rfl, hb_g7⟩
      obtain ⟨g7, rfl⟩ := g6.next hb_g7
      clear hb_g7
      go_wp2_with fail
      refine (TA.out _).mono ?_
      rintro e_g8 w_g8 ⟨rfl, hb_g8⟩
      obtain ⟨g8, rfl⟩ := g7.next hb_g8
      clear hb_g8
      go_wp2_with fail
      refine (XA.out _).mono ?_
      rintro e_9 w_9 ⟨rfl, rfl⟩
      go_wp2_with fail
      refine (awake5 _).mono ?_
      rintro e_g9 w_g9 ⟨rfl, hb_g9⟩
      obtain ⟨g9, rfl⟩ := g8.next hb_g9
      clear hb_g9
      go_wp2_with fail
      go_ret
      exact ⟨rfl, by repeat (first | with_reducible exact Below.refl _ _ | with_reducible refine bl_alloc ?_ _ | with_reducible refine bl_drewN ?_ _ | with_reducible refine bl_drew ?_ | (with_reducible refine bl_set ?_ ?_ _; rotate_left; focus (first | (simp; done) | (simp; omega) | omega)) | with_reducible refine below_step ?_ (Bw.below _) | with_reducible refine below_step ?_ (by assumption))⟩
  · have e1 : (b == d) = false := by simp [h3]
    have e4 : (P == Q) = false := by simp [h4]
    clear h3 h4
    rcases hAB with ⟨h5, h6⟩ | ⟨h5, h6⟩
    · have e5 : (A == B) = true := by simp [h5]
      have e6 : ta.toList = tb.toList := by rw [h6]
      clear h5
      clear h6
      go_wp2_with fail
      refine calls_start (fun V2 => V2.cell? ⟨g3.out.heap.size, 0, none⟩ = some (.int .i64 R) ∧ V2.cell? ⟨g3.out.heap.size, 1, none⟩ = some (.int .i64 a) ∧ V2.cell? ⟨g3.out.heap.size, 2, none⟩ = some (.int .i64 b) ∧ V2.cell? ⟨g4.out.heap.size, 0, none⟩ = some (.int .i64 S) ∧ V2.cell? ⟨g4.out.heap.size, 1, none⟩ = some (.int .i64 c) ∧ V2.cell? ⟨g4.out.heap.size, 2, none⟩ = some (.int .i64 d) ∧ Below w.heap.size w V2) ⟨by first | with_reducible assumption | (simp [go_sem]; done) | with_reducible exact hold_al ta11 _ _ | with_reducible exact hold_al ta12 _ _ | with_reducible exact hold_al ta13 _ _ | (simp [go_sem, ta11, ta12, ta13, ta1z1, ta1y1]; done), by first | with_reducible assumption | (simp [go_sem]; done) | with_reducible exact hold_al ta11 _ _ | with_reducible exact hold_al ta12 _ _ | with_reducible exact hold_al ta13 _ _ | (simp [go_sem, ta11, ta12, ta13, ta1z1, ta1y1]; done), by first | with_reducible assumption | (simp [go_sem]; done) | with_reducible exact hold_al ta11 _ _ | with_reducible exact hold_al ta12 _ _ | with_reducible exact hold_al ta13 _ _ | (simp [go_sem, ta11, ta12, ta13, ta1z1, ta1y1]; done), by first | with_reducible assumption | (simp [go_sem]; done) | with_reducible exact hold_al ta11 _ _ | with_reducible exact hold_al ta12 _ _ | with_reducible exact hold_al ta13 _ _ | (simp [go_sem, ta11, ta12, ta13, ta1z1, ta1y1]; done), by first | with_reducible assumption | (simp [go_sem]; done) | with_reducible exact hold_al ta11 _ _ | with_reducible exact hold_al ta12 _ _ | with_reducible exact hold_al ta13 _ _ | (simp [go_sem, ta11, ta12, ta13, ta1z1, ta1y1]; done), by first | with_reducible assumption | (simp [go_sem]; done) | with_reducible exact hold_al ta11 _ _ | with_reducible exact hold_al ta12 _ _ | with_reducible exact hold_al ta13 _ _ | (simp [go_sem, ta11, ta12, ta13, ta1z1, ta1y1]; done), by repeat (first | with_reducible exact Below.refl _ _ | with_reducible refine bl_alloc ?_ _ | with_reducible refine bl_drewN ?_ _ | with_reducible refine bl_drew ?_ | (with_reducible refine bl_set ?_ ?_ _; rotate_left; focus (first | (simp; done) | (simp; omega) | omega)) | with_reducible refine below_step ?_ (Bw.below _) | with_reducible refine below_step ?_ (by assumption))⟩ ?_
      rintro V2 ⟨htb11, htb12, htb13, htb14, htb15, htb16, hWtb1⟩ gtb1
      have tb11 := Bw.hold htb11
      have tb12 := Bw.hold htb12
      have tb13 := Bw.hold htb13
      have tb14 := Bw.hold htb14
      have tb15 := Bw.hold htb15
      have tb16 := Bw.hold htb16
      have tb1z1 := fun g : Bw V2 => cell_lt (tb11 g)
      have tb1y1 := fun g : Bw V2 => Nat.le_of_lt (tb1z1 g)
      have tb1z4 := fun g : Bw V2 => cell_lt (tb14 g)
      have tb1y4 := fun g : Bw V2 => Nat.le_of_lt (tb1z4 g)
      clear htb11 htb12 htb13 htb14 htb15 htb16
      refine (TA.out _).mono ?_
      rintro e_g5 w_g5 ⟨rfl, hb_g5⟩
      obtain ⟨g5, rfl⟩ := gtb1.next hb_g5
      clear hb_g5
      go_wp2_with fail
      refine (TB.out _).mono ?_
      rintro e_g6 w_g6 ⟨rfl, hb_g6⟩
      obtain ⟨g6, rfl⟩ := g5.next hb_g6
      clear hb_g6
      go_wp2_with fail
      refine (TA.out _).mono ?_
      rintro e_g7 w_g7 ⟨rfl, hb_g7⟩
      obtain ⟨g7, rfl⟩ := g6.next hb_g7
      clear hb_g7
      go_wp2_with fail
      refine (TA.out _).mono ?_
      rintro e_g8 w_g8 ⟨rfl, hb_g8⟩
      obtain ⟨g8, rfl⟩ := g7.next hb_g8
      clear hb_g8
      go_wp2_with fail
      refine (XA.out _).mono ?_
      rintro e_9 w_9 ⟨rfl, rfl⟩
      go_wp2_with fail
      refine (awake5 _).mono ?_
      rintro e_g9 w_g9 ⟨rfl, hb_g9⟩
      obtain ⟨g9, rfl⟩ := g8.next hb_g9
      clear hb_g9
      go_wp2_with fail
      go_ret
      exact ⟨rfl, by repeat (first | with_reducible exact Below.refl _ _ | with_reducible refine bl_alloc ?_ _ | with_reducible refine bl_drewN ?_ _ | with_reducible refine bl_drew ?_ | (with_reducible refine bl_set ?_ ?_ _; rotate_left; focus (first | (simp; done) | (simp; omega) | omega)) | with_reducible refine below_step ?_ (Bw.below _) | with_reducible refine below_step ?_ (by assumption))⟩
    · have e5 : (A == B) = false := by simp [h5]
      have e6 : (ta.toList == tb.toList) = false := by rw [beq_eq_false_iff_ne]; exact fun h => h6 (bytes_inj h)
      clear h5
      clear h6
      go_wp2_with fail
      refine calls_start (fun V2 => V2.cell? ⟨g3.out.heap.size, 0, none⟩ = some (.int .i64 R) ∧ V2.cell? ⟨g3.out.heap.size, 1, none⟩ = some (.int .i64 a) ∧ V2.cell? ⟨g3.out.heap.size, 2, none⟩ = some (.int .i64 b) ∧ V2.cell? ⟨g4.out.heap.size, 0, none⟩ = some (.int .i64 S) ∧ V2.cell? ⟨g4.out.heap.size, 1, none⟩ = some (.int .i64 c) ∧ V2.cell? ⟨g4.out.heap.size, 2, none⟩ = some (.int .i64 d) ∧ Below w.heap.size w V2) ⟨by first | with_reducible assumption | (simp [go_sem]; done) | with_reducible exact hold_al ta11 _ _ | with_reducible exact hold_al ta12 _ _ | with_reducible exact hold_al ta13 _ _ | (simp [go_sem, ta11, ta12, ta13, ta1z1, ta1y1]; done), by first | with_reducible assumption | (simp [go_sem]; done) | with_reducible exact hold_al ta11 _ _ | with_reducible exact hold_al ta12 _ _ | with_reducible exact hold_al ta13 _ _ | (simp [go_sem, ta11, ta12, ta13, ta1z1, ta1y1]; done), by first | with_reducible assumption | (simp [go_sem]; done) | with_reducible exact hold_al ta11 _ _ | with_reducible exact hold_al ta12 _ _ | with_reducible exact hold_al ta13 _ _ | (simp [go_sem, ta11, ta12, ta13, ta1z1, ta1y1]; done), by first | with_reducible assumption | (simp [go_sem]; done) | with_reducible exact hold_al ta11 _ _ | with_reducible exact hold_al ta12 _ _ | with_reducible exact hold_al ta13 _ _ | (simp [go_sem, ta11, ta12, ta13, ta1z1, ta1y1]; done), by first | with_reducible assumption | (simp [go_sem]; done) | with_reducible exact hold_al ta11 _ _ | with_reducible exact hold_al ta12 _ _ | with_reducible exact hold_al ta13 _ _ | (simp [go_sem, ta11, ta12, ta13, ta1z1, ta1y1]; done), by first | with_reducible assumption | (simp [go_sem]; done) | with_reducible exact hold_al ta11 _ _ | with_reducible exact hold_al ta12 _ _ | with_reducible exact hold_al ta13 _ _ | (simp [go_sem, ta11, ta12, ta13, ta1z1, ta1y1]; done), by repeat (first | with_reducible exact Below.refl _ _ | with_reducible refine bl_alloc ?_ _ | with_reducible refine bl_drewN ?_ _ | with_reducible refine bl_drew ?_ | (with_reducible refine bl_set ?_ ?_ _; rotate_left; focus (first | (simp; done) | (simp; omega) | omega)) | with_reducible refine below_step ?_ (Bw.below _) | with_reducible refine below_step ?_ (by assumption))⟩ ?_
      rintro V2 ⟨htb11, htb12, htb13, htb14, htb15, htb16, hWtb1⟩ gtb1
      have tb11 := Bw.hold htb11
      have tb12 := Bw.hold htb12
      have tb13 := Bw.hold htb13
      have tb14 := Bw.hold htb14
      have tb15 := Bw.hold htb15
      have tb16 := Bw.hold htb16
      have tb1z1 := fun g : Bw V2 => cell_lt (tb11 g)
      have tb1y1 := fun g : Bw V2 => Nat.le_of_lt (tb1z1 g)
      have tb1z4 := fun g : Bw V2 => cell_lt (tb14 g)
      have tb1y4 := fun g : Bw V2 => Nat.le_of_lt (tb1z4 g)
      clear htb11 htb12 htb13 htb14 htb15 htb16
      refine (TA.out _).mono ?_
      rintro e_g5 w_g5 ⟨rfl, hb_g5⟩
      obtain ⟨g5, rfl⟩ := gtb1.next hb_g5
      clear hb_g5
      go_wp2_with fail
      refine (TB.out _).mono ?_
      rintro e_g6 w_g6 ⟨rfl, hb_g6⟩
      obtain ⟨g6, rfl⟩ := g5.next hb_g6
      clear hb_g6
      go_wp2_with fail
      refine (TA.out _).mono ?_
      rintro e_g7 w_g7 ⟨rfl, hb_g7⟩
      obtain ⟨g7, rfl⟩ := g6.next hb_g7
      clear hb_g7
      go_wp2_with fail
      refine (TA.out _).mono ?_
      rintro e_g8 w_g8 ⟨rfl, hb_g8⟩
      obtain ⟨g8, rfl⟩ := g7.next hb_g8
      clear hb_g8
      go_wp2_with fail
      refine (XA.out _).mono ?_
      rintro e_9 w_9 ⟨rfl, rfl⟩
      go_wp2_with fail
      refine (awake5 _).mono ?_
      rintro e_g9 w_g9 ⟨rfl, hb_g9⟩
      obtain ⟨g9, rfl⟩ := g8.next hb_g9
      clear hb_g9
      go_wp2_with fail
      go_ret
      exact ⟨rfl, by repeat (first | with_reducible exact Below.refl _ _ | with_reducible refine bl_alloc ?_ _ | with_reducible refine bl_drewN ?_ _ | with_reducible refine bl_drew ?_ | (with_reducible refine bl_set ?_ ?_ _; rotate_left; focus (first | (simp; done) | (simp; omega) | omega)) | with_reducible refine below_step ?_ (Bw.below _) | with_reducible refine below_step ?_ (by assumption))⟩
/-! THE STATEMENT IdentOne -/
section
open Go.ChangeShapes Go.WideShapes Go.ChangeAt Go.RowKit Go.Joins
set_option linter.unusedVariables false
set_option maxRecDepth 100000 in
theorem identOne_lifted (os : Os) (started : os.Started) (H : Type) (enc : TypeId × Value → H) :
    ReturnsInHanded {} Try.checked os 3 .any (Rows.identOneSpec.pre6 enc Try.prog Try.f3 Rows.identOneRow.domain false) (Rows.identOneSpec.post enc Try.prog Try.f3 false true false false) := by
  refine returnsInHanded_of_change (C := Try.checked) (show ownKnob Try.prog.godebug = none by kernel_rfl) started (by kernel_rfl) Try.func3
    (ChangeSpec.witness6 (enc := enc) (C := Try.checked) false ⟨#[], #[.int .i64 0, .int .i64 0, .int .i64 0, .int .i64 0, .int .i64 0, .int .i64 0, .int .u64 0, .int .u64 0], []⟩ 8 (by kernel_rfl) (by kernel_rfl) (by kernel_rfl) (by kernel_rfl)) ?_
  intro W base args ds gs before hval0 hW hcnd _
  have hval : ∀ (j : Nat) t v, Try.f3.params[j]? = some t → args[j]? = some v → Value.okWide Try.prog W .any base t v := hval0
  have hW' := hW
  obtain ⟨p, q, hA0, hV, rfl, hfz, hnd⟩ := hW
  have hA : DataW.TrodAll enc Try.prog W 0 (fun _ => true) true Try.f3.params.toList args.toList ds p := hA0
  rw [Try.params3] at hA hval
  obtain ⟨v0, vs0, d0, ds0, p0, q0, hargs, rfl, rfl, h0, r0⟩ := trodAll_cons hA
  obtain ⟨v1, vs1, d1, ds1, p1, q1, rfl, rfl, rfl, h1, r1⟩ := trodAll_cons r0
  obtain ⟨v2, vs2, d2, ds2, p2, q2, rfl, rfl, rfl, h2, r2⟩ := trodAll_cons r1
  obtain ⟨v3, vs3, d3, ds3, p3, q3, rfl, rfl, rfl, h3, r3⟩ := trodAll_cons r2
  obtain ⟨v4, vs4, d4, ds4, p4, q4, rfl, rfl, rfl, h4, r4⟩ := trodAll_cons r3
  obtain ⟨v5, vs5, d5, ds5, p5, q5, rfl, rfl, rfl, h5, r5⟩ := trodAll_cons r4
  obtain ⟨v6, vs6, d6, ds6, p6, q6, rfl, rfl, rfl, h6, r6⟩ := trodAll_cons r5
  obtain ⟨v7, vs7, d7, ds7, p7, q7, rfl, rfl, rfl, h7, r7⟩ := trodAll_cons r6
  obtain ⟨rfl, rfl, rfl⟩ := trodAll_nil r7
  obtain rfl : args = #[v0, v1, v2, v3, v4, v5, v6, v7] := by cases args; simp_all
  obtain ⟨rfl, rfl⟩ := trodVars_none hV
  obtain ⟨x, rfl, rfl, rfl, wf_x⟩ := open_int Try.underlying2 (hval 0 2 v0 rfl rfl) h0
  obtain ⟨y, rfl, rfl, rfl, wf_y⟩ := open_int Try.underlying2 (hval 1 2 v1 rfl rfl) h1
  obtain ⟨r, rfl, rfl, rfl, wf_r⟩ := open_int Try.underlying3 (hval 2 3 v2 rfl rfl) h2
  obtain ⟨u, rfl, rfl, rfl, wf_u⟩ := open_int Try.underlying2 (hval 3 2 v3 rfl rfl) h3
  obtain ⟨v, rfl, rfl, rfl, wf_v⟩ := open_int Try.underlying2 (hval 4 2 v4 rfl rfl) h4
  obtain ⟨s, rfl, rfl, rfl, wf_s⟩ := open_int Try.underlying3 (hval 5 3 v5 rfl rfl) h5
  obtain ⟨A, rfl, rfl, rfl, wf_A⟩ := open_int Try.underlying22 (hval 6 22 v6 rfl rfl) h6
  obtain ⟨B, rfl, rfl, rfl, wf_B⟩ := open_int Try.underlying22 (hval 7 22 v7 rfl rfl) h7
  clear hA0 hval0
  simp only [List.append_nil] at hW'
  refine (identone_walk x y r u v s A B (wf_i64 wf_x).1 (wf_i64 wf_x).2 (wf_i64 wf_y).1 (wf_i64 wf_y).2 (wf_i64 wf_r).1 (wf_i64 wf_r).2 (wf_i64 wf_u).1 (wf_i64 wf_u).2 (wf_i64 wf_v).1 (wf_i64 wf_v).2 (wf_i64 wf_s).1 (wf_i64 wf_s).2 (wf_u64 wf_A).1 (wf_u64 wf_A).2 (wf_u64 wf_B).1 (wf_u64 wf_B).2 W).mono fun e W' ⟨he, hb⟩ => ?_
  subst he
  exact ⟨_, rfl, post_of_below (pa := []) (pv := []) hW' (fun _ _ _ => (trodAll_cons_mk (shut_bool Try.underlying4 _) trodAll_mk0)) (fun sp _ => (trodAll_cons_mk (shut_int Try.underlying2 wf_x) (trodAll_cons_mk (shut_int Try.underlying2 wf_y) (trodAll_cons_mk (shut_int Try.underlying3 wf_r) (trodAll_cons_mk (shut_int Try.underlying2 wf_u) (trodAll_cons_mk (shut_int Try.underlying2 wf_v) (trodAll_cons_mk (shut_int Try.underlying3 wf_s) (trodAll_cons_mk (shut_int Try.underlying22 wf_A) (trodAll_cons_mk (shut_int Try.underlying22 wf_B) trodAll_mk0))))))))) (fun _ _ => rfl) rfl hb
    (ok_one (by kernel_rfl) rfl (okWide_bool_mk Try.underlying4 _))⟩
theorem identOne_holds : Rows.IdentOneSaid :=
  OpenClaim.holds_of_wide 3 Try.f3 rfl rfl rfl rfl rfl rfl rfl ⟨rfl, rfl, rfl, rfl, rfl⟩ rfl rfl rfl rfl rfl (by kernel_rfl) Try.func3 (by kernel_rfl)
    (of_decide_eq_true (by kernel_rfl)) (by unfold Func.isWrapper; first | (rw [if_pos (by decide +kernel)]; kernel_rfl) | (rw [if_neg (by decide +kernel)]; exact ⟨rfl, rfl⟩))
    (fun os started H enc _ => identOne_lifted os started H enc)
end
#print axioms identOne_holds
end Go.Proofs.Ytmipkloleklnkaa

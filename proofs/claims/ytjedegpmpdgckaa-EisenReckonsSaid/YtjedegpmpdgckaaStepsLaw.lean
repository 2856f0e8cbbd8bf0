/- EisenSteps: Steps are a metric: nought just of nought, the same back, never more by a third one; a Unit is one step. No condition. -/
import Derived.Test.YtjedegpmpdgckaaRow
import Derived.Test.YtjedegpmpdgckaaSteps
import Derived.Test.YtjedegpmpdgckaaAwake2
namespace Go.Proofs.Ytjedegpmpdgckaa
open Go.RowKit
set_option linter.unusedSimpArgs false
set_option linter.unusedVariables false
theorem szI_spec (n : Int) : (0 ≤ n ∧ szI n = n) ∨ (n < 0 ∧ szI n = -n) := by
  by_cases h : n < 0
  · exact .inr ⟨h, szI_neg h⟩
  · exact .inl ⟨by omega, szI_pos h⟩
theorem mx_spec (x y : Int) : x ≤ mx x y ∧ y ≤ mx x y ∧ (mx x y = x ∨ mx x y = y) := by
  unfold mx; split <;> omega
theorem stV_spec (a b : Int) : szI a ≤ stV a b ∧ szI b ≤ stV a b ∧ szI (a + b) ≤ stV a b ∧ (stV a b = szI a ∨ stV a b = szI b ∨ stV a b = szI (a + b)) := by
  have h1 := mx_spec 0 (szI a)
  have h2 := mx_spec (mx 0 (szI a)) (szI b)
  have h3 := mx_spec (mx (mx 0 (szI a)) (szI b)) (szI (a + b))
  have e : stV a b = mx (mx (mx 0 (szI a)) (szI b)) (szI (a + b)) := rfl
  rw [← e] at h3
  have h4 := szI_spec a
  have h5 := szI_spec b
  have h6 := szI_spec (a + b)
  omega
theorem szI_neg' (n : Int) : szI (-n) = szI n := by
  have h1 := szI_spec n
  have h2 := szI_spec (-n)
  omega
theorem szI_add (x y : Int) : szI (x + y) ≤ szI x + szI y := by
  have h1 := szI_spec x
  have h2 := szI_spec y
  have h3 := szI_spec (x + y)
  omega
theorem szI_nonneg (x : Int) : 0 ≤ szI x := by
  have h1 := szI_spec x
  omega
theorem szI_zero (x : Int) (h : szI x = 0) : x = 0 := by
  have h1 := szI_spec x
  omega
theorem szI_bd (x m : Int) (h1 : -m ≤ x) (h2 : x ≤ m) : szI x ≤ m := by
  have h1 := szI_spec x
  omega
theorem stV_neg (a b : Int) : stV (-a) (-b) = stV a b := by
  unfold stV
  rw [szI_neg', szI_neg', show -a + -b = -(a + b) by omega, szI_neg']
theorem stV_nonneg (a b : Int) : 0 ≤ stV a b := by
  have h := stV_spec a b
  have := szI_nonneg a
  omega
theorem stV_tri (a b c d : Int) : stV (a + c) (b + d) ≤ stV a b + stV c d := by
  obtain ⟨p1, p2, p3, _⟩ := stV_spec a b
  obtain ⟨r1, r2, r3, _⟩ := stV_spec c d
  obtain ⟨_, _, _, q⟩ := stV_spec (a + c) (b + d)
  have e1 := szI_add a c
  have e2 := szI_add b d
  have e3 := szI_add (a + b) (c + d)
  rw [show a + b + (c + d) = a + c + (b + d) by omega] at e3
  rcases q with q | q | q <;> omega
theorem stV_bd (a b m : Int) (h1 : -m ≤ a) (h2 : a ≤ m) (h3 : -m ≤ b) (h4 : b ≤ m) : stV a b ≤ 2 * m := by
  obtain ⟨_, _, _, q⟩ := stV_spec a b
  have e1 := szI_bd a m h1 h2
  have e2 := szI_bd b m h3 h4
  have e3 := szI_add a b
  have := szI_nonneg a
  have := szI_nonneg b
  rcases q with q | q | q <;> omega
theorem stV_zero (a b : Int) : (a ≠ 0 ∧ stV a b ≠ 0) ∨ (a = 0 ∧ b ≠ 0 ∧ stV a b ≠ 0) ∨ (a = 0 ∧ b = 0 ∧ stV a b = 0) := by
  obtain ⟨p1, p2, p3, _⟩ := stV_spec a b
  by_cases ha : a = 0
  · by_cases hb : b = 0
    · subst ha hb; exact .inr (.inr ⟨rfl, rfl, by decide⟩)
    · exact .inr (.inl ⟨ha, hb, fun h => hb (szI_zero b (by have := szI_nonneg b; omega))⟩)
  · exact .inl ⟨ha, fun h => ha (szI_zero a (by have := szI_nonneg a; omega))⟩
theorem eis_steps_fit (a b v : Int) (h1 : -4000000000000 ≤ a) (h2 : a ≤ 4000000000000) (h3 : -4000000000000 ≤ b) (h4 : b ≤ 4000000000000) (hv : stV a b = v) (w : World) :
    Calls Try.prog 27 #[.agg #[.int .i64 a, .int .i64 b]] w fun e w' => e = .returned (.tuple #[.int .i64 v, .bool true]) ∧ Below w.heap.size w w' := by
  have h := eis_steps a b (by omega) (by omega) (by omega) (by omega) w
  have hB : stB a b = true := by
    unfold stB szB
    rw [i64B_mk (by omega) (by omega), i64B_mk (by omega) (by omega), i64B_mk (by omega) (by omega)]
    simp; omega
  have hA : stA a b = v := by unfold stA; rw [if_pos hB]; exact hv
  rw [hB, hA] at h
  exact h
theorem unit_steps (k : Int) : stV (uA (k % 6)) (uB (k % 6)) = 1 := by
  have hj : k % 6 = 0 ∨ k % 6 = 1 ∨ k % 6 = 2 ∨ k % 6 = 3 ∨ k % 6 = 4 ∨ k % 6 = 5 := by omega
  rcases hj with h | h | h | h | h | h <;> rw [h] <;> decide
theorem unit_bd (k : Int) : -1 ≤ uA (k % 6) ∧ uA (k % 6) ≤ 1 ∧ -1 ≤ uB (k % 6) ∧ uB (k % 6) ≤ 1 := by
  have hj : k % 6 = 0 ∨ k % 6 = 1 ∨ k % 6 = 2 ∨ k % 6 = 3 ∨ k % 6 = 4 ∨ k % 6 = 5 := by omega
  rcases hj with h | h | h | h | h | h <;> rw [h] <;> decide
set_option maxRecDepth 100000 in
set_option maxHeartbeats 3000000 in
theorem steps_walk (a1 a2 b1 b2 k : Int) (ha1 : -9223372036854775808 ≤ a1) (ha1' : a1 ≤ 9223372036854775807) (ha2 : -9223372036854775808 ≤ a2) (ha2' : a2 ≤ 9223372036854775807) (hb1 : -9223372036854775808 ≤ b1) (hb1' : b1 ≤ 9223372036854775807) (hb2 : -9223372036854775808 ≤ b2) (hb2' : b2 ≤ 9223372036854775807) (hk : -9223372036854775808 ≤ k) (hk' : k ≤ 9223372036854775807) (w : World) : Calls Try.prog 10 #[.agg #[.int .i64 a1, .int .i64 a2], .agg #[.int .i64 b1, .int .i64 b2], .int .i64 k] w fun e w' => e = .returned (.bool true) ∧ Below w.heap.size w w' := by
  obtain ⟨t1, t2⟩ := tmod_bd a1 1099511627776 (by omega)
  obtain ⟨t3, t4⟩ := tmod_bd a2 1099511627776 (by omega)
  obtain ⟨t5, t6⟩ := tmod_bd b1 1099511627776 (by omega)
  obtain ⟨t7, t8⟩ := tmod_bd b2 1099511627776 (by omega)
  obtain ⟨A1, hA1⟩ : ∃ A1, a1.tmod 1099511627776 = A1 := ⟨_, rfl⟩
  obtain ⟨A2, hA2⟩ : ∃ A2, a2.tmod 1099511627776 = A2 := ⟨_, rfl⟩
  obtain ⟨B1, hB1⟩ : ∃ B1, b1.tmod 1099511627776 = B1 := ⟨_, rfl⟩
  obtain ⟨B2, hB2⟩ : ∃ B2, b2.tmod 1099511627776 = B2 := ⟨_, rfl⟩
  rw [hA1] at t1 t2
  rw [hA2] at t3 t4
  rw [hB1] at t5 t6
  rw [hB2] at t7 t8
  clear ha1 ha1' ha2 ha2' hb1 hb1' hb2 hb2' hk hk'
  have SA := Lib.hid (eis_steps_fit A1 A2 _ (by omega) (by omega) (by omega) (by omega) rfl)
  have SB := Lib.hid (eis_steps_fit B1 B2 _ (by omega) (by omega) (by omega) (by omega) rfl)
  have SS := Lib.hid (eis_steps_fit (A1 + B1) (A2 + B2) _ (by omega) (by omega) (by omega) (by omega) rfl)
  have SN := Lib.hid (eis_steps_fit (-A1) (-A2) _ (by omega) (by omega) (by omega) (by omega) rfl)
  have AD := Lib.hid (eis_add_fit A1 A2 B1 B2 (A1 + B1) (A2 + B2) (by omega) (by omega) (by omega) (by omega) (by omega) (by omega) (by omega) (by omega) (by omega) (by omega) (by omega) (by omega) rfl rfl)
  have UU := Lib.hid (eis_unit k)
  obtain ⟨u1, u2, u3, u4⟩ := unit_bd k
  have SU := Lib.hid (eis_steps_fit (uA (k % 6)) (uB (k % 6)) 1 (by omega) (by omega) (by omega) (by omega) (unit_steps k))
  have er := stV_neg A1 A2
  have l1 := stV_nonneg A1 A2
  have l2 := stV_bd A1 A2 1099511627776 (by omega) (by omega) (by omega) (by omega)
  have l3 := stV_nonneg B1 B2
  have l4 := stV_bd B1 B2 1099511627776 (by omega) (by omega) (by omega) (by omega)
  have l5 := stV_tri A1 A2 B1 B2
  have l6 := stV_zero A1 A2
  rw [er] at SN
  clear er
  generalize uA (k % 6) = U1 at *
  generalize uB (k % 6) = U2 at *
  generalize stV A1 A2 = n at *
  generalize stV B1 B2 = m at *
  generalize stV (A1 + B1) (A2 + B2) = t at *
  have L6 := Lib.hid l6
  clear l6
  go_enter Try.func10, Try.ntmps10
  go_wp2_with fail
  refine wp_start (fun W => W.cell? ⟨w.heap.size, 0, none⟩ = some (.int .i64 a1) ∧ W.frozen? ⟨w.heap.size, 0, none⟩ = false ∧ W.cell? ⟨w.heap.size, 1, none⟩ = some (.int .i64 a2) ∧ W.frozen? ⟨w.heap.size, 1, none⟩ = false ∧ W.cell? ⟨w.heap.size + 1, 0, none⟩ = some (.int .i64 b1) ∧ W.frozen? ⟨w.heap.size + 1, 0, none⟩ = false ∧ W.cell? ⟨w.heap.size + 1, 1, none⟩ = some (.int .i64 b2) ∧ W.frozen? ⟨w.heap.size + 1, 1, none⟩ = false ∧ Below w.heap.size w W) ⟨by first | with_reducible assumption | (simp [go_sem]; done), by first | with_reducible assumption | (simp [go_sem]; done), by first | with_reducible assumption | (simp [go_sem]; done), by first | with_reducible assumption | (simp [go_sem]; done), by first | with_reducible assumption | (simp [go_sem]; done), by first | with_reducible assumption | (simp [go_sem]; done), by first | with_reducible assumption | (simp [go_sem]; done), by first | with_reducible assumption | (simp [go_sem]; done), by repeat (first | with_reducible exact Below.refl _ _ | with_reducible refine bl_alloc ?_ _ | with_reducible refine bl_drewN ?_ _ | with_reducible refine bl_drew ?_ | (with_reducible refine bl_set ?_ ?_ _; rotate_left; focus (first | (simp; done) | (simp; omega) | omega)) | with_reducible refine below_step ?_ (Bw.below _) | with_reducible refine below_step ?_ (by assumption))⟩ ?_
  rintro W ⟨hc1, fc1, hc2, fc2, hc3, fc3, hc4, fc4, hWc⟩ gc
  have c1 := Bw.hold hc1
  have cf1 := Bw.free hc1 fc1
  have c2 := Bw.hold hc2
  have cf2 := Bw.free hc2 fc2
  have c3 := Bw.hold hc3
  have cf3 := Bw.free hc3 fc3
  have c4 := Bw.hold hc4
  have cf4 := Bw.free hc4 fc4
  have cz1 := fun g : Bw W => cell_lt (c1 g)
  have cy1 := fun g : Bw W => Nat.le_of_lt (cz1 g)
  have cz3 := fun g : Bw W => cell_lt (c3 g)
  have cy3 := fun g : Bw W => Nat.le_of_lt (cz3 g)
  clear hc1 fc1 hc2 fc2 hc3 fc3 hc4 fc4
  have i1 := c1 gc
  have if1 := cf1 gc
  have i2 := c2 gc
  have if2 := cf2 gc
  have i3 := c3 gc
  have if3 := cf3 gc
  have i4 := c4 gc
  have if4 := cf4 gc
  have hWi := below_step hWc (Bw.below gc)
  clear c1 cf1 c2 cf2 c3 cf3 c4 cf4 cz1 cy1 cz3 cy3
  generalize Bw.out gc = w0 at *
  go_region
  go_wp2_with fail
  refine calls_start (fun V1 => V1.cell? ⟨w.heap.size, 0, none⟩ = some (.int .i64 A1) ∧ V1.cell? ⟨w.heap.size, 1, none⟩ = some (.int .i64 A2) ∧ V1.cell? ⟨w.heap.size + 1, 0, none⟩ = some (.int .i64 B1) ∧ V1.cell? ⟨w.heap.size + 1, 1, none⟩ = some (.int .i64 B2) ∧ Below w.heap.size w V1) ⟨by first | with_reducible assumption | (simp [go_sem]; done) | with_reducible exact hold_al i1 _ _ | with_reducible exact hold_al i2 _ _ | with_reducible exact hold_al i3 _ _ | with_reducible exact hold_al i4 _ _ | (simp [go_sem, i1, if1, i2, if2, i3, if3, i4, if4]; done), by first | with_reducible assumption | (simp [go_sem]; done) | with_reducible exact hold_al i1 _ _ | with_reducible exact hold_al i2 _ _ | with_reducible exact hold_al i3 _ _ | with_reducible exact hold_al i4 _ _ | (simp [go_sem, i1, if1, i2, if2, i3, if3, i4, if4]; done), by first | with_reducible assumption | (simp [go_sem]; done) | with_reducible exact hold_al i1 _ _ | with_reducible exact hold_al i2 _ _ | with_reducible exact hold_al i3 _ _ | with_reducible exact hold_al i4 _ _ | (simp [go_sem, i1, if1, i2, if2, i3, if3, i4, if4]; done), by first | with_reducible assumption | (simp [go_sem]; done) | with_reducible exact hold_al i1 _ _ | with_reducible exact hold_al i2 _ _ | with_reducible exact hold_al i3 _ _ | with_reducible exact hold_al i4 _ _ | (simp [go_sem, i1, if1, i2, if2, i3, if3, i4, if4]; done), by repeat (first | with_reducible exact Below.refl _ _ | with_reducible refine bl_alloc ?_ _ | with_reducible refine bl_drewN ?_ _ | with_reducible refine bl_drew ?_ | (with_reducible refine bl_set ?_ ?_ _; rotate_left; focus (first | (simp; done) | (simp; omega) | omega)) | with_reducible refine below_step ?_ (Bw.below _) | with_reducible refine below_step ?_ (by assumption))⟩ ?_
  rintro V1 ⟨hd1, hd2, hd3, hd4, hWd⟩ gd
  have d1 := Bw.hold hd1
  have d2 := Bw.hold hd2
  have d3 := Bw.hold hd3
  have d4 := Bw.hold hd4
  have dz1 := fun g : Bw V1 => cell_lt (d1 g)
  have dy1 := fun g : Bw V1 => Nat.le_of_lt (dz1 g)
  have dz3 := fun g : Bw V1 => cell_lt (d3 g)
  have dy3 := fun g : Bw V1 => Nat.le_of_lt (dz3 g)
  clear hd1 hd2 hd3 hd4
  clear i1 i2 i3 i4 if1 if2 if3 if4
  clear hA1 hA2 hB1 hB2
  refine (SA.out _).mono ?_
  rintro e_g3 w_g3 ⟨rfl, hb_g3⟩
  obtain ⟨g3, rfl⟩ := gd.next hb_g3
  clear hb_g3
  go_wp2_with fail
  refine (SB.out _).mono ?_
  rintro e_g4 w_g4 ⟨rfl, hb_g4⟩
  obtain ⟨g4, rfl⟩ := g3.next hb_g4
  clear hb_g4
  go_wp2_with fail
  refine (AD.out _).mono ?_
  rintro e_g5 w_g5 ⟨rfl, hb_g5⟩
  obtain ⟨g5, rfl⟩ := g4.next hb_g5
  clear hb_g5
  go_wp2_with fail
  refine calls_start (fun V2 => V2.cell? ⟨w.heap.size, 0, none⟩ = some (.int .i64 A1) ∧ V2.cell? ⟨w.heap.size, 1, none⟩ = some (.int .i64 A2) ∧ V2.cell? ⟨w.heap.size + 1, 0, none⟩ = some (.int .i64 B1) ∧ V2.cell? ⟨w.heap.size + 1, 1, none⟩ = some (.int .i64 B2) ∧ V2.cell? ⟨g5.out.heap.size, 0, none⟩ = some (.int .i64 (A1 + B1)) ∧ V2.cell? ⟨g5.out.heap.size, 1, none⟩ = some (.int .i64 (A2 + B2)) ∧ Below w.heap.size w V2) ⟨by first | with_reducible assumption | (simp [go_sem]; done) | with_reducible exact hold_al d1 _ _ | with_reducible exact hold_al d2 _ _ | with_reducible exact hold_al d3 _ _ | with_reducible exact hold_al d4 _ _ | (simp [go_sem, d1, d2, d3, d4, dz1, dy1, dz3, dy3]; done), by first | with_reducible assumption | (simp [go_sem]; done) | with_reducible exact hold_al d1 _ _ | with_reducible exact hold_al d2 _ _ | with_reducible exact hold_al d3 _ _ | with_reducible exact hold_al d4 _ _ | (simp [go_sem, d1, d2, d3, d4, dz1, dy1, dz3, dy3]; done), by first | with_reducible assumption | (simp [go_sem]; done) | with_reducible exact hold_al d1 _ _ | with_reducible exact hold_al d2 _ _ | with_reducible exact hold_al d3 _ _ | with_reducible exact hold_al d4 _ _ | (simp [go_sem, d1, d2, d3, d4, dz1, dy1, dz3, dy3]; done), by first | with_reducible assumption | (simp [go_sem]; done) | with_reducible exact hold_al d1 _ _ | with_reducible exact hold_al d2 _ _ | with_reducible exact hold_al d3 _ _ | with_reducible exact hold_al d4 _ _ | (simp [go_sem, d1, d2, d3, d4, dz1, dy1, dz3, dy3]; done), by first | with_reducible assumption | (simp [go_sem]; done) | with_reducible exact hold_al d1 _ _ | with_reducible exact hold_al d2 _ _ | with_reducible exact hold_al d3 _ _ | with_reducible exact hold_al d4 _ _ | (simp [go_sem, d1, d2, d3, d4, dz1, dy1, dz3, dy3]; done), by first | with_reducible assumption | (simp [go_sem]; done) | with_reducible exact hold_al d1 _ _ | with_reducible exact hold_al d2 _ _ | with_reducible exact hold_al d3 _ _ | with_reducible exact hold_al d4 _ _ | (simp [go_sem, d1, d2, d3, d4, dz1, dy1, dz3, dy3]; done), by repeat (first | with_reducible exact Below.refl _ _ | with_reducible refine bl_alloc ?_ _ | with_reducible refine bl_drewN ?_ _ | with_reducible refine bl_drew ?_ | (with_reducible refine bl_set ?_ ?_ _; rotate_left; focus (first | (simp; done) | (simp; omega) | omega)) | with_reducible refine below_step ?_ (Bw.below _) | with_reducible refine below_step ?_ (by assumption))⟩ ?_
  rintro V2 ⟨he1, he2, he3, he4, he5, he6, hWe⟩ ge
  have e1 := Bw.hold he1
  have e2 := Bw.hold he2
  have e3 := Bw.hold he3
  have e4 := Bw.hold he4
  have e5 := Bw.hold he5
  have e6 := Bw.hold he6
  have ez1 := fun g : Bw V2 => cell_lt (e1 g)
  have ey1 := fun g : Bw V2 => Nat.le_of_lt (ez1 g)
  have ez3 := fun g : Bw V2 => cell_lt (e3 g)
  have ey3 := fun g : Bw V2 => Nat.le_of_lt (ez3 g)
  have ez5 := fun g : Bw V2 => cell_lt (e5 g)
  have ey5 := fun g : Bw V2 => Nat.le_of_lt (ez5 g)
  clear he1 he2 he3 he4 he5 he6
  clear d1 d2 d3 d4 dz1 dy1 dz3 dy3
  refine (SS.out _).mono ?_
  rintro e_g6 w_g6 ⟨rfl, hb_g6⟩
  obtain ⟨g6, rfl⟩ := ge.next hb_g6
  clear hb_g6
  go_wp2_with fail
  refine (SN.out _).mono ?_
  rintro e_g7 w_g7 ⟨rfl, hb_g7⟩
  obtain ⟨g7, rfl⟩ := g6.next hb_g7
  clear hb_g7
  go_wp2_with fail
  refine (UU.out _).mono ?_
  rintro e_g8 w_g8 ⟨rfl, hb_g8⟩
  obtain ⟨g8, rfl⟩ := g7.next hb_g8
  clear hb_g8
  go_wp2_with fail
  refine (SU.out _).mono ?_
  rintro e w9 ⟨rfl, hb9⟩
  obtain ⟨g9, rfl⟩ := g8.next hb9
  clear hb9
  rcases L6.out with ⟨z1, z2⟩ | ⟨z1, z2, z3⟩ | ⟨z1, z2, z3⟩
  · have z3 : (A1 == 0) = false := by simpa using z1
    have z4 : (n == 0) = false := by simpa using z2
    clear z1 z2 L6
    go_wp2_with fail
    refine (awake2 _).mono ?_
    rintro e_g10 w_g10 ⟨rfl, hb_g10⟩
    obtain ⟨g10, rfl⟩ := g9.next hb_g10
    clear hb_g10
    go_wp2_with fail
    go_ret
    exact ⟨rfl, by repeat (first | with_reducible exact Below.refl _ _ | with_reducible refine bl_alloc ?_ _ | with_reducible refine bl_drewN ?_ _ | with_reducible refine bl_drew ?_ | (with_reducible refine bl_set ?_ ?_ _; rotate_left; focus (first | (simp; done) | (simp; omega) | omega)) | with_reducible refine below_step ?_ (Bw.below _) | with_reducible refine below_step ?_ (by assumption))⟩
  · subst z1
    have z4 : (n == 0) = false := by simpa using z3
    have z5 : (A2 == 0) = false := by simpa using z2
    clear z2 z3 L6
    go_wp2_with fail
    refine (awake2 _).mono ?_
    rintro e_g10 w_g10 ⟨rfl, hb_g10⟩
    obtain ⟨g10, rfl⟩ := g9.next hb_g10
    clear hb_g10
    go_wp2_with fail
    go_ret
    exact ⟨rfl, by repeat (first | with_reducible exact Below.refl _ _ | with_reducible refine bl_alloc ?_ _ | with_reducible refine bl_drewN ?_ _ | with_reducible refine bl_drew ?_ | (with_reducible refine bl_set ?_ ?_ _; rotate_left; focus (first | (simp; done) | (simp; omega) | omega)) | with_reducible refine below_step ?_ (Bw.below _) | with_reducible refine below_step ?_ (by assumption))⟩
  · subst z1 z2 z3
    clear L6
    go_wp2_with fail
    refine (awake2 _).mono ?_
    rintro e_g10 w_g10 ⟨rfl, hb_g10⟩
    obtain ⟨g10, rfl⟩ := g9.next hb_g10
    clear hb_g10
    go_wp2_with fail
    go_ret
    exact ⟨rfl, by repeat (first | with_reducible exact Below.refl _ _ | with_reducible refine bl_alloc ?_ _ | with_reducible refine bl_drewN ?_ _ | with_reducible refine bl_drew ?_ | (with_reducible refine bl_set ?_ ?_ _; rotate_left; focus (first | (simp; done) | (simp; omega) | omega)) | with_reducible refine below_step ?_ (Bw.below _) | with_reducible refine below_step ?_ (by assumption))⟩
/-! THE STATEMENT EisenSteps -/
section
open Go.ChangeShapes Go.WideShapes Go.ChangeAt Go.RowKit Go.Joins
set_option linter.unusedVariables false
set_option maxRecDepth 100000 in
theorem eisenSteps_lifted (os : Os) (started : os.Started) (H : Type) (enc : TypeId × Value → H) :
    ReturnsInHanded {} Try.checked os 10 .any (Rows.eisenStepsSpec.pre6 enc Try.prog Try.f10 Rows.eisenStepsRow.domain false) (Rows.eisenStepsSpec.post enc Try.prog Try.f10 false true false false) := by
  refine returnsInHanded_of_change (C := Try.checked) (show ownKnob Try.prog.godebug = none by kernel_rfl) started (by kernel_rfl) Try.func10
    (ChangeSpec.witness6 (enc := enc) (C := Try.checked) false ⟨#[], #[.agg #[.int .i64 0, .int .i64 0], .agg #[.int .i64 0, .int .i64 0], .int .i64 0], []⟩ 8 (by kernel_rfl) (by kernel_rfl) (by kernel_rfl) (by kernel_rfl)) ?_
  intro W base args ds gs before hval0 hW hcnd _
  have hval : ∀ (j : Nat) t v, Try.f10.params[j]? = some t → args[j]? = some v → Value.okWide Try.prog W .any base t v := hval0
  have hW' := hW
  obtain ⟨p, q, hA0, hV, rfl, hfz, hnd⟩ := hW
  have hA : DataW.TrodAll enc Try.prog W 0 (fun _ => true) true Try.f10.params.toList args.toList ds p := hA0
  rw [Try.params10] at hA hval
  obtain ⟨v0, vs0, d0, ds0, p0, q0, hargs, rfl, rfl, h0, r0⟩ := trodAll_cons hA
  obtain ⟨v1, vs1, d1, ds1, p1, q1, rfl, rfl, rfl, h1, r1⟩ := trodAll_cons r0
  obtain ⟨v2, vs2, d2, ds2, p2, q2, rfl, rfl, rfl, h2, r2⟩ := trodAll_cons r1
  obtain ⟨rfl, rfl, rfl⟩ := trodAll_nil r2
  obtain rfl : args = #[v0, v1, v2] := by cases args; simp_all
  obtain ⟨rfl, rfl⟩ := trodVars_none hV
  obtain ⟨c0_0, c0_1, y0_0, y0_1, m0, rfl, rfl, rfl, hy0_0, hy0_1⟩ := open_agg2 Try.underlying23 (by kernel_rfl) (show Try.prog.cellsOf 23 = 2 by kernel_rfl) (hval 0 23 v0 rfl rfl) h0
  obtain ⟨a1, e0_0, rfl, wf_a1⟩ := DataW.trod_int Try.underlying2 hy0_0
  obtain ⟨a2, e0_1, rfl, wf_a2⟩ := DataW.trod_int Try.underlying2 hy0_1
  simp at e0_0 e0_1
  subst e0_0 e0_1
  obtain ⟨c1_0, c1_1, y1_0, y1_1, m1, rfl, rfl, rfl, hy1_0, hy1_1⟩ := open_agg2 Try.underlying23 (by kernel_rfl) (show Try.prog.cellsOf 23 = 2 by kernel_rfl) (hval 1 23 v1 rfl rfl) h1
  obtain ⟨b1, e1_0, rfl, wf_b1⟩ := DataW.trod_int Try.underlying2 hy1_0
  obtain ⟨b2, e1_1, rfl, wf_b2⟩ := DataW.trod_int Try.underlying2 hy1_1
  simp at e1_0 e1_1
  subst e1_0 e1_1
  obtain ⟨k, rfl, rfl, rfl, wf_k⟩ := open_int Try.underlying3 (hval 2 3 v2 rfl rfl) h2
  clear hA0 hval0
  simp only [List.append_nil] at hW'
  refine (steps_walk a1 a2 b1 b2 k (wf_i64 wf_a1).1 (wf_i64 wf_a1).2 (wf_i64 wf_a2).1 (wf_i64 wf_a2).2 (wf_i64 wf_b1).1 (wf_i64 wf_b1).2 (wf_i64 wf_b2).1 (wf_i64 wf_b2).2 (wf_i64 wf_k).1 (wf_i64 wf_k).2 W).mono fun e W' ⟨he, hb⟩ => ?_
  subst he
  exact ⟨_, rfl, post_of_below (pa := []) (pv := []) hW' (fun _ _ _ => (trodAll_cons_mk (shut_bool Try.underlying4 _) trodAll_mk0)) (fun sp _ => (trodAll_cons_mk (shut_agg2 (y0 := (.lit (.int .i64 a1), [])) (y1 := (.lit (.int .i64 a2), [])) Try.underlying23 (by kernel_rfl) (show Try.prog.cellsOf 23 = 2 by kernel_rfl) ⟨1, by simp [DataW.trod, Try.underlying2, wf_a1]⟩ ⟨1, by simp [DataW.trod, Try.underlying2, wf_a2]⟩) (trodAll_cons_mk (shut_agg2 (y0 := (.lit (.int .i64 b1), [])) (y1 := (.lit (.int .i64 b2), [])) Try.underlying23 (by kernel_rfl) (show Try.prog.cellsOf 23 = 2 by kernel_rfl) ⟨1, by simp [DataW.trod, Try.underlying2, wf_b1]⟩ ⟨1, by simp [DataW.trod, Try.underlying2, wf_b2]⟩) (trodAll_cons_mk (shut_int Try.underlying3 wf_k) trodAll_mk0)))) (fun _ _ => rfl) rfl hb
    (ok_one (by kernel_rfl) rfl (okWide_bool_mk Try.underlying4 _))⟩
theorem eisenSteps_holds : Rows.EisenStepsSaid :=
  OpenClaim.holds_of_wide 10 Try.f10 rfl rfl rfl rfl rfl rfl rfl ⟨rfl, rfl, rfl, rfl, rfl⟩ rfl rfl rfl rfl rfl (by kernel_rfl) Try.func10 (by kernel_rfl)
    (of_decide_eq_true (by kernel_rfl)) (by unfold Func.isWrapper; first | (rw [if_pos (by decide +kernel)]; kernel_rfl) | (rw [if_neg (by decide +kernel)]; exact ⟨rfl, rfl⟩))
    (fun os started H enc _ => eisenSteps_lifted os started H enc)
end
#print axioms eisenSteps_holds
end Go.Proofs.Ytjedegpmpdgckaa

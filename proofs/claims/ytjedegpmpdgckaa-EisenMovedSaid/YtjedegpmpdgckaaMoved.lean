/- EisenMoved: what is nearest to a quotient moves with it by whole steps; a whole number is nearest to itself. No condition. -/
import Derived.Test.YtjedegpmpdgckaaRow
import Derived.Test.YtjedegpmpdgckaaAwake2
import Derived.Test.YtjedegpmpdgckaaTame
namespace Go.Proofs.Ytjedegpmpdgckaa
open Go.RowKit
set_option linter.unusedSimpArgs false
set_option linter.unusedVariables false in
set_option maxHeartbeats 800000 in
theorem moved_walk (u1 u2 b1 b2 d : Int) (hu1 : -9223372036854775808 ≤ u1) (hu1' : u1 ≤ 9223372036854775807) (hu2 : -9223372036854775808 ≤ u2) (hu2' : u2 ≤ 9223372036854775807) (hb1 : -9223372036854775808 ≤ b1) (hb1' : b1 ≤ 9223372036854775807) (hb2 : -9223372036854775808 ≤ b2) (hb2' : b2 ≤ 9223372036854775807) (hd : -9223372036854775808 ≤ d) (hd' : d ≤ 9223372036854775807) (w : World) : Calls Try.prog 5 #[.agg #[.int .i64 u1, .int .i64 u2], .agg #[.int .i64 b1, .int .i64 b2], .int .i64 d] w fun e w' => e = .returned (.bool true) ∧ Below w.heap.size w w' := by
  have M := i64_mask d 10 (by omega)
  have M1 := Int.emod_nonneg d (b := ((2 ^ 10 : Nat) : Int)) (by decide)
  have M2 := Int.emod_lt_of_pos d (b := ((2 ^ 10 : Nat) : Int)) (by decide)
  simp only [show ((2 ^ 10 - 1 : Nat) : Int) = 1023 from rfl, show ((2 ^ 10 : Nat) : Int) = 1024 from rfl] at M M1 M2
  generalize d % 1024 = D0 at M M1 M2
  obtain ⟨D, hD⟩ : ∃ D, D = D0 + 1 := ⟨_, rfl⟩
  obtain ⟨t1, t2⟩ := tmod_bd u1 16384 (by omega)
  obtain ⟨t3, t4⟩ := tmod_bd u2 16384 (by omega)
  obtain ⟨t5, t6⟩ := tmod_bd b1 16384 (by omega)
  obtain ⟨t7, t8⟩ := tmod_bd b2 16384 (by omega)
  have T1 := Lib.hid (tame_any u1 u2)
  have T2 := Lib.hid (tame_any b1 b2)
  generalize u1.tmod 16384 = A1 at *
  generalize u2.tmod 16384 = A2 at *
  generalize b1.tmod 16384 = B1 at *
  generalize b2.tmod 16384 = B2 at *
  obtain ⟨m1, m2⟩ := mul_bd D B1 1024 16384 (by omega) (by omega) (by omega) (by omega)
  obtain ⟨m3, m4⟩ := mul_bd D B2 1024 16384 (by omega) (by omega) (by omega) (by omega)
  obtain ⟨g1, g2, g3, g4⟩ := rd_bd A1 A2 D (by omega) (by omega) (by omega) (by omega) (by omega)
  have R1 := Lib.hid (eis_round_is A1 A2 D _ _ (by omega) (by omega) (by omega) (by omega) (by omega) (by omega) rfl rfl)
  have R2 := Lib.hid (eis_round_is (A1 + D * B1) (A2 + D * B2) D _ _ (by omega) (by omega) (by omega) (by omega) (by omega) (by omega) (rd_moved A1 A2 D B1 B2 (by omega)).1 (rd_moved A1 A2 D B1 B2 (by omega)).2)
  have R3 := Lib.hid (eis_round_is (D * B1) (D * B2) D _ _ (by omega) (by omega) (by omega) (by omega) (by omega) (by omega) (rd_whole D B1 B2 (by omega)).1 (rd_whole D B1 B2 (by omega)).2)
  generalize rdA A1 A2 D = Z1 at *
  generalize rdB A1 A2 D = Z2 at *
  have e0 : D0 + 1 = D := hD.symm
  clear hD hu1 hu1' hu2 hu2' hb1 hb1' hb2 hb2' hd hd'
  go_enter Try.func5, Try.ntmps5
  go_wp2_with fail
  refine wp_start (fun W => W.cell? ⟨w.heap.size, 0, none⟩ = some (.int .i64 u1) ∧ W.frozen? ⟨w.heap.size, 0, none⟩ = false ∧ W.cell? ⟨w.heap.size, 1, none⟩ = some (.int .i64 u2) ∧ W.frozen? ⟨w.heap.size, 1, none⟩ = false ∧ W.cell? ⟨w.heap.size + 1, 0, none⟩ = some (.int .i64 b1) ∧ W.frozen? ⟨w.heap.size + 1, 0, none⟩ = false ∧ W.cell? ⟨w.heap.size + 1, 1, none⟩ = some (.int .i64 b2) ∧ W.frozen? ⟨w.heap.size + 1, 1, none⟩ = false ∧ Below w.heap.size w W) ⟨by first | (simp [go_sem]; done), by first | (simp [go_sem]; done), by first | (simp [go_sem]; done), by first | (simp [go_sem]; done), by first | (simp [go_sem]; done), by first | (simp [go_sem]; done), by first | (simp [go_sem]; done), by first | (simp [go_sem]; done), by repeat (first | exact Below.refl _ _ | refine bl_alloc ?_ _ | refine bl_drewN ?_ _ | refine bl_drew ?_ | refine bl_set ?_ (by first | (simp; done) | (simp; omega) | omega) _ | refine below_step ?_ (by assumption) | refine below_step ?_ (Bw.below _))⟩ ?_
  rintro W ⟨hc1, fc1, hc2, fc2, hc3, fc3, hc4, fc4, hWc⟩ gc
  have c1 := Bw.hold hc1
  have cf1 := Bw.free hc1 fc1
  have c2 := Bw.hold hc2
  have cf2 := Bw.free hc2 fc2
  have c3 := Bw.hold hc3
  have cf3 := Bw.free hc3 fc3
  have c4 := Bw.hold hc4
  have cf4 := Bw.free hc4 fc4
  have cz1 := fun g : Bw W => cell_lt (c1 g)
  have cy1 := fun g : Bw W => Nat.le_of_lt (cz1 g)
  have cz3 := fun g : Bw W => cell_lt (c3 g)
  have cy3 := fun g : Bw W => Nat.le_of_lt (cz3 g)
  clear hc1 fc1 hc2 fc2 hc3 fc3 hc4 fc4
  refine wp_region_bw_tail 4 (by kernel_rfl) (by kernel_rfl) gc ?_
  simp only [List.take_succ_cons, List.take_zero, List.drop_succ_cons, List.drop_zero]
  repeat (go_big_quiet_step ((first
    | (go_at_call 19; first | with_reducible exact bw_call (T1.out _) | with_reducible exact bw_call (T2.out _)))))
  refine wpQuiet_nil ?_
  rintro _ ⟨g2, rfl⟩
  go_wp2_with fail
  refine calls_start (fun V => V.cell? ⟨w.heap.size, 0, none⟩ = some (.int .i64 A1) ∧ V.frozen? ⟨w.heap.size, 0, none⟩ = false ∧ V.cell? ⟨w.heap.size, 1, none⟩ = some (.int .i64 A2) ∧ V.frozen? ⟨w.heap.size, 1, none⟩ = false ∧ V.cell? ⟨w.heap.size + 1, 0, none⟩ = some (.int .i64 B1) ∧ V.frozen? ⟨w.heap.size + 1, 0, none⟩ = false ∧ V.cell? ⟨w.heap.size + 1, 1, none⟩ = some (.int .i64 B2) ∧ V.frozen? ⟨w.heap.size + 1, 1, none⟩ = false ∧ Below w.heap.size w V) ⟨by first | (simp [go_sem]; done) | with_reducible exact hold_al c1 _ _ | with_reducible exact hold_al c2 _ _ | with_reducible exact hold_al c3 _ _ | with_reducible exact hold_al c4 _ _ | (simp [go_sem, c1, cf1, c2, cf2, c3, cf3, c4, cf4, cz1, cy1, cz3, cy3]; done), by first | (simp [go_sem]; done) | with_reducible exact hold_alF c1 cf1 _ _ | with_reducible exact hold_alF c2 cf2 _ _ | with_reducible exact hold_alF c3 cf3 _ _ | with_reducible exact hold_alF c4 cf4 _ _ | (simp [go_sem, c1, cf1, c2, cf2, c3, cf3, c4, cf4, cz1, cy1, cz3, cy3]; done), by first | (simp [go_sem]; done) | with_reducible exact hold_al c1 _ _ | with_reducible exact hold_al c2 _ _ | with_reducible exact hold_al c3 _ _ | with_reducible exact hold_al c4 _ _ | (simp [go_sem, c1, cf1, c2, cf2, c3, cf3, c4, cf4, cz1, cy1, cz3, cy3]; done), by first | (simp [go_sem]; done) | with_reducible exact hold_alF c1 cf1 _ _ | with_reducible exact hold_alF c2 cf2 _ _ | with_reducible exact hold_alF c3 cf3 _ _ | with_reducible exact hold_alF c4 cf4 _ _ | (simp [go_sem, c1, cf1, c2, cf2, c3, cf3, c4, cf4, cz1, cy1, cz3, cy3]; done), by first | (simp [go_sem]; done) | with_reducible exact hold_al c1 _ _ | with_reducible exact hold_al c2 _ _ | with_reducible exact hold_al c3 _ _ | with_reducible exact hold_al c4 _ _ | (simp [go_sem, c1, cf1, c2, cf2, c3, cf3, c4, cf4, cz1, cy1, cz3, cy3]; done), by first | (simp [go_sem]; done) | with_reducible exact hold_alF c1 cf1 _ _ | with_reducible exact hold_alF c2 cf2 _ _ | with_reducible exact hold_alF c3 cf3 _ _ | with_reducible exact hold_alF c4 cf4 _ _ | (simp [go_sem, c1, cf1, c2, cf2, c3, cf3, c4, cf4, cz1, cy1, cz3, cy3]; done), by first | (simp [go_sem]; done) | with_reducible exact hold_al c1 _ _ | with_reducible exact hold_al c2 _ _ | with_reducible exact hold_al c3 _ _ | with_reducible exact hold_al c4 _ _ | (simp [go_sem, c1, cf1, c2, cf2, c3, cf3, c4, cf4, cz1, cy1, cz3, cy3]; done), by first | (simp [go_sem]; done) | with_reducible exact hold_alF c1 cf1 _ _ | with_reducible exact hold_alF c2 cf2 _ _ | with_reducible exact hold_alF c3 cf3 _ _ | with_reducible exact hold_alF c4 cf4 _ _ | (simp [go_sem, c1, cf1, c2, cf2, c3, cf3, c4, cf4, cz1, cy1, cz3, cy3]; done), by repeat (first | exact Below.refl _ _ | refine bl_alloc ?_ _ | refine bl_drewN ?_ _ | refine bl_drew ?_ | refine bl_set ?_ (by first | (simp; done) | (simp; omega) | omega) _ | refine below_step ?_ (by assumption) | refine below_step ?_ (Bw.below _))⟩ ?_
  rintro V ⟨hk1, fk1, hk2, fk2, hk3, fk3, hk4, fk4, hWk⟩ gk
  have k1 := Bw.hold hk1
  have kf1 := Bw.free hk1 fk1
  have k2 := Bw.hold hk2
  have kf2 := Bw.free hk2 fk2
  have k3 := Bw.hold hk3
  have kf3 := Bw.free hk3 fk3
  have k4 := Bw.hold hk4
  have kf4 := Bw.free hk4 fk4
  have kz1 := fun g : Bw V => cell_lt (k1 g)
  have ky1 := fun g : Bw V => Nat.le_of_lt (kz1 g)
  have kz3 := fun g : Bw V => cell_lt (k3 g)
  have ky3 := fun g : Bw V => Nat.le_of_lt (kz3 g)
  clear hk1 fk1 hk2 fk2 hk3 fk3 hk4 fk4
  clear c1 cf1 c2 cf2 c3 cf3 c4 cf4 cz1 cy1 cz3 cy3
  clear T1 T2
  refine (R1.out _).mono ?_
  rintro e_g3 w_g3 ⟨rfl, hb_g3⟩
  obtain ⟨g3, rfl⟩ := gk.next hb_g3
  clear hb_g3
  go_wp2_with fail
  refine calls_start (fun X => X.cell? ⟨w.heap.size, 0, none⟩ = some (.int .i64 A1) ∧ X.frozen? ⟨w.heap.size, 0, none⟩ = false ∧ X.cell? ⟨w.heap.size, 1, none⟩ = some (.int .i64 A2) ∧ X.frozen? ⟨w.heap.size, 1, none⟩ = false ∧ X.cell? ⟨w.heap.size + 1, 0, none⟩ = some (.int .i64 B1) ∧ X.frozen? ⟨w.heap.size + 1, 0, none⟩ = false ∧ X.cell? ⟨w.heap.size + 1, 1, none⟩ = some (.int .i64 B2) ∧ X.frozen? ⟨w.heap.size + 1, 1, none⟩ = false ∧ X.cell? ⟨g3.out.heap.size, 0, none⟩ = some (.int .i64 Z1) ∧ X.cell? ⟨g3.out.heap.size, 1, none⟩ = some (.int .i64 Z2) ∧ Below w.heap.size w X) ⟨by first | (simp [go_sem]; done) | with_reducible exact hold_al k1 _ _ | with_reducible exact hold_al k2 _ _ | with_reducible exact hold_al k3 _ _ | with_reducible exact hold_al k4 _ _ | (simp [go_sem, k1, kf1, k2, kf2, k3, kf3, k4, kf4, kz1, ky1, kz3, ky3]; done), by first | (simp [go_sem]; done) | with_reducible exact hold_alF k1 kf1 _ _ | with_reducible exact hold_alF k2 kf2 _ _ | with_reducible exact hold_alF k3 kf3 _ _ | with_reducible exact hold_alF k4 kf4 _ _ | (simp [go_sem, k1, kf1, k2, kf2, k3, kf3, k4, kf4, kz1, ky1, kz3, ky3]; done), by first | (simp [go_sem]; done) | with_reducible exact hold_al k1 _ _ | with_reducible exact hold_al k2 _ _ | with_reducible exact hold_al k3 _ _ | with_reducible exact hold_al k4 _ _ | (simp [go_sem, k1, kf1, k2, kf2, k3, kf3, k4, kf4, kz1, ky1, kz3, ky3]; done), by first | (simp [go_sem]; done) | with_reducible exact hold_alF k1 kf1 _ _ | with_reducible exact hold_alF k2 kf2 _ _ | with_reducible exact hold_alF k3 kf3 _ _ | with_reducible exact hold_alF k4 kf4 _ _ | (simp [go_sem, k1, kf1, k2, kf2, k3, kf3, k4, kf4, kz1, ky1, kz3, ky3]; done), by first | (simp [go_sem]; done) | with_reducible exact hold_al k1 _ _ | with_reducible exact hold_al k2 _ _ | with_reducible exact hold_al k3 _ _ | with_reducible exact hold_al k4 _ _ | (simp [go_sem, k1, kf1, k2, kf2, k3, kf3, k4, kf4, kz1, ky1, kz3, ky3]; done), by first | (simp [go_sem]; done) | with_reducible exact hold_alF k1 kf1 _ _ | with_reducible exact hold_alF k2 kf2 _ _ | with_reducible exact hold_alF k3 kf3 _ _ | with_reducible exact hold_alF k4 kf4 _ _ | (simp [go_sem, k1, kf1, k2, kf2, k3, kf3, k4, kf4, kz1, ky1, kz3, ky3]; done), by first | (simp [go_sem]; done) | with_reducible exact hold_al k1 _ _ | with_reducible exact hold_al k2 _ _ | with_reducible exact hold_al k3 _ _ | with_reducible exact hold_al k4 _ _ | (simp [go_sem, k1, kf1, k2, kf2, k3, kf3, k4, kf4, kz1, ky1, kz3, ky3]; done), by first | (simp [go_sem]; done) | with_reducible exact hold_alF k1 kf1 _ _ | with_reducible exact hold_alF k2 kf2 _ _ | with_reducible exact hold_alF k3 kf3 _ _ | with_reducible exact hold_alF k4 kf4 _ _ | (simp [go_sem, k1, kf1, k2, kf2, k3, kf3, k4, kf4, kz1, ky1, kz3, ky3]; done), by first | (simp [go_sem]; done) | with_reducible exact hold_al k1 _ _ | with_reducible exact hold_al k2 _ _ | with_reducible exact hold_al k3 _ _ | with_reducible exact hold_al k4 _ _ | (simp [go_sem, k1, kf1, k2, kf2, k3, kf3, k4, kf4, kz1, ky1, kz3, ky3]; done), by first | (simp [go_sem]; done) | with_reducible exact hold_al k1 _ _ | with_reducible exact hold_al k2 _ _ | with_reducible exact hold_al k3 _ _ | with_reducible exact hold_al k4 _ _ | (simp [go_sem, k1, kf1, k2, kf2, k3, kf3, k4, kf4, kz1, ky1, kz3, ky3]; done), by repeat (first | exact Below.refl _ _ | refine bl_alloc ?_ _ | refine bl_drewN ?_ _ | refine bl_drew ?_ | refine bl_set ?_ (by first | (simp; done) | (simp; omega) | omega) _ | refine below_step ?_ (by assumption) | refine below_step ?_ (Bw.below _))⟩ ?_
  rintro X ⟨hl1, fl1, hl2, fl2, hl3, fl3, hl4, fl4, hl5, hl6, hWl⟩ gl
  have l1 := Bw.hold hl1
  have lf1 := Bw.free hl1 fl1
  have l2 := Bw.hold hl2
  have lf2 := Bw.free hl2 fl2
  have l3 := Bw.hold hl3
  have lf3 := Bw.free hl3 fl3
  have l4 := Bw.hold hl4
  have lf4 := Bw.free hl4 fl4
  have l5 := Bw.hold hl5
  have l6 := Bw.hold hl6
  have lz1 := fun g : Bw X => cell_lt (l1 g)
  have ly1 := fun g : Bw X => Nat.le_of_lt (lz1 g)
  have lz3 := fun g : Bw X => cell_lt (l3 g)
  have ly3 := fun g : Bw X => Nat.le_of_lt (lz3 g)
  have lz5 := fun g : Bw X => cell_lt (l5 g)
  have ly5 := fun g : Bw X => Nat.le_of_lt (lz5 g)
  clear hl1 fl1 hl2 fl2 hl3 fl3 hl4 fl4 hl5 hl6
  clear k1 kf1 k2 kf2 k3 kf3 k4 kf4 kz1 ky1 kz3 ky3
  refine (R2.out _).mono ?_
  rintro e_g4 w_g4 ⟨rfl, hb_g4⟩
  obtain ⟨g4, rfl⟩ := gl.next hb_g4
  clear hb_g4
  go_wp2_with fail
  refine calls_start (fun Y => Y.cell? ⟨w.heap.size, 0, none⟩ = some (.int .i64 A1) ∧ Y.frozen? ⟨w.heap.size, 0, none⟩ = false ∧ Y.cell? ⟨w.heap.size, 1, none⟩ = some (.int .i64 A2) ∧ Y.frozen? ⟨w.heap.size, 1, none⟩ = false ∧ Y.cell? ⟨w.heap.size + 1, 0, none⟩ = some (.int .i64 B1) ∧ Y.frozen? ⟨w.heap.size + 1, 0, none⟩ = false ∧ Y.cell? ⟨w.heap.size + 1, 1, none⟩ = some (.int .i64 B2) ∧ Y.frozen? ⟨w.heap.size + 1, 1, none⟩ = false ∧ Y.cell? ⟨g3.out.heap.size, 0, none⟩ = some (.int .i64 Z1) ∧ Y.cell? ⟨g3.out.heap.size, 1, none⟩ = some (.int .i64 Z2) ∧ Y.cell? ⟨g4.out.heap.size, 0, none⟩ = some (.int .i64 (Z1 + B1)) ∧ Y.cell? ⟨g4.out.heap.size, 1, none⟩ = some (.int .i64 (Z2 + B2)) ∧ Below w.heap.size w Y) ⟨by first | (simp [go_sem]; done) | with_reducible exact hold_al l1 _ _ | with_reducible exact hold_al l2 _ _ | with_reducible exact hold_al l3 _ _ | with_reducible exact hold_al l4 _ _ | with_reducible exact hold_al l5 _ _ | with_reducible exact hold_al l6 _ _ | (simp [go_sem, l1, lf1, l2, lf2, l3, lf3, l4, lf4, l5, l6, lz1, ly1, lz3, ly3, lz5, ly5]; done), by first | (simp [go_sem]; done) | with_reducible exact hold_alF l1 lf1 _ _ | with_reducible exact hold_alF l2 lf2 _ _ | with_reducible exact hold_alF l3 lf3 _ _ | with_reducible exact hold_alF l4 lf4 _ _ | (simp [go_sem, l1, lf1, l2, lf2, l3, lf3, l4, lf4, l5, l6, lz1, ly1, lz3, ly3, lz5, ly5]; done), by first | (simp [go_sem]; done) | with_reducible exact hold_al l1 _ _ | with_reducible exact hold_al l2 _ _ | with_reducible exact hold_al l3 _ _ | with_reducible exact hold_al l4 _ _ | with_reducible exact hold_al l5 _ _ | with_reducible exact hold_al l6 _ _ | (simp [go_sem, l1, lf1, l2, lf2, l3, lf3, l4, lf4, l5, l6, lz1, ly1, lz3, ly3, lz5, ly5]; done), by first | (simp [go_sem]; done) | with_reducible exact hold_alF l1 lf1 _ _ | with_reducible exact hold_alF l2 lf2 _ _ | with_reducible exact hold_alF l3 lf3 _ _ | with_reducible exact hold_alF l4 lf4 _ _ | (simp [go_sem, l1, lf1, l2, lf2, l3, lf3, l4, lf4, l5, l6, lz1, ly1, lz3, ly3, lz5, ly5]; done), by first | (simp [go_sem]; done) | with_reducible exact hold_al l1 _ _ | with_reducible exact hold_al l2 _ _ | with_reducible exact hold_al l3 _ _ | with_reducible exact hold_al l4 _ _ | with_reducible exact hold_al l5 _ _ | with_reducible exact hold_al l6 _ _ | (simp [go_sem, l1, lf1, l2, lf2, l3, lf3, l4, lf4, l5, l6, lz1, ly1, lz3, ly3, lz5, ly5]; done), by first | (simp [go_sem]; done) | with_reducible exact hold_alF l1 lf1 _ _ | with_reducible exact hold_alF l2 lf2 _ _ | with_reducible exact hold_alF l3 lf3 _ _ | with_reducible exact hold_alF l4 lf4 _ _ | (simp [go_sem, l1, lf1, l2, lf2, l3, lf3, l4, lf4, l5, l6, lz1, ly1, lz3, ly3, lz5, ly5]; done), by first | (simp [go_sem]; done) | with_reducible exact hold_al l1 _ _ | with_reducible exact hold_al l2 _ _ | with_reducible exact hold_al l3 _ _ | with_reducible exact hold_al l4 _ _ | with_reducible exact hold_al l5 _ _ | with_reducible exact hold_al l6 _ _ | (simp [go_sem, l1, lf1, l2, lf2, l3, lf3, l4, lf4, l5, l6, lz1, ly1, lz3, ly3, lz5, ly5]; done), by first | (simp [go_sem]; done) | with_reducible exact hold_alF l1 lf1 _ _ | with_reducible exact hold_alF l2 lf2 _ _ | with_reducible exact hold_alF l3 lf3 _ _ | with_reducible exact hold_alF l4 lf4 _ _ | (simp [go_sem, l1, lf1, l2, lf2, l3, lf3, l4, lf4, l5, l6, lz1, ly1, lz3, ly3, lz5, ly5]; done), by first | (simp [go_sem]; done) | with_reducible exact hold_al l1 _ _ | with_reducible exact hold_al l2 _ _ | with_reducible exact hold_al l3 _ _ | with_reducible exact hold_al l4 _ _ | with_reducible exact hold_al l5 _ _ | with_reducible exact hold_al l6 _ _ | (simp [go_sem, l1, lf1, l2, lf2, l3, lf3, l4, lf4, l5, l6, lz1, ly1, lz3, ly3, lz5, ly5]; done), by first | (simp [go_sem]; done) | with_reducible exact hold_al l1 _ _ | with_reducible exact hold_al l2 _ _ | with_reducible exact hold_al l3 _ _ | with_reducible exact hold_al l4 _ _ | with_reducible exact hold_al l5 _ _ | with_reducible exact hold_al l6 _ _ | (simp [go_sem, l1, lf1, l2, lf2, l3, lf3, l4, lf4, l5, l6, lz1, ly1, lz3, ly3, lz5, ly5]; done), by first | (simp [go_sem]; done) | with_reducible exact hold_al l1 _ _ | with_reducible exact hold_al l2 _ _ | with_reducible exact hold_al l3 _ _ | with_reducible exact hold_al l4 _ _ | with_reducible exact hold_al l5 _ _ | with_reducible exact hold_al l6 _ _ | (simp [go_sem, l1, lf1, l2, lf2, l3, lf3, l4, lf4, l5, l6, lz1, ly1, lz3, ly3, lz5, ly5]; done), by first | (simp [go_sem]; done) | with_reducible exact hold_al l1 _ _ | with_reducible exact hold_al l2 _ _ | with_reducible exact hold_al l3 _ _ | with_reducible exact hold_al l4 _ _ | with_reducible exact hold_al l5 _ _ | with_reducible exact hold_al l6 _ _ | (simp [go_sem, l1, lf1, l2, lf2, l3, lf3, l4, lf4, l5, l6, lz1, ly1, lz3, ly3, lz5, ly5]; done), by repeat (first | exact Below.refl _ _ | refine bl_alloc ?_ _ | refine bl_drewN ?_ _ | refine bl_drew ?_ | refine bl_set ?_ (by first | (simp; done) | (simp; omega) | omega) _ | refine below_step ?_ (by assumption) | refine below_step ?_ (Bw.below _))⟩ ?_
  rintro Y ⟨hm1, fm1, hm2, fm2, hm3, fm3, hm4, fm4, hm5, hm6, hm7, hm8, hWm⟩ gm
  have m1 := Bw.hold hm1
  have mf1 := Bw.free hm1 fm1
  have m2 := Bw.hold hm2
  have mf2 := Bw.free hm2 fm2
  have m3 := Bw.hold hm3
  have mf3 := Bw.free hm3 fm3
  have m4 := Bw.hold hm4
  have mf4 := Bw.free hm4 fm4
  have m5 := Bw.hold hm5
  have m6 := Bw.hold hm6
  have m7 := Bw.hold hm7
  have m8 := Bw.hold hm8
  have mz1 := fun g : Bw Y => cell_lt (m1 g)
  have my1 := fun g : Bw Y => Nat.le_of_lt (mz1 g)
  have mz3 := fun g : Bw Y => cell_lt (m3 g)
  have my3 := fun g : Bw Y => Nat.le_of_lt (mz3 g)
  have mz5 := fun g : Bw Y => cell_lt (m5 g)
  have my5 := fun g : Bw Y => Nat.le_of_lt (mz5 g)
  have mz7 := fun g : Bw Y => cell_lt (m7 g)
  have my7 := fun g : Bw Y => Nat.le_of_lt (mz7 g)
  clear hm1 fm1 hm2 fm2 hm3 fm3 hm4 fm4 hm5 hm6 hm7 hm8
  clear l1 lf1 l2 lf2 l3 lf3 l4 lf4 l5 l6 lz1 ly1 lz3 ly3 lz5 ly5
  refine (R3.out _).mono ?_
  rintro e_g5 w_g5 ⟨rfl, hb_g5⟩
  obtain ⟨g5, rfl⟩ := gm.next hb_g5
  clear hb_g5
  go_wp2_with fail
  refine calls_start (fun S => S.cell? ⟨w.heap.size + 1, 0, none⟩ = some (.int .i64 B1) ∧ S.frozen? ⟨w.heap.size + 1, 0, none⟩ = false ∧ S.cell? ⟨w.heap.size + 1, 1, none⟩ = some (.int .i64 B2) ∧ S.frozen? ⟨w.heap.size + 1, 1, none⟩ = false ∧ S.cell? ⟨g3.out.heap.size, 0, none⟩ = some (.int .i64 Z1) ∧ S.cell? ⟨g3.out.heap.size, 1, none⟩ = some (.int .i64 Z2) ∧ S.cell? ⟨g4.out.heap.size, 0, none⟩ = some (.int .i64 (Z1 + B1)) ∧ S.cell? ⟨g4.out.heap.size, 1, none⟩ = some (.int .i64 (Z2 + B2)) ∧ S.cell? ⟨g5.out.heap.size, 0, none⟩ = some (.int .i64 B1) ∧ S.cell? ⟨g5.out.heap.size, 1, none⟩ = some (.int .i64 B2) ∧ Below w.heap.size w S) ⟨by first | (simp [go_sem]; done) | with_reducible exact hold_al m1 _ _ | with_reducible exact hold_al m2 _ _ | with_reducible exact hold_al m3 _ _ | with_reducible exact hold_al m4 _ _ | with_reducible exact hold_al m5 _ _ | with_reducible exact hold_al m6 _ _ | with_reducible exact hold_al m7 _ _ | with_reducible exact hold_al m8 _ _ | (simp [go_sem, m1, mf1, m2, mf2, m3, mf3, m4, mf4, m5, m6, m7, m8, mz1, my1, mz3, my3, mz5, my5, mz7, my7]; done), by first | (simp [go_sem]; done) | with_reducible exact hold_alF m1 mf1 _ _ | with_reducible exact hold_alF m2 mf2 _ _ | with_reducible exact hold_alF m3 mf3 _ _ | with_reducible exact hold_alF m4 mf4 _ _ | (simp [go_sem, m1, mf1, m2, mf2, m3, mf3, m4, mf4, m5, m6, m7, m8, mz1, my1, mz3, my3, mz5, my5, mz7, my7]; done), by first | (simp [go_sem]; done) | with_reducible exact hold_al m1 _ _ | with_reducible exact hold_al m2 _ _ | with_reducible exact hold_al m3 _ _ | with_reducible exact hold_al m4 _ _ | with_reducible exact hold_al m5 _ _ | with_reducible exact hold_al m6 _ _ | with_reducible exact hold_al m7 _ _ | with_reducible exact hold_al m8 _ _ | (simp [go_sem, m1, mf1, m2, mf2, m3, mf3, m4, mf4, m5, m6, m7, m8, mz1, my1, mz3, my3, mz5, my5, mz7, my7]; done), by first | (simp [go_sem]; done) | with_reducible exact hold_alF m1 mf1 _ _ | with_reducible exact hold_alF m2 mf2 _ _ | with_reducible exact hold_alF m3 mf3 _ _ | with_reducible exact hold_alF m4 mf4 _ _ | (simp [go_sem, m1, mf1, m2, mf2, m3, mf3, m4, mf4, m5, m6, m7, m8, mz1, my1, mz3, my3, mz5, my5, mz7, my7]; done), by first | (simp [go_sem]; done) | with_reducible exact hold_al m1 _ _ | with_reducible exact hold_al m2 _ _ | with_reducible exact hold_al m3 _ _ | with_reducible exact hold_al m4 _ _ | with_reducible exact hold_al m5 _ _ | with_reducible exact hold_al m6 _ _ | with_reducible exact hold_al m7 _ _ | with_reducible exact hold_al m8 _ _ | (simp [go_sem, m1, mf1, m2, mf2, m3, mf3, m4, mf4, m5, m6, m7, m8, mz1, my1, mz3, my3, mz5, my5, mz7, my7]; done), by first | (simp [go_sem]; done) | with_reducible exact hold_al m1 _ _ | with_reducible exact hold_al m2 _ _ | with_reducible exact hold_al m3 _ _ | with_reducible exact hold_al m4 _ _ | with_reducible exact hold_al m5 _ _ | with_reducible exact hold_al m6 _ _ | with_reducible exact hold_al m7 _ _ | with_reducible exact hold_al m8 _ _ | (simp [go_sem, m1, mf1, m2, mf2, m3, mf3, m4, mf4, m5, m6, m7, m8, mz1, my1, mz3, my3, mz5, my5, mz7, my7]; done), by first | (simp [go_sem]; done) | with_reducible exact hold_al m1 _ _ | with_reducible exact hold_al m2 _ _ | with_reducible exact hold_al m3 _ _ | with_reducible exact hold_al m4 _ _ | with_reducible exact hold_al m5 _ _ | with_reducible exact hold_al m6 _ _ | with_reducible exact hold_al m7 _ _ | with_reducible exact hold_al m8 _ _ | (simp [go_sem, m1, mf1, m2, mf2, m3, mf3, m4, mf4, m5, m6, m7, m8, mz1, my1, mz3, my3, mz5, my5, mz7, my7]; done), by first | (simp [go_sem]; done) | with_reducible exact hold_al m1 _ _ | with_reducible exact hold_al m2 _ _ | with_reducible exact hold_al m3 _ _ | with_reducible exact hold_al m4 _ _ | with_reducible exact hold_al m5 _ _ | with_reducible exact hold_al m6 _ _ | with_reducible exact hold_al m7 _ _ | with_reducible exact hold_al m8 _ _ | (simp [go_sem, m1, mf1, m2, mf2, m3, mf3, m4, mf4, m5, m6, m7, m8, mz1, my1, mz3, my3, mz5, my5, mz7, my7]; done), by first | (simp [go_sem]; done) | with_reducible exact hold_al m1 _ _ | with_reducible exact hold_al m2 _ _ | with_reducible exact hold_al m3 _ _ | with_reducible exact hold_al m4 _ _ | with_reducible exact hold_al m5 _ _ | with_reducible exact hold_al m6 _ _ | with_reducible exact hold_al m7 _ _ | with_reducible exact hold_al m8 _ _ | (simp [go_sem, m1, mf1, m2, mf2, m3, mf3, m4, mf4, m5, m6, m7, m8, mz1, my1, mz3, my3, mz5, my5, mz7, my7]; done), by first | (simp [go_sem]; done) | with_reducible exact hold_al m1 _ _ | with_reducible exact hold_al m2 _ _ | with_reducible exact hold_al m3 _ _ | with_reducible exact hold_al m4 _ _ | with_reducible exact hold_al m5 _ _ | with_reducible exact hold_al m6 _ _ | with_reducible exact hold_al m7 _ _ | with_reducible exact hold_al m8 _ _ | (simp [go_sem, m1, mf1, m2, mf2, m3, mf3, m4, mf4, m5, m6, m7, m8, mz1, my1, mz3, my3, mz5, my5, mz7, my7]; done), by repeat (first | exact Below.refl _ _ | refine bl_alloc ?_ _ | refine bl_drewN ?_ _ | refine bl_drew ?_ | refine bl_set ?_ (by first | (simp; done) | (simp; omega) | omega) _ | refine below_step ?_ (by assumption) | refine below_step ?_ (Bw.below _))⟩ ?_
  rintro S ⟨hs1, fs1, hs2, fs2, hs3, hs4, hs5, hs6, hs7, hs8, hWs⟩ gs
  have s1 := Bw.hold hs1
  have sf1 := Bw.free hs1 fs1
  have s2 := Bw.hold hs2
  have sf2 := Bw.free hs2 fs2
  have s3 := Bw.hold hs3
  have s4 := Bw.hold hs4
  have s5 := Bw.hold hs5
  have s6 := Bw.hold hs6
  have s7 := Bw.hold hs7
  have s8 := Bw.hold hs8
  have sz1 := fun g : Bw S => cell_lt (s1 g)
  have sy1 := fun g : Bw S => Nat.le_of_lt (sz1 g)
  have sz3 := fun g : Bw S => cell_lt (s3 g)
  have sy3 := fun g : Bw S => Nat.le_of_lt (sz3 g)
  have sz5 := fun g : Bw S => cell_lt (s5 g)
  have sy5 := fun g : Bw S => Nat.le_of_lt (sz5 g)
  have sz7 := fun g : Bw S => cell_lt (s7 g)
  have sy7 := fun g : Bw S => Nat.le_of_lt (sz7 g)
  clear hs1 fs1 hs2 fs2 hs3 hs4 hs5 hs6 hs7 hs8
  clear m1 mf1 m2 mf2 m3 mf3 m4 mf4 m5 m6 m7 m8 mz1 my1 mz3 my3 mz5 my5 mz7 my7
  refine (awake2 _).mono ?_
  rintro e_g6 w_g6 ⟨rfl, hb_g6⟩
  obtain ⟨g6, rfl⟩ := gs.next hb_g6
  clear hb_g6
  go_wp2_with fail
  go_ret
  exact ⟨rfl, by repeat (first | exact Below.refl _ _ | refine bl_alloc ?_ _ | refine bl_drewN ?_ _ | refine bl_drew ?_ | refine bl_set ?_ (by first | (simp; done) | (simp; omega) | omega) _ | refine below_step ?_ (by assumption) | refine below_step ?_ (Bw.below _))⟩
/-! THE STATEMENT EisenMoved -/
section
open Go.ChangeShapes Go.WideShapes Go.ChangeAt Go.RowKit Go.Joins
set_option linter.unusedVariables false
set_option maxRecDepth 100000 in
theorem eisenMoved_lifted (os : Os) (started : os.Started) (H : Type) (enc : TypeId × Value → H) :
    ReturnsInHanded {} Try.checked os 5 .any (Rows.eisenMovedSpec.pre6 enc Try.prog Try.f5 Rows.eisenMovedRow.domain false) (Rows.eisenMovedSpec.post enc Try.prog Try.f5 false true false false) := by
  refine returnsInHanded_of_change (C := Try.checked) (show ownKnob Try.prog.godebug = none by kernel_rfl) started (by kernel_rfl) Try.func5
    (ChangeSpec.witness6 (enc := enc) (C := Try.checked) false ⟨#[], #[.agg #[.int .i64 0, .int .i64 0], .agg #[.int .i64 0, .int .i64 0], .int .i64 0], []⟩ 8 (by kernel_rfl) (by kernel_rfl) (by kernel_rfl) (by kernel_rfl)) ?_
  intro W base args ds gs before hval0 hW hcnd _
  have hval : ∀ (j : Nat) t v, Try.f5.params[j]? = some t → args[j]? = some v → Value.okWide Try.prog W .any base t v := hval0
  have hW' := hW
  obtain ⟨p, q, hA0, hV, rfl, hfz, hnd⟩ := hW
  have hA : DataW.TrodAll enc Try.prog W 0 (fun _ => true) true Try.f5.params.toList args.toList ds p := hA0
  rw [Try.params5] at hA hval
  obtain ⟨v0, vs0, d0, ds0, p0, q0, hargs, rfl, rfl, h0, r0⟩ := trodAll_cons hA
  obtain ⟨v1, vs1, d1, ds1, p1, q1, rfl, rfl, rfl, h1, r1⟩ := trodAll_cons r0
  obtain ⟨v2, vs2, d2, ds2, p2, q2, rfl, rfl, rfl, h2, r2⟩ := trodAll_cons r1
  obtain ⟨rfl, rfl, rfl⟩ := trodAll_nil r2
  obtain rfl : args = #[v0, v1, v2] := by cases args; simp_all
  obtain ⟨rfl, rfl⟩ := trodVars_none hV
  obtain ⟨c0_0, c0_1, y0_0, y0_1, m0, rfl, rfl, rfl, hy0_0, hy0_1⟩ := open_agg2 Try.underlying23 (by kernel_rfl) (show Try.prog.cellsOf 23 = 2 by kernel_rfl) (hval 0 23 v0 rfl rfl) h0
  obtain ⟨u1, e0_0, rfl, wf_u1⟩ := DataW.trod_int Try.underlying2 hy0_0
  obtain ⟨u2, e0_1, rfl, wf_u2⟩ := DataW.trod_int Try.underlying2 hy0_1
  simp at e0_0 e0_1
  subst e0_0 e0_1
  obtain ⟨c1_0, c1_1, y1_0, y1_1, m1, rfl, rfl, rfl, hy1_0, hy1_1⟩ := open_agg2 Try.underlying23 (by kernel_rfl) (show Try.prog.cellsOf 23 = 2 by kernel_rfl) (hval 1 23 v1 rfl rfl) h1
  obtain ⟨b1, e1_0, rfl, wf_b1⟩ := DataW.trod_int Try.underlying2 hy1_0
  obtain ⟨b2, e1_1, rfl, wf_b2⟩ := DataW.trod_int Try.underlying2 hy1_1
  simp at e1_0 e1_1
  subst e1_0 e1_1
  obtain ⟨d, rfl, rfl, rfl, wf_d⟩ := open_int Try.underlying2 (hval 2 2 v2 rfl rfl) h2
  clear hA0 hval0
  simp only [List.append_nil] at hW'
  refine (moved_walk u1 u2 b1 b2 d (wf_i64 wf_u1).1 (wf_i64 wf_u1).2 (wf_i64 wf_u2).1 (wf_i64 wf_u2).2 (wf_i64 wf_b1).1 (wf_i64 wf_b1).2 (wf_i64 wf_b2).1 (wf_i64 wf_b2).2 (wf_i64 wf_d).1 (wf_i64 wf_d).2 W).mono fun e W' ⟨he, hb⟩ => ?_
  subst he
  exact ⟨_, rfl, post_of_below (pa := []) (pv := []) hW' (fun _ _ _ => (trodAll_cons_mk (shut_bool Try.underlying4 _) trodAll_mk0)) (fun sp _ => (trodAll_cons_mk (shut_agg2 (y0 := (.lit (.int .i64 u1), [])) (y1 := (.lit (.int .i64 u2), [])) Try.underlying23 (by kernel_rfl) (show Try.prog.cellsOf 23 = 2 by kernel_rfl) ⟨1, by simp [DataW.trod, Try.underlying2, wf_u1]⟩ ⟨1, by simp [DataW.trod, Try.underlying2, wf_u2]⟩) (trodAll_cons_mk (shut_agg2 (y0 := (.lit (.int .i64 b1), [])) (y1 := (.lit (.int .i64 b2), [])) Try.underlying23 (by kernel_rfl) (show Try.prog.cellsOf 23 = 2 by kernel_rfl) ⟨1, by simp [DataW.trod, Try.underlying2, wf_b1]⟩ ⟨1, by simp [DataW.trod, Try.underlying2, wf_b2]⟩) (trodAll_cons_mk (shut_int Try.underlying2 wf_d) trodAll_mk0)))) (fun _ _ => rfl) rfl hb
    (ok_one (by kernel_rfl) rfl (okWide_bool_mk Try.underlying4 _))⟩
theorem eisenMoved_holds : Rows.EisenMovedSaid :=
  OpenClaim.holds_of_wide 5 Try.f5 rfl rfl rfl rfl rfl rfl rfl ⟨rfl, rfl, rfl, rfl, rfl⟩ rfl rfl rfl rfl rfl (by kernel_rfl) Try.func5 (by kernel_rfl)
    (of_decide_eq_true (by kernel_rfl)) (by unfold Func.isWrapper; first | (rw [if_pos (by decide +kernel)]; kernel_rfl) | (rw [if_neg (by decide +kernel)]; exact ⟨rfl, rfl⟩))
    (fun os started H enc _ => eisenMoved_lifted os started H enc)
end
#print axioms eisenMoved_holds
end Go.Proofs.Ytjedegpmpdgckaa

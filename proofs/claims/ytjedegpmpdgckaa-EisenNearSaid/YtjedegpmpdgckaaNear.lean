/- EisenNear: nothing of the lattice is nearer to a quotient than what Round tells; of those as near none is less. No condition. -/
import Derived.Test.YtjedegpmpdgckaaRow
import Derived.Test.YtjedegpmpdgckaaAwake2
import Derived.Test.YtjedegpmpdgckaaTame
namespace Go.Proofs.Ytjedegpmpdgckaa
open Go.RowKit
set_option linter.unusedSimpArgs false
set_option linter.unusedVariables false
/-- The size of a remainder. -/
def nm (s t : Int) : Int := s * s + s * t + t * t
set_option maxHeartbeats 800000 in
theorem far_any (x y i j d M : Int) (hM : M = 100000000) (h1 : -M ≤ x - d * i) (h2 : x - d * i ≤ M) (h3 : -M ≤ y - d * j) (h4 : y - d * j ≤ M) (h5 : -1000000 ≤ x) (h6 : x ≤ 1000000) (h7 : -1000000 ≤ y) (h8 : y ≤ 1000000) (w : World) :
    Calls Try.prog 24 #[.agg #[.int .i64 x, .int .i64 y], .agg #[.int .i64 i, .int .i64 j], .int .i64 d] w fun e w' => e = .returned (.int .i64 (nm (x - d * i) (y - d * j))) ∧ Below w.heap.size w w' := by
  subst hM
  have b1 : -110000000 ≤ d * i := by omega
  have b2 : d * i ≤ 110000000 := by omega
  have b3 : -110000000 ≤ d * j := by omega
  have b4 : d * j ≤ 110000000 := by omega
  obtain ⟨q1, q2⟩ := mul_bd (x - d * i) (x - d * i) 100000000 100000000 (by omega) (by omega) (by omega) (by omega)
  obtain ⟨q3, q4⟩ := mul_bd (x - d * i) (y - d * j) 100000000 100000000 (by omega) (by omega) (by omega) (by omega)
  obtain ⟨q5, q6⟩ := mul_bd (y - d * j) (y - d * j) 100000000 100000000 (by omega) (by omega) (by omega) (by omega)
  have e : (x - d * i) * (x - d * i) + (x - d * i) * (y - d * j) + (y - d * j) * (y - d * j) = nm (x - d * i) (y - d * j) := rfl
  have E := Lib.hid e
  clear e
  generalize hS : x - d * i = S at *
  generalize hT : y - d * j = T at *
  go_enter Try.func24, Try.ntmps24
  go_wp2_with fail
  refine wp_start (fun W => W.cell? ⟨w.heap.size, 0, none⟩ = some (.int .i64 x) ∧ W.cell? ⟨w.heap.size, 1, none⟩ = some (.int .i64 y) ∧ W.cell? ⟨w.heap.size + 1, 0, none⟩ = some (.int .i64 i) ∧ W.cell? ⟨w.heap.size + 1, 1, none⟩ = some (.int .i64 j) ∧ Below w.heap.size w W) ⟨by first | (simp [go_sem]; done), by first | (simp [go_sem]; done), by first | (simp [go_sem]; done), by first | (simp [go_sem]; done), by repeat (first | exact Below.refl _ _ | refine bl_alloc ?_ _ | refine bl_drewN ?_ _ | refine bl_drew ?_ | refine bl_set ?_ (by first | (simp; done) | (simp; omega) | omega) _ | refine below_step ?_ (by assumption) | refine below_step ?_ (Bw.below _))⟩ ?_
  rintro W ⟨hc1, hc2, hc3, hc4, hWc⟩ gc
  have c1 := Bw.hold hc1
  have c2 := Bw.hold hc2
  have c3 := Bw.hold hc3
  have c4 := Bw.hold hc4
  have cz1 := fun g : Bw W => cell_lt (c1 g)
  have cy1 := fun g : Bw W => Nat.le_of_lt (cz1 g)
  have cz3 := fun g : Bw W => cell_lt (c3 g)
  have cy3 := fun g : Bw W => Nat.le_of_lt (cz3 g)
  clear hc1 hc2 hc3 hc4
  refine wp_region_bw (by kernel_rfl) (by kernel_rfl) gc ?_
  repeat (go_big_quiet_step (fail))
  refine wpQuiet_nil ?_
  rintro _ ⟨g2, rfl⟩
  go_wp2_with fail
  go_ret
  exact ⟨ret_i E.out, by repeat (first | exact Below.refl _ _ | refine bl_alloc ?_ _ | refine bl_drewN ?_ _ | refine bl_drew ?_ | refine bl_set ?_ (by first | (simp; done) | (simp; omega) | omega) _ | refine below_step ?_ (by assumption) | refine below_step ?_ (Bw.below _))⟩

/-- The plain law: no step of up to three leads nearer; none that leads as near is less. -/
theorem near_law (s t d i j : Int) (hd : 1 ≤ d) (h : Hexa s t d) (hi : -3 ≤ i) (hi' : i ≤ 3) (hj : -3 ≤ j) (hj' : j ≤ 3) :
    nm s t < nm (s - d * i) (t - d * j) ∨ (nm s t = nm (s - d * i) (t - d * j) ∧ (0 < i ∨ (i = 0 ∧ 0 ≤ j))) := by
  have e := norm_moved s t d i j
  have e' : nm (s - d * i) (t - d * j) = nm s t + d * (d * (i * i + i * j + j * j) - (i * (2 * s + t) + j * (s + 2 * t))) := e
  rw [e']
  clear e e'
  obtain ⟨a1, a2, b1, b2, c1, c2⟩ := h
  have key : 0 < d * (i * i + i * j + j * j) - (i * (2 * s + t) + j * (s + 2 * t)) ∨ (d * (i * i + i * j + j * j) - (i * (2 * s + t) + j * (s + 2 * t)) = 0 ∧ (0 < i ∨ (i = 0 ∧ 0 ≤ j))) := by
    have hi7 : i = -3 ∨ i = -2 ∨ i = -1 ∨ i = 0 ∨ i = 1 ∨ i = 2 ∨ i = 3 := by omega
    have hj7 : j = -3 ∨ j = -2 ∨ j = -1 ∨ j = 0 ∨ j = 1 ∨ j = 2 ∨ j = 3 := by omega
    rcases hi7 with rfl | rfl | rfl | rfl | rfl | rfl | rfl <;> rcases hj7 with rfl | rfl | rfl | rfl | rfl | rfl | rfl <;> omega
  rcases key with k | ⟨k, l⟩
  · left
    have := Int.mul_pos (show 0 < d by omega) k
    omega
  · right
    rw [k]
    exact ⟨by omega, l⟩
set_option maxRecDepth 100000 in
set_option maxHeartbeats 3000000 in
theorem near_walk (u1 u2 d b1 b2 : Int) (hu1 : -9223372036854775808 ≤ u1) (hu1' : u1 ≤ 9223372036854775807) (hu2 : -9223372036854775808 ≤ u2) (hu2' : u2 ≤ 9223372036854775807) (hd : -9223372036854775808 ≤ d) (hd' : d ≤ 9223372036854775807) (hb1 : -9223372036854775808 ≤ b1) (hb1' : b1 ≤ 9223372036854775807) (hb2 : -9223372036854775808 ≤ b2) (hb2' : b2 ≤ 9223372036854775807) (w : World) : Calls Try.prog 8 #[.agg #[.int .i64 u1, .int .i64 u2], .int .i64 d, .agg #[.int .i64 b1, .int .i64 b2]] w fun e w' => e = .returned (.bool true) ∧ Below w.heap.size w w' := by
  have M := i64_mask d 10 (by omega)
  have M1 := Int.emod_nonneg d (b := ((2 ^ 10 : Nat) : Int)) (by decide)
  have M2 := Int.emod_lt_of_pos d (b := ((2 ^ 10 : Nat) : Int)) (by decide)
  simp only [show ((2 ^ 10 - 1 : Nat) : Int) = 1023 from rfl, show ((2 ^ 10 : Nat) : Int) = 1024 from rfl] at M M1 M2
  generalize d % 1024 = D0 at M M1 M2
  obtain ⟨D, hD⟩ : ∃ D, D = D0 + 1 := ⟨_, rfl⟩
  obtain ⟨t1, t2⟩ := tmod_bd u1 100000 (by omega)
  obtain ⟨t3, t4⟩ := tmod_bd u2 100000 (by omega)
  obtain ⟨t5, t6⟩ := tmod_bd b1 4 (by omega)
  obtain ⟨t7, t8⟩ := tmod_bd b2 4 (by omega)
  obtain ⟨A1, hA1⟩ : ∃ A1, u1.tmod 100000 = A1 := ⟨_, rfl⟩
  obtain ⟨A2, hA2⟩ : ∃ A2, u2.tmod 100000 = A2 := ⟨_, rfl⟩
  obtain ⟨B1, hB1⟩ : ∃ B1, b1.tmod 4 = B1 := ⟨_, rfl⟩
  obtain ⟨B2, hB2⟩ : ∃ B2, b2.tmod 4 = B2 := ⟨_, rfl⟩
  rw [hA1] at t1 t2
  rw [hA2] at t3 t4
  rw [hB1] at t5 t6
  rw [hB2] at t7 t8
  obtain ⟨g1, g2, g3, g4⟩ := rd_bd A1 A2 D (by omega) (by omega) (by omega) (by omega) (by omega)
  have HX := rd_hexa A1 A2 D (by omega)
  have R1 := Lib.hid (eis_round_is A1 A2 D _ _ (by omega) (by omega) (by omega) (by omega) (by omega) (by omega) rfl rfl)
  generalize rdA A1 A2 D = Z1 at *
  generalize rdB A1 A2 D = Z2 at *
  have L := near_law _ _ D B1 B2 (by omega) HX (by omega) (by omega) (by omega) (by omega)
  obtain ⟨x1, x2, x3, x4, x5, x6⟩ := HX
  obtain ⟨y1, y2⟩ := mul_bd D B1 1024 4 (by omega) (by omega) (by omega) (by omega)
  obtain ⟨y3, y4⟩ := mul_bd D B2 1024 4 (by omega) (by omega) (by omega) (by omega)
  have f1 : A1 - D * (Z1 + B1) = A1 - D * Z1 - D * B1 := by rw [Int.mul_add]; omega
  have f2 : A2 - D * (Z2 + B2) = A2 - D * Z2 - D * B2 := by rw [Int.mul_add]; omega
  have N1 := far_any A1 A2 Z1 Z2 D 100000000 rfl (by omega) (by omega) (by omega) (by omega) (by omega) (by omega) (by omega) (by omega)
  have N2 := far_any A1 A2 (Z1 + B1) (Z2 + B2) D 100000000 rfl (by omega) (by omega) (by omega) (by omega) (by omega) (by omega) (by omega) (by omega)
  rw [f1, f2] at N2
  obtain ⟨n1, hn1⟩ : ∃ n1, nm (A1 - D * Z1) (A2 - D * Z2) = n1 := ⟨_, rfl⟩
  obtain ⟨n2, hn2⟩ : ∃ n2, nm (A1 - D * Z1 - D * B1) (A2 - D * Z2 - D * B2) = n2 := ⟨_, rfl⟩
  rw [hn1] at N1 L
  rw [hn2] at N2 L
  have H1 := Lib.hid N1
  have H2 := Lib.hid N2
  have e0 : D0 + 1 = D := hD.symm
  clear N1 N2 hn1 hn2 f1 f2 hD x1 x2 x3 x4 x5 x6 y1 y2 y3 y4 hu1 hu1' hu2 hu2' hb1 hb1' hb2 hb2' hd hd'
  rcases Int.lt_trichotomy B1 0 with hB | hB0 | hB
  · have L' : n1 < n2 := by omega
    clear L
    go_enter Try.func8, Try.ntmps8
    go_wp2_with fail
    refine calls_start (fun W => W.cell? ⟨w.heap.size, 0, none⟩ = some (.int .i64 A1) ∧ W.frozen? ⟨w.heap.size, 0, none⟩ = false ∧ W.cell? ⟨w.heap.size, 1, none⟩ = some (.int .i64 A2) ∧ W.frozen? ⟨w.heap.size, 1, none⟩ = false ∧ W.cell? ⟨w.heap.size + 1, 0, none⟩ = some (.int .i64 B1) ∧ W.frozen? ⟨w.heap.size + 1, 0, none⟩ = false ∧ W.cell? ⟨w.heap.size + 1, 1, none⟩ = some (.int .i64 B2) ∧ W.frozen? ⟨w.heap.size + 1, 1, none⟩ = false ∧ Below w.heap.size w W) ⟨by first | (simp [go_sem]; done), by first | (simp [go_sem]; done), by first | (simp [go_sem]; done), by first | (simp [go_sem]; done), by first | (simp [go_sem]; done), by first | (simp [go_sem]; done), by first | (simp [go_sem]; done), by first | (simp [go_sem]; done), by repeat (first | exact Below.refl _ _ | refine bl_alloc ?_ _ | refine bl_drewN ?_ _ | refine bl_drew ?_ | refine bl_set ?_ (by first | (simp; done) | (simp; omega) | omega) _ | refine below_step ?_ (by assumption) | refine below_step ?_ (Bw.below _))⟩ ?_
    rintro W ⟨hc1, fc1, hc2, fc2, hc3, fc3, hc4, fc4, hWc⟩ gc
    have c1 := Bw.hold hc1
    have cf1 := Bw.free hc1 fc1
    have c2 := Bw.hold hc2
    have cf2 := Bw.free hc2 fc2
    have c3 := Bw.hold hc3
    have cf3 := Bw.free hc3 fc3
    have c4 := Bw.hold hc4
    have cf4 := Bw.free hc4 fc4
    have cz1 := fun g : Bw W => cell_lt (c1 g)
    have cy1 := fun g : Bw W => Nat.le_of_lt (cz1 g)
    have cz3 := fun g : Bw W => cell_lt (c3 g)
    have cy3 := fun g : Bw W => Nat.le_of_lt (cz3 g)
    clear hc1 fc1 hc2 fc2 hc3 fc3 hc4 fc4
    refine (R1.out _).mono ?_
    rintro e_g2 w_g2 ⟨rfl, hb_g2⟩
    obtain ⟨g2, rfl⟩ := gc.next hb_g2
    clear hb_g2
    go_wp2_with fail
    refine calls_start (fun V => V.cell? ⟨w.heap.size, 0, none⟩ = some (.int .i64 A1) ∧ V.frozen? ⟨w.heap.size, 0, none⟩ = false ∧ V.cell? ⟨w.heap.size, 1, none⟩ = some (.int .i64 A2) ∧ V.frozen? ⟨w.heap.size, 1, none⟩ = false ∧ V.cell? ⟨w.heap.size + 1, 0, none⟩ = some (.int .i64 B1) ∧ V.frozen? ⟨w.heap.size + 1, 0, none⟩ = false ∧ V.cell? ⟨w.heap.size + 1, 1, none⟩ = some (.int .i64 B2) ∧ V.frozen? ⟨w.heap.size + 1, 1, none⟩ = false ∧ V.cell? ⟨g2.out.heap.size, 0, none⟩ = some (.int .i64 Z1) ∧ V.cell? ⟨g2.out.heap.size, 1, none⟩ = some (.int .i64 Z2) ∧ Below w.heap.size w V) ⟨by first | (simp [go_sem]; done) | with_reducible exact hold_al c1 _ _ | with_reducible exact hold_al c2 _ _ | with_reducible exact hold_al c3 _ _ | with_reducible exact hold_al c4 _ _ | (simp [go_sem, c1, cf1, c2, cf2, c3, cf3, c4, cf4, cz1, cy1, cz3, cy3]; done), by first | (simp [go_sem]; done) | with_reducible exact hold_alF c1 cf1 _ _ | with_reducible exact hold_alF c2 cf2 _ _ | with_reducible exact hold_alF c3 cf3 _ _ | with_reducible exact hold_alF c4 cf4 _ _ | (simp [go_sem, c1, cf1, c2, cf2, c3, cf3, c4, cf4, cz1, cy1, cz3, cy3]; done), by first | (simp [go_sem]; done) | with_reducible exact hold_al c1 _ _ | with_reducible exact hold_al c2 _ _ | with_reducible exact hold_al c3 _ _ | with_reducible exact hold_al c4 _ _ | (simp [go_sem, c1, cf1, c2, cf2, c3, cf3, c4, cf4, cz1, cy1, cz3, cy3]; done), by first | (simp [go_sem]; done) | with_reducible exact hold_alF c1 cf1 _ _ | with_reducible exact hold_alF c2 cf2 _ _ | with_reducible exact hold_alF c3 cf3 _ _ | with_reducible exact hold_alF c4 cf4 _ _ | (simp [go_sem, c1, cf1, c2, cf2, c3, cf3, c4, cf4, cz1, cy1, cz3, cy3]; done), by first | (simp [go_sem]; done) | with_reducible exact hold_al c1 _ _ | with_reducible exact hold_al c2 _ _ | with_reducible exact hold_al c3 _ _ | with_reducible exact hold_al c4 _ _ | (simp [go_sem, c1, cf1, c2, cf2, c3, cf3, c4, cf4, cz1, cy1, cz3, cy3]; done), by first | (simp [go_sem]; done) | with_reducible exact hold_alF c1 cf1 _ _ | with_reducible exact hold_alF c2 cf2 _ _ | with_reducible exact hold_alF c3 cf3 _ _ | with_reducible exact hold_alF c4 cf4 _ _ | (simp [go_sem, c1, cf1, c2, cf2, c3, cf3, c4, cf4, cz1, cy1, cz3, cy3]; done), by first | (simp [go_sem]; done) | with_reducible exact hold_al c1 _ _ | with_reducible exact hold_al c2 _ _ | with_reducible exact hold_al c3 _ _ | with_reducible exact hold_al c4 _ _ | (simp [go_sem, c1, cf1, c2, cf2, c3, cf3, c4, cf4, cz1, cy1, cz3, cy3]; done), by first | (simp [go_sem]; done) | with_reducible exact hold_alF c1 cf1 _ _ | with_reducible exact hold_alF c2 cf2 _ _ | with_reducible exact hold_alF c3 cf3 _ _ | with_reducible exact hold_alF c4 cf4 _ _ | (simp [go_sem, c1, cf1, c2, cf2, c3, cf3, c4, cf4, cz1, cy1, cz3, cy3]; done), by first | (simp [go_sem]; done) | with_reducible exact hold_al c1 _ _ | with_reducible exact hold_al c2 _ _ | with_reducible exact hold_al c3 _ _ | with_reducible exact hold_al c4 _ _ | (simp [go_sem, c1, cf1, c2, cf2, c3, cf3, c4, cf4, cz1, cy1, cz3, cy3]; done), by first | (simp [go_sem]; done) | with_reducible exact hold_al c1 _ _ | with_reducible exact hold_al c2 _ _ | with_reducible exact hold_al c3 _ _ | with_reducible exact hold_al c4 _ _ | (simp [go_sem, c1, cf1, c2, cf2, c3, cf3, c4, cf4, cz1, cy1, cz3, cy3]; done), by repeat (first | exact Below.refl _ _ | refine bl_alloc ?_ _ | refine bl_drewN ?_ _ | refine bl_drew ?_ | refine bl_set ?_ (by first | (simp; done) | (simp; omega) | omega) _ | refine below_step ?_ (by assumption) | refine below_step ?_ (Bw.below _))⟩ ?_
    rintro V ⟨hk1, fk1, hk2, fk2, hk3, fk3, hk4, fk4, hk5, hk6, hWk⟩ gk
    have k1 := Bw.hold hk1
    have kf1 := Bw.free hk1 fk1
    have k2 := Bw.hold hk2
    have kf2 := Bw.free hk2 fk2
    have k3 := Bw.hold hk3
    have kf3 := Bw.free hk3 fk3
    have k4 := Bw.hold hk4
    have kf4 := Bw.free hk4 fk4
    have k5 := Bw.hold hk5
    have k6 := Bw.hold hk6
    have kz1 := fun g : Bw V => cell_lt (k1 g)
    have ky1 := fun g : Bw V => Nat.le_of_lt (kz1 g)
    have kz3 := fun g : Bw V => cell_lt (k3 g)
    have ky3 := fun g : Bw V => Nat.le_of_lt (kz3 g)
    have kz5 := fun g : Bw V => cell_lt (k5 g)
    have ky5 := fun g : Bw V => Nat.le_of_lt (kz5 g)
    clear hk1 fk1 hk2 fk2 hk3 fk3 hk4 fk4 hk5 hk6
    clear c1 cf1 c2 cf2 c3 cf3 c4 cf4 cz1 cy1 cz3 cy3
    refine (H1.out _).mono ?_
    rintro e_g3 w_g3 ⟨rfl, hb_g3⟩
    obtain ⟨g3, rfl⟩ := gk.next hb_g3
    clear hb_g3
    go_wp2_with fail
    refine calls_start (fun X => X.cell? ⟨w.heap.size, 0, none⟩ = some (.int .i64 A1) ∧ X.frozen? ⟨w.heap.size, 0, none⟩ = false ∧ X.cell? ⟨w.heap.size, 1, none⟩ = some (.int .i64 A2) ∧ X.frozen? ⟨w.heap.size, 1, none⟩ = false ∧ X.cell? ⟨w.heap.size + 1, 0, none⟩ = some (.int .i64 B1) ∧ X.frozen? ⟨w.heap.size + 1, 0, none⟩ = false ∧ X.cell? ⟨w.heap.size + 1, 1, none⟩ = some (.int .i64 B2) ∧ X.frozen? ⟨w.heap.size + 1, 1, none⟩ = false ∧ X.cell? ⟨g2.out.heap.size, 0, none⟩ = some (.int .i64 Z1) ∧ X.cell? ⟨g2.out.heap.size, 1, none⟩ = some (.int .i64 Z2) ∧ X.cell? ⟨g3.out.heap.size, 0, none⟩ = some (.int .i64 (Z1 + B1)) ∧ X.cell? ⟨g3.out.heap.size, 1, none⟩ = some (.int .i64 (Z2 + B2)) ∧ Below w.heap.size w X) ⟨by first | (simp [go_sem]; done) | with_reducible exact hold_al k1 _ _ | with_reducible exact hold_al k2 _ _ | with_reducible exact hold_al k3 _ _ | with_reducible exact hold_al k4 _ _ | with_reducible exact hold_al k5 _ _ | with_reducible exact hold_al k6 _ _ | (simp [go_sem, k1, kf1, k2, kf2, k3, kf3, k4, kf4, k5, k6, kz1, ky1, kz3, ky3, kz5, ky5]; done), by first | (simp [go_sem]; done) | with_reducible exact hold_alF k1 kf1 _ _ | with_reducible exact hold_alF k2 kf2 _ _ | with_reducible exact hold_alF k3 kf3 _ _ | with_reducible exact hold_alF k4 kf4 _ _ | (simp [go_sem, k1, kf1, k2, kf2, k3, kf3, k4, kf4, k5, k6, kz1, ky1, kz3, ky3, kz5, ky5]; done), by first | (simp [go_sem]; done) | with_reducible exact hold_al k1 _ _ | with_reducible exact hold_al k2 _ _ | with_reducible exact hold_al k3 _ _ | with_reducible exact hold_al k4 _ _ | with_reducible exact hold_al k5 _ _ | with_reducible exact hold_al k6 _ _ | (simp [go_sem, k1, kf1, k2, kf2, k3, kf3, k4, kf4, k5, k6, kz1, ky1, kz3, ky3, kz5, ky5]; done), by first | (simp [go_sem]; done) | with_reducible exact hold_alF k1 kf1 _ _ | with_reducible exact hold_alF k2 kf2 _ _ | with_reducible exact hold_alF k3 kf3 _ _ | with_reducible exact hold_alF k4 kf4 _ _ | (simp [go_sem, k1, kf1, k2, kf2, k3, kf3, k4, kf4, k5, k6, kz1, ky1, kz3, ky3, kz5, ky5]; done), by first | (simp [go_sem]; done) | with_reducible exact hold_al k1 _ _ | with_reducible exact hold_al k2 _ _ | with_reducible exact hold_al k3 _ _ | with_reducible exact hold_al k4 _ _ | with_reducible exact hold_al k5 _ _ | with_reducible exact hold_al k6 _ _ | (simp [go_sem, k1, kf1, k2, kf2, k3, kf3, k4, kf4, k5, k6, kz1, ky1, kz3, ky3, kz5, ky5]; done), by first | (simp [go_sem]; done) | with_reducible exact hold_alF k1 kf1 _ _ | with_reducible exact hold_alF k2 kf2 _ _ | with_reducible exact hold_alF k3 kf3 _ _ | with_reducible exact hold_alF k4 kf4 _ _ | (simp [go_sem, k1, kf1, k2, kf2, k3, kf3, k4, kf4, k5, k6, kz1, ky1, kz3, ky3, kz5, ky5]; done), by first | (simp [go_sem]; done) | with_reducible exact hold_al k1 _ _ | with_reducible exact hold_al k2 _ _ | with_reducible exact hold_al k3 _ _ | with_reducible exact hold_al k4 _ _ | with_reducible exact hold_al k5 _ _ | with_reducible exact hold_al k6 _ _ | (simp [go_sem, k1, kf1, k2, kf2, k3, kf3, k4, kf4, k5, k6, kz1, ky1, kz3, ky3, kz5, ky5]; done), by first | (simp [go_sem]; done) | with_reducible exact hold_alF k1 kf1 _ _ | with_reducible exact hold_alF k2 kf2 _ _ | with_reducible exact hold_alF k3 kf3 _ _ | with_reducible exact hold_alF k4 kf4 _ _ | (simp [go_sem, k1, kf1, k2, kf2, k3, kf3, k4, kf4, k5, k6, kz1, ky1, kz3, ky3, kz5, ky5]; done), by first | (simp [go_sem]; done) | with_reducible exact hold_al k1 _ _ | with_reducible exact hold_al k2 _ _ | with_reducible exact hold_al k3 _ _ | with_reducible exact hold_al k4 _ _ | with_reducible exact hold_al k5 _ _ | with_reducible exact hold_al k6 _ _ | (simp [go_sem, k1, kf1, k2, kf2, k3, kf3, k4, kf4, k5, k6, kz1, ky1, kz3, ky3, kz5, ky5]; done), by first | (simp [go_sem]; done) | with_reducible exact hold_al k1 _ _ | with_reducible exact hold_al k2 _ _ | with_reducible exact hold_al k3 _ _ | with_reducible exact hold_al k4 _ _ | with_reducible exact hold_al k5 _ _ | with_reducible exact hold_al k6 _ _ | (simp [go_sem, k1, kf1, k2, kf2, k3, kf3, k4, kf4, k5, k6, kz1, ky1, kz3, ky3, kz5, ky5]; done), by first | (simp [go_sem]; done) | with_reducible exact hold_al k1 _ _ | with_reducible exact hold_al k2 _ _ | with_reducible exact hold_al k3 _ _ | with_reducible exact hold_al k4 _ _ | with_reducible exact hold_al k5 _ _ | with_reducible exact hold_al k6 _ _ | (simp [go_sem, k1, kf1, k2, kf2, k3, kf3, k4, kf4, k5, k6, kz1, ky1, kz3, ky3, kz5, ky5]; done), by first | (simp [go_sem]; done) | with_reducible exact hold_al k1 _ _ | with_reducible exact hold_al k2 _ _ | with_reducible exact hold_al k3 _ _ | with_reducible exact hold_al k4 _ _ | with_reducible exact hold_al k5 _ _ | with_reducible exact hold_al k6 _ _ | (simp [go_sem, k1, kf1, k2, kf2, k3, kf3, k4, kf4, k5, k6, kz1, ky1, kz3, ky3, kz5, ky5]; done), by repeat (first | exact Below.refl _ _ | refine bl_alloc ?_ _ | refine bl_drewN ?_ _ | refine bl_drew ?_ | refine bl_set ?_ (by first | (simp; done) | (simp; omega) | omega) _ | refine below_step ?_ (by assumption) | refine below_step ?_ (Bw.below _))⟩ ?_
    rintro X ⟨hl1, fl1, hl2, fl2, hl3, fl3, hl4, fl4, hl5, hl6, hl7, hl8, hWl⟩ gl
    have l1 := Bw.hold hl1
    have lf1 := Bw.free hl1 fl1
    have l2 := Bw.hold hl2
    have lf2 := Bw.free hl2 fl2
    have l3 := Bw.hold hl3
    have lf3 := Bw.free hl3 fl3
    have l4 := Bw.hold hl4
    have lf4 := Bw.free hl4 fl4
    have l5 := Bw.hold hl5
    have l6 := Bw.hold hl6
    have l7 := Bw.hold hl7
    have l8 := Bw.hold hl8
    have lz1 := fun g : Bw X => cell_lt (l1 g)
    have ly1 := fun g : Bw X => Nat.le_of_lt (lz1 g)
    have lz3 := fun g : Bw X => cell_lt (l3 g)
    have ly3 := fun g : Bw X => Nat.le_of_lt (lz3 g)
    have lz5 := fun g : Bw X => cell_lt (l5 g)
    have ly5 := fun g : Bw X => Nat.le_of_lt (lz5 g)
    have lz7 := fun g : Bw X => cell_lt (l7 g)
    have ly7 := fun g : Bw X => Nat.le_of_lt (lz7 g)
    clear hl1 fl1 hl2 fl2 hl3 fl3 hl4 fl4 hl5 hl6 hl7 hl8
    clear k1 kf1 k2 kf2 k3 kf3 k4 kf4 k5 k6 kz1 ky1 kz3 ky3 kz5 ky5
    refine (H2.out _).mono ?_
    rintro e_g4 w_g4 ⟨rfl, hb_g4⟩
    obtain ⟨g4, rfl⟩ := gl.next hb_g4
    clear hb_g4
    go_wp2_with fail
    refine (awake2 _).mono ?_
    rintro e_g5 w_g5 ⟨rfl, hb_g5⟩
    obtain ⟨g5, rfl⟩ := g4.next hb_g5
    clear hb_g5
    go_wp2_with fail
    go_ret
    exact ⟨rfl, by repeat (first | exact Below.refl _ _ | refine bl_alloc ?_ _ | refine bl_drewN ?_ _ | refine bl_drew ?_ | refine bl_set ?_ (by first | (simp; done) | (simp; omega) | omega) _ | refine below_step ?_ (by assumption) | refine below_step ?_ (Bw.below _))⟩
  · rcases Int.lt_or_le B2 0 with hC | hC
    · have L' : n1 < n2 := by omega
      clear L
      have HB := Lib.hid hB0
      clear hB0
      go_enter Try.func8, Try.ntmps8
      go_wp2_with fail
      refine calls_start (fun W => W.cell? ⟨w.heap.size, 0, none⟩ = some (.int .i64 A1) ∧ W.frozen? ⟨w.heap.size, 0, none⟩ = false ∧ W.cell? ⟨w.heap.size, 1, none⟩ = some (.int .i64 A2) ∧ W.frozen? ⟨w.heap.size, 1, none⟩ = false ∧ W.cell? ⟨w.heap.size + 1, 0, none⟩ = some (.int .i64 B1) ∧ W.frozen? ⟨w.heap.size + 1, 0, none⟩ = false ∧ W.cell? ⟨w.heap.size + 1, 1, none⟩ = some (.int .i64 B2) ∧ W.frozen? ⟨w.heap.size + 1, 1, none⟩ = false ∧ Below w.heap.size w W) ⟨by first | (simp [go_sem]; done), by first | (simp [go_sem]; done), by first | (simp [go_sem]; done), by first | (simp [go_sem]; done), by first | (simp [go_sem]; done), by first | (simp [go_sem]; done), by first | (simp [go_sem]; done), by first | (simp [go_sem]; done), by repeat (first | exact Below.refl _ _ | refine bl_alloc ?_ _ | refine bl_drewN ?_ _ | refine bl_drew ?_ | refine bl_set ?_ (by first | (simp; done) | (simp; omega) | omega) _ | refine below_step ?_ (by assumption) | refine below_step ?_ (Bw.below _))⟩ ?_
      rintro W ⟨hc1, fc1, hc2, fc2, hc3, fc3, hc4, fc4, hWc⟩ gc
      have c1 := Bw.hold hc1
      have cf1 := Bw.free hc1 fc1
      have c2 := Bw.hold hc2
      have cf2 := Bw.free hc2 fc2
      have c3 := Bw.hold hc3
      have cf3 := Bw.free hc3 fc3
      have c4 := Bw.hold hc4
      have cf4 := Bw.free hc4 fc4
      have cz1 := fun g : Bw W => cell_lt (c1 g)
      have cy1 := fun g : Bw W => Nat.le_of_lt (cz1 g)
      have cz3 := fun g : Bw W => cell_lt (c3 g)
      have cy3 := fun g : Bw W => Nat.le_of_lt (cz3 g)
      clear hc1 fc1 hc2 fc2 hc3 fc3 hc4 fc4
      refine (R1.out _).mono ?_
      rintro e_g2 w_g2 ⟨rfl, hb_g2⟩
      obtain ⟨g2, rfl⟩ := gc.next hb_g2
      clear hb_g2
      go_wp2_with fail
      refine calls_start (fun V => V.cell? ⟨w.heap.size, 0, none⟩ = some (.int .i64 A1) ∧ V.frozen? ⟨w.heap.size, 0, none⟩ = false ∧ V.cell? ⟨w.heap.size, 1, none⟩ = some (.int .i64 A2) ∧ V.frozen? ⟨w.heap.size, 1, none⟩ = false ∧ V.cell? ⟨w.heap.size + 1, 0, none⟩ = some (.int .i64 B1) ∧ V.frozen? ⟨w.heap.size + 1, 0, none⟩ = false ∧ V.cell? ⟨w.heap.size + 1, 1, none⟩ = some (.int .i64 B2) ∧ V.frozen? ⟨w.heap.size + 1, 1, none⟩ = false ∧ V.cell? ⟨g2.out.heap.size, 0, none⟩ = some (.int .i64 Z1) ∧ V.cell? ⟨g2.out.heap.size, 1, none⟩ = some (.int .i64 Z2) ∧ Below w.heap.size w V) ⟨by first | (simp [go_sem]; done) | with_reducible exact hold_al c1 _ _ | with_reducible exact hold_al c2 _ _ | with_reducible exact hold_al c3 _ _ | with_reducible exact hold_al c4 _ _ | (simp [go_sem, c1, cf1, c2, cf2, c3, cf3, c4, cf4, cz1, cy1, cz3, cy3]; done), by first | (simp [go_sem]; done) | with_reducible exact hold_alF c1 cf1 _ _ | with_reducible exact hold_alF c2 cf2 _ _ | with_reducible exact hold_alF c3 cf3 _ _ | with_reducible exact hold_alF c4 cf4 _ _ | (simp [go_sem, c1, cf1, c2, cf2, c3, cf3, c4, cf4, cz1, cy1, cz3, cy3]; done), by first | (simp [go_sem]; done) | with_reducible exact hold_al c1 _ _ | with_reducible exact hold_al c2 _ _ | with_reducible exact hold_al c3 _ _ | with_reducible exact hold_al c4 _ _ | (simp [go_sem, c1, cf1, c2, cf2, c3, cf3, c4, cf4, cz1, cy1, cz3, cy3]; done), by first | (simp [go_sem]; done) | with_reducible exact hold_alF c1 cf1 _ _ | with_reducible exact hold_alF c2 cf2 _ _ | with_reducible exact hold_alF c3 cf3 _ _ | with_reducible exact hold_alF c4 cf4 _ _ | (simp [go_sem, c1, cf1, c2, cf2, c3, cf3, c4, cf4, cz1, cy1, cz3, cy3]; done), by first | (simp [go_sem]; done) | with_reducible exact hold_al c1 _ _ | with_reducible exact hold_al c2 _ _ | with_reducible exact hold_al c3 _ _ | with_reducible exact hold_al c4 _ _ | (simp [go_sem, c1, cf1, c2, cf2, c3, cf3, c4, cf4, cz1, cy1, cz3, cy3]; done), by first | (simp [go_sem]; done) | with_reducible exact hold_alF c1 cf1 _ _ | with_reducible exact hold_alF c2 cf2 _ _ | with_reducible exact hold_alF c3 cf3 _ _ | with_reducible exact hold_alF c4 cf4 _ _ | (simp [go_sem, c1, cf1, c2, cf2, c3, cf3, c4, cf4, cz1, cy1, cz3, cy3]; done), by first | (simp [go_sem]; done) | with_reducible exact hold_al c1 _ _ | with_reducible exact hold_al c2 _ _ | with_reducible exact hold_al c3 _ _ | with_reducible exact hold_al c4 _ _ | (simp [go_sem, c1, cf1, c2, cf2, c3, cf3, c4, cf4, cz1, cy1, cz3, cy3]; done), by first | (simp [go_sem]; done) | with_reducible exact hold_alF c1 cf1 _ _ | with_reducible exact hold_alF c2 cf2 _ _ | with_reducible exact hold_alF c3 cf3 _ _ | with_reducible exact hold_alF c4 cf4 _ _ | (simp [go_sem, c1, cf1, c2, cf2, c3, cf3, c4, cf4, cz1, cy1, cz3, cy3]; done), by first | (simp [go_sem]; done) | with_reducible exact hold_al c1 _ _ | with_reducible exact hold_al c2 _ _ | with_reducible exact hold_al c3 _ _ | with_reducible exact hold_al c4 _ _ | (simp [go_sem, c1, cf1, c2, cf2, c3, cf3, c4, cf4, cz1, cy1, cz3, cy3]; done), by first | (simp [go_sem]; done) | with_reducible exact hold_al c1 _ _ | with_reducible exact hold_al c2 _ _ | with_reducible exact hold_al c3 _ _ | with_reducible exact hold_al c4 _ _ | (simp [go_sem, c1, cf1, c2, cf2, c3, cf3, c4, cf4, cz1, cy1, cz3, cy3]; done), by repeat (first | exact Below.refl _ _ | refine bl_alloc ?_ _ | refine bl_drewN ?_ _ | refine bl_drew ?_ | refine bl_set ?_ (by first | (simp; done) | (simp; omega) | omega) _ | refine below_step ?_ (by assumption) | refine below_step ?_ (Bw.below _))⟩ ?_
      rintro V ⟨hk1, fk1, hk2, fk2, hk3, fk3, hk4, fk4, hk5, hk6, hWk⟩ gk
      have k1 := Bw.hold hk1
      have kf1 := Bw.free hk1 fk1
      have k2 := Bw.hold hk2
      have kf2 := Bw.free hk2 fk2
      have k3 := Bw.hold hk3
      have kf3 := Bw.free hk3 fk3
      have k4 := Bw.hold hk4
      have kf4 := Bw.free hk4 fk4
      have k5 := Bw.hold hk5
      have k6 := Bw.hold hk6
      have kz1 := fun g : Bw V => cell_lt (k1 g)
      have ky1 := fun g : Bw V => Nat.le_of_lt (kz1 g)
      have kz3 := fun g : Bw V => cell_lt (k3 g)
      have ky3 := fun g : Bw V => Nat.le_of_lt (kz3 g)
      have kz5 := fun g : Bw V => cell_lt (k5 g)
      have ky5 := fun g : Bw V => Nat.le_of_lt (kz5 g)
      clear hk1 fk1 hk2 fk2 hk3 fk3 hk4 fk4 hk5 hk6
      clear c1 cf1 c2 cf2 c3 cf3 c4 cf4 cz1 cy1 cz3 cy3
      refine (H1.out _).mono ?_
      rintro e_g3 w_g3 ⟨rfl, hb_g3⟩
      obtain ⟨g3, rfl⟩ := gk.next hb_g3
      clear hb_g3
      go_wp2_with fail
      refine calls_start (fun X => X.cell? ⟨w.heap.size, 0, none⟩ = some (.int .i64 A1) ∧ X.frozen? ⟨w.heap.size, 0, none⟩ = false ∧ X.cell? ⟨w.heap.size, 1, none⟩ = some (.int .i64 A2) ∧ X.frozen? ⟨w.heap.size, 1, none⟩ = false ∧ X.cell? ⟨w.heap.size + 1, 0, none⟩ = some (.int .i64 B1) ∧ X.frozen? ⟨w.heap.size + 1, 0, none⟩ = false ∧ X.cell? ⟨w.heap.size + 1, 1, none⟩ = some (.int .i64 B2) ∧ X.frozen? ⟨w.heap.size + 1, 1, none⟩ = false ∧ X.cell? ⟨g2.out.heap.size, 0, none⟩ = some (.int .i64 Z1) ∧ X.cell? ⟨g2.out.heap.size, 1, none⟩ = some (.int .i64 Z2) ∧ X.cell? ⟨g3.out.heap.size, 0, none⟩ = some (.int .i64 (Z1 + B1)) ∧ X.cell? ⟨g3.out.heap.size, 1, none⟩ = some (.int .i64 (Z2 + B2)) ∧ Below w.heap.size w X) ⟨by first | (simp [go_sem]; done) | with_reducible exact hold_al k1 _ _ | with_reducible exact hold_al k2 _ _ | with_reducible exact hold_al k3 _ _ | with_reducible exact hold_al k4 _ _ | with_reducible exact hold_al k5 _ _ | with_reducible exact hold_al k6 _ _ | (simp [go_sem, k1, kf1, k2, kf2, k3, kf3, k4, kf4, k5, k6, kz1, ky1, kz3, ky3, kz5, ky5]; done), by first | (simp [go_sem]; done) | with_reducible exact hold_alF k1 kf1 _ _ | with_reducible exact hold_alF k2 kf2 _ _ | with_reducible exact hold_alF k3 kf3 _ _ | with_reducible exact hold_alF k4 kf4 _ _ | (simp [go_sem, k1, kf1, k2, kf2, k3, kf3, k4, kf4, k5, k6, kz1, ky1, kz3, ky3, kz5, ky5]; done), by first | (simp [go_sem]; done) | with_reducible exact hold_al k1 _ _ | with_reducible exact hold_al k2 _ _ | with_reducible exact hold_al k3 _ _ | with_reducible exact hold_al k4 _ _ | with_reducible exact hold_al k5 _ _ | with_reducible exact hold_al k6 _ _ | (simp [go_sem, k1, kf1, k2, kf2, k3, kf3, k4, kf4, k5, k6, kz1, ky1, kz3, ky3, kz5, ky5]; done), by first | (simp [go_sem]; done) | with_reducible exact hold_alF k1 kf1 _ _ | with_reducible exact hold_alF k2 kf2 _ _ | with_reducible exact hold_alF k3 kf3 _ _ | with_reducible exact hold_alF k4 kf4 _ _ | (simp [go_sem, k1, kf1, k2, kf2, k3, kf3, k4, kf4, k5, k6, kz1, ky1, kz3, ky3, kz5, ky5]; done), by first | (simp [go_sem]; done) | with_reducible exact hold_al k1 _ _ | with_reducible exact hold_al k2 _ _ | with_reducible exact hold_al k3 _ _ | with_reducible exact hold_al k4 _ _ | with_reducible exact hold_al k5 _ _ | with_reducible exact hold_al k6 _ _ | (simp [go_sem, k1, kf1, k2, kf2, k3, kf3, k4, kf4, k5, k6, kz1, ky1, kz3, ky3, kz5, ky5]; done), by first | (simp [go_sem]; done) | with_reducible exact hold_alF k1 kf1 _ _ | with_reducible exact hold_alF k2 kf2 _ _ | with_reducible exact hold_alF k3 kf3 _ _ | with_reducible exact hold_alF k4 kf4 _ _ | (simp [go_sem, k1, kf1, k2, kf2, k3, kf3, k4, kf4, k5, k6, kz1, ky1, kz3, ky3, kz5, ky5]; done), by first | (simp [go_sem]; done) | with_reducible exact hold_al k1 _ _ | with_reducible exact hold_al k2 _ _ | with_reducible exact hold_al k3 _ _ | with_reducible exact hold_al k4 _ _ | with_reducible exact hold_al k5 _ _ | with_reducible exact hold_al k6 _ _ | (simp [go_sem, k1, kf1, k2, kf2, k3, kf3, k4, kf4, k5, k6, kz1, ky1, kz3, ky3, kz5, ky5]; done), by first | (simp [go_sem]; done) | with_reducible exact hold_alF k1 kf1 _ _ | with_reducible exact hold_alF k2 kf2 _ _ | with_reducible exact hold_alF k3 kf3 _ _ | with_reducible exact hold_alF k4 kf4 _ _ | (simp [go_sem, k1, kf1, k2, kf2, k3, kf3, k4, kf4, k5, k6, kz1, ky1, kz3, ky3, kz5, ky5]; done), by first | (simp [go_sem]; done) | with_reducible exact hold_al k1 _ _ | with_reducible exact hold_al k2 _ _ | with_reducible exact hold_al k3 _ _ | with_reducible exact hold_al k4 _ _ | with_reducible exact hold_al k5 _ _ | with_reducible exact hold_al k6 _ _ | (simp [go_sem, k1, kf1, k2, kf2, k3, kf3, k4, kf4, k5, k6, kz1, ky1, kz3, ky3, kz5, ky5]; done), by first | (simp [go_sem]; done) | with_reducible exact hold_al k1 _ _ | with_reducible exact hold_al k2 _ _ | with_reducible exact hold_al k3 _ _ | with_reducible exact hold_al k4 _ _ | with_reducible exact hold_al k5 _ _ | with_reducible exact hold_al k6 _ _ | (simp [go_sem, k1, kf1, k2, kf2, k3, kf3, k4, kf4, k5, k6, kz1, ky1, kz3, ky3, kz5, ky5]; done), by first | (simp [go_sem]; done) | with_reducible exact hold_al k1 _ _ | with_reducible exact hold_al k2 _ _ | with_reducible exact hold_al k3 _ _ | with_reducible exact hold_al k4 _ _ | with_reducible exact hold_al k5 _ _ | with_reducible exact hold_al k6 _ _ | (simp [go_sem, k1, kf1, k2, kf2, k3, kf3, k4, kf4, k5, k6, kz1, ky1, kz3, ky3, kz5, ky5]; done), by first | (simp [go_sem]; done) | with_reducible exact hold_al k1 _ _ | with_reducible exact hold_al k2 _ _ | with_reducible exact hold_al k3 _ _ | with_reducible exact hold_al k4 _ _ | with_reducible exact hold_al k5 _ _ | with_reducible exact hold_al k6 _ _ | (simp [go_sem, k1, kf1, k2, kf2, k3, kf3, k4, kf4, k5, k6, kz1, ky1, kz3, ky3, kz5, ky5]; done), by repeat (first | exact Below.refl _ _ | refine bl_alloc ?_ _ | refine bl_drewN ?_ _ | refine bl_drew ?_ | refine bl_set ?_ (by first | (simp; done) | (simp; omega) | omega) _ | refine below_step ?_ (by assumption) | refine below_step ?_ (Bw.below _))⟩ ?_
      rintro X ⟨hl1, fl1, hl2, fl2, hl3, fl3, hl4, fl4, hl5, hl6, hl7, hl8, hWl⟩ gl
      have l1 := Bw.hold hl1
      have lf1 := Bw.free hl1 fl1
      have l2 := Bw.hold hl2
      have lf2 := Bw.free hl2 fl2
      have l3 := Bw.hold hl3
      have lf3 := Bw.free hl3 fl3
      have l4 := Bw.hold hl4
      have lf4 := Bw.free hl4 fl4
      have l5 := Bw.hold hl5
      have l6 := Bw.hold hl6
      have l7 := Bw.hold hl7
      have l8 := Bw.hold hl8
      have lz1 := fun g : Bw X => cell_lt (l1 g)
      have ly1 := fun g : Bw X => Nat.le_of_lt (lz1 g)
      have lz3 := fun g : Bw X => cell_lt (l3 g)
      have ly3 := fun g : Bw X => Nat.le_of_lt (lz3 g)
      have lz5 := fun g : Bw X => cell_lt (l5 g)
      have ly5 := fun g : Bw X => Nat.le_of_lt (lz5 g)
      have lz7 := fun g : Bw X => cell_lt (l7 g)
      have ly7 := fun g : Bw X => Nat.le_of_lt (lz7 g)
      clear hl1 fl1 hl2 fl2 hl3 fl3 hl4 fl4 hl5 hl6 hl7 hl8
      clear k1 kf1 k2 kf2 k3 kf3 k4 kf4 k5 k6 kz1 ky1 kz3 ky3 kz5 ky5
      have hB0 := HB.out
      subst hB0
      refine (H2.out _).mono ?_
      rintro e_g4 w_g4 ⟨rfl, hb_g4⟩
      obtain ⟨g4, rfl⟩ := gl.next hb_g4
      clear hb_g4
      go_wp2_with fail
      refine (awake2 _).mono ?_
      rintro e_g5 w_g5 ⟨rfl, hb_g5⟩
      obtain ⟨g5, rfl⟩ := g4.next hb_g5
      clear hb_g5
      go_wp2_with fail
      go_ret
      exact ⟨rfl, by repeat (first | exact Below.refl _ _ | refine bl_alloc ?_ _ | refine bl_drewN ?_ _ | refine bl_drew ?_ | refine bl_set ?_ (by first | (simp; done) | (simp; omega) | omega) _ | refine below_step ?_ (by assumption) | refine below_step ?_ (Bw.below _))⟩
    · rcases Int.lt_or_le n1 n2 with L' | L'
      · clear L
        have HB := Lib.hid hB0
        clear hB0
        go_enter Try.func8, Try.ntmps8
        go_wp2_with fail
        refine calls_start (fun W => W.cell? ⟨w.heap.size, 0, none⟩ = some (.int .i64 A1) ∧ W.frozen? ⟨w.heap.size, 0, none⟩ = false ∧ W.cell? ⟨w.heap.size, 1, none⟩ = some (.int .i64 A2) ∧ W.frozen? ⟨w.heap.size, 1, none⟩ = false ∧ W.cell? ⟨w.heap.size + 1, 0, none⟩ = some (.int .i64 B1) ∧ W.frozen? ⟨w.heap.size + 1, 0, none⟩ = false ∧ W.cell? ⟨w.heap.size + 1, 1, none⟩ = some (.int .i64 B2) ∧ W.frozen? ⟨w.heap.size + 1, 1, none⟩ = false ∧ Below w.heap.size w W) ⟨by first | (simp [go_sem]; done), by first | (simp [go_sem]; done), by first | (simp [go_sem]; done), by first | (simp [go_sem]; done), by first | (simp [go_sem]; done), by first | (simp [go_sem]; done), by first | (simp [go_sem]; done), by first | (simp [go_sem]; done), by repeat (first | exact Below.refl _ _ | refine bl_alloc ?_ _ | refine bl_drewN ?_ _ | refine bl_drew ?_ | refine bl_set ?_ (by first | (simp; done) | (simp; omega) | omega) _ | refine below_step ?_ (by assumption) | refine below_step ?_ (Bw.below _))⟩ ?_
        rintro W ⟨hc1, fc1, hc2, fc2, hc3, fc3, hc4, fc4, hWc⟩ gc
        have c1 := Bw.hold hc1
        have cf1 := Bw.free hc1 fc1
        have c2 := Bw.hold hc2
        have cf2 := Bw.free hc2 fc2
        have c3 := Bw.hold hc3
        have cf3 := Bw.free hc3 fc3
        have c4 := Bw.hold hc4
        have cf4 := Bw.free hc4 fc4
        have cz1 := fun g : Bw W => cell_lt (c1 g)
        have cy1 := fun g : Bw W => Nat.le_of_lt (cz1 g)
        have cz3 := fun g : Bw W => cell_lt (c3 g)
        have cy3 := fun g : Bw W => Nat.le_of_lt (cz3 g)
        clear hc1 fc1 hc2 fc2 hc3 fc3 hc4 fc4
        refine (R1.out _).mono ?_
        rintro e_g2 w_g2 ⟨rfl, hb_g2⟩
        obtain ⟨g2, rfl⟩ := gc.next hb_g2
        clear hb_g2
        go_wp2_with fail
        refine calls_start (fun V => V.cell? ⟨w.heap.size, 0, none⟩ = some (.int .i64 A1) ∧ V.frozen? ⟨w.heap.size, 0, none⟩ = false ∧ V.cell? ⟨w.heap.size, 1, none⟩ = some (.int .i64 A2) ∧ V.frozen? ⟨w.heap.size, 1, none⟩ = false ∧ V.cell? ⟨w.heap.size + 1, 0, none⟩ = some (.int .i64 B1) ∧ V.frozen? ⟨w.heap.size + 1, 0, none⟩ = false ∧ V.cell? ⟨w.heap.size + 1, 1, none⟩ = some (.int .i64 B2) ∧ V.frozen? ⟨w.heap.size + 1, 1, none⟩ = false ∧ V.cell? ⟨g2.out.heap.size, 0, none⟩ = some (.int .i64 Z1) ∧ V.cell? ⟨g2.out.heap.size, 1, none⟩ = some (.int .i64 Z2) ∧ Below w.heap.size w V) ⟨by first | (simp [go_sem]; done) | with_reducible exact hold_al c1 _ _ | with_reducible exact hold_al c2 _ _ | with_reducible exact hold_al c3 _ _ | with_reducible exact hold_al c4 _ _ | (simp [go_sem, c1, cf1, c2, cf2, c3, cf3, c4, cf4, cz1, cy1, cz3, cy3]; done), by first | (simp [go_sem]; done) | with_reducible exact hold_alF c1 cf1 _ _ | with_reducible exact hold_alF c2 cf2 _ _ | with_reducible exact hold_alF c3 cf3 _ _ | with_reducible exact hold_alF c4 cf4 _ _ | (simp [go_sem, c1, cf1, c2, cf2, c3, cf3, c4, cf4, cz1, cy1, cz3, cy3]; done), by first | (simp [go_sem]; done) | with_reducible exact hold_al c1 _ _ | with_reducible exact hold_al c2 _ _ | with_reducible exact hold_al c3 _ _ | with_reducible exact hold_al c4 _ _ | (simp [go_sem, c1, cf1, c2, cf2, c3, cf3, c4, cf4, cz1, cy1, cz3, cy3]; done), by first | (simp [go_sem]; done) | with_reducible exact hold_alF c1 cf1 _ _ | with_reducible exact hold_alF c2 cf2 _ _ | with_reducible exact hold_alF c3 cf3 _ _ | with_reducible exact hold_alF c4 cf4 _ _ | (simp [go_sem, c1, cf1, c2, cf2, c3, cf3, c4, cf4, cz1, cy1, cz3, cy3]; done), by first | (simp [go_sem]; done) | with_reducible exact hold_al c1 _ _ | with_reducible exact hold_al c2 _ _ | with_reducible exact hold_al c3 _ _ | with_reducible exact hold_al c4 _ _ | (simp [go_sem, c1, cf1, c2, cf2, c3, cf3, c4, cf4, cz1, cy1, cz3, cy3]; done), by first | (simp [go_sem]; done) | with_reducible exact hold_alF c1 cf1 _ _ | with_reducible exact hold_alF c2 cf2 _ _ | with_reducible exact hold_alF c3 cf3 _ _ | with_reducible exact hold_alF c4 cf4 _ _ | (simp [go_sem, c1, cf1, c2, cf2, c3, cf3, c4, cf4, cz1, cy1, cz3, cy3]; done), by first | (simp [go_sem]; done) | with_reducible exact hold_al c1 _ _ | with_reducible exact hold_al c2 _ _ | with_reducible exact hold_al c3 _ _ | with_reducible exact hold_al c4 _ _ | (simp [go_sem, c1, cf1, c2, cf2, c3, cf3, c4, cf4, cz1, cy1, cz3, cy3]; done), by first | (simp [go_sem]; done) | with_reducible exact hold_alF c1 cf1 _ _ | with_reducible exact hold_alF c2 cf2 _ _ | with_reducible exact hold_alF c3 cf3 _ _ | with_reducible exact hold_alF c4 cf4 _ _ | (simp [go_sem, c1, cf1, c2, cf2, c3, cf3, c4, cf4, cz1, cy1, cz3, cy3]; done), by first | (simp [go_sem]; done) | with_reducible exact hold_al c1 _ _ | with_reducible exact hold_al c2 _ _ | with_reducible exact hold_al c3 _ _ | with_reducible exact hold_al c4 _ _ | (simp [go_sem, c1, cf1, c2, cf2, c3, cf3, c4, cf4, cz1, cy1, cz3, cy3]; done), by first | (simp [go_sem]; done) | with_reducible exact hold_al c1 _ _ | with_reducible exact hold_al c2 _ _ | with_reducible exact hold_al c3 _ _ | with_reducible exact hold_al c4 _ _ | (simp [go_sem, c1, cf1, c2, cf2, c3, cf3, c4, cf4, cz1, cy1, cz3, cy3]; done), by repeat (first | exact Below.refl _ _ | refine bl_alloc ?_ _ | refine bl_drewN ?_ _ | refine bl_drew ?_ | refine bl_set ?_ (by first | (simp; done) | (simp; omega) | omega) _ | refine below_step ?_ (by assumption) | refine below_step ?_ (Bw.below _))⟩ ?_
        rintro V ⟨hk1, fk1, hk2, fk2, hk3, fk3, hk4, fk4, hk5, hk6, hWk⟩ gk
        have k1 := Bw.hold hk1
        have kf1 := Bw.free hk1 fk1
        have k2 := Bw.hold hk2
        have kf2 := Bw.free hk2 fk2
        have k3 := Bw.hold hk3
        have kf3 := Bw.free hk3 fk3
        have k4 := Bw.hold hk4
        have kf4 := Bw.free hk4 fk4
        have k5 := Bw.hold hk5
        have k6 := Bw.hold hk6
        have kz1 := fun g : Bw V => cell_lt (k1 g)
        have ky1 := fun g : Bw V => Nat.le_of_lt (kz1 g)
        have kz3 := fun g : Bw V => cell_lt (k3 g)
        have ky3 := fun g : Bw V => Nat.le_of_lt (kz3 g)
        have kz5 := fun g : Bw V => cell_lt (k5 g)
        have ky5 := fun g : Bw V => Nat.le_of_lt (kz5 g)
        clear hk1 fk1 hk2 fk2 hk3 fk3 hk4 fk4 hk5 hk6
        clear c1 cf1 c2 cf2 c3 cf3 c4 cf4 cz1 cy1 cz3 cy3
        refine (H1.out _).mono ?_
        rintro e_g3 w_g3 ⟨rfl, hb_g3⟩
        obtain ⟨g3, rfl⟩ := gk.next hb_g3
        clear hb_g3
        go_wp2_with fail
        refine calls_start (fun X => X.cell? ⟨w.heap.size, 0, none⟩ = some (.int .i64 A1) ∧ X.frozen? ⟨w.heap.size, 0, none⟩ = false ∧ X.cell? ⟨w.heap.size, 1, none⟩ = some (.int .i64 A2) ∧ X.frozen? ⟨w.heap.size, 1, none⟩ = false ∧ X.cell? ⟨w.heap.size + 1, 0, none⟩ = some (.int .i64 B1) ∧ X.frozen? ⟨w.heap.size + 1, 0, none⟩ = false ∧ X.cell? ⟨w.heap.size + 1, 1, none⟩ = some (.int .i64 B2) ∧ X.frozen? ⟨w.heap.size + 1, 1, none⟩ = false ∧ X.cell? ⟨g2.out.heap.size, 0, none⟩ = some (.int .i64 Z1) ∧ X.cell? ⟨g2.out.heap.size, 1, none⟩ = some (.int .i64 Z2) ∧ X.cell? ⟨g3.out.heap.size, 0, none⟩ = some (.int .i64 (Z1 + B1)) ∧ X.cell? ⟨g3.out.heap.size, 1, none⟩ = some (.int .i64 (Z2 + B2)) ∧ Below w.heap.size w X) ⟨by first | (simp [go_sem]; done) | with_reducible exact hold_al k1 _ _ | with_reducible exact hold_al k2 _ _ | with_reducible exact hold_al k3 _ _ | with_reducible exact hold_al k4 _ _ | with_reducible exact hold_al k5 _ _ | with_reducible exact hold_al k6 _ _ | (simp [go_sem, k1, kf1, k2, kf2, k3, kf3, k4, kf4, k5, k6, kz1, ky1, kz3, ky3, kz5, ky5]; done), by first | (simp [go_sem]; done) | with_reducible exact hold_alF k1 kf1 _ _ | with_reducible exact hold_alF k2 kf2 _ _ | with_reducible exact hold_alF k3 kf3 _ _ | with_reducible exact hold_alF k4 kf4 _ _ | (simp [go_sem, k1, kf1, k2, kf2, k3, kf3, k4, kf4, k5, k6, kz1, ky1, kz3, ky3, kz5, ky5]; done), by first | (simp [go_sem]; done) | with_reducible exact hold_al k1 _ _ | with_reducible exact hold_al k2 _ _ | with_reducible exact hold_al k3 _ _ | with_reducible exact hold_al k4 _ _ | with_reducible exact hold_al k5 _ _ | with_reducible exact hold_al k6 _ _ | (simp [go_sem, k1, kf1, k2, kf2, k3, kf3, k4, kf4, k5, k6, kz1, ky1, kz3, ky3, kz5, ky5]; done), by first | (simp [go_sem]; done) | with_reducible exact hold_alF k1 kf1 _ _ | with_reducible exact hold_alF k2 kf2 _ _ | with_reducible exact hold_alF k3 kf3 _ _ | with_reducible exact hold_alF k4 kf4 _ _ | (simp [go_sem, k1, kf1, k2, kf2, k3, kf3, k4, kf4, k5, k6, kz1, ky1, kz3, ky3, kz5, ky5]; done), by first | (simp [go_sem]; done) | with_reducible exact hold_al k1 _ _ | with_reducible exact hold_al k2 _ _ | with_reducible exact hold_al k3 _ _ | with_reducible exact hold_al k4 _ _ | with_reducible exact hold_al k5 _ _ | with_reducible exact hold_al k6 _ _ | (simp [go_sem, k1, kf1, k2, kf2, k3, kf3, k4, kf4, k5, k6, kz1, ky1, kz3, ky3, kz5, ky5]; done), by first | (simp [go_sem]; done) | with_reducible exact hold_alF k1 kf1 _ _ | with_reducible exact hold_alF k2 kf2 _ _ | with_reducible exact hold_alF k3 kf3 _ _ | with_reducible exact hold_alF k4 kf4 _ _ | (simp [go_sem, k1, kf1, k2, kf2, k3, kf3, k4, kf4, k5, k6, kz1, ky1, kz3, ky3, kz5, ky5]; done), by first | (simp [go_sem]; done) | with_reducible exact hold_al k1 _ _ | with_reducible exact hold_al k2 _ _ | with_reducible exact hold_al k3 _ _ | with_reducible exact hold_al k4 _ _ | with_reducible exact hold_al k5 _ _ | with_reducible exact hold_al k6 _ _ | (simp [go_sem, k1, kf1, k2, kf2, k3, kf3, k4, kf4, k5, k6, kz1, ky1, kz3, ky3, kz5, ky5]; done), by first | (simp [go_sem]; done) | with_reducible exact hold_alF k1 kf1 _ _ | with_reducible exact hold_alF k2 kf2 _ _ | with_reducible exact hold_alF k3 kf3 _ _ | with_reducible exact hold_alF k4 kf4 _ _ | (simp [go_sem, k1, kf1, k2, kf2, k3, kf3, k4, kf4, k5, k6, kz1, ky1, kz3, ky3, kz5, ky5]; done), by first | (simp [go_sem]; done) | with_reducible exact hold_al k1 _ _ | with_reducible exact hold_al k2 _ _ | with_reducible exact hold_al k3 _ _ | with_reducible exact hold_al k4 _ _ | with_reducible exact hold_al k5 _ _ | with_reducible exact hold_al k6 _ _ | (simp [go_sem, k1, kf1, k2, kf2, k3, kf3, k4, kf4, k5, k6, kz1, ky1, kz3, ky3, kz5, ky5]; done), by first | (simp [go_sem]; done) | with_reducible exact hold_al k1 _ _ | with_reducible exact hold_al k2 _ _ | with_reducible exact hold_al k3 _ _ | with_reducible exact hold_al k4 _ _ | with_reducible exact hold_al k5 _ _ | with_reducible exact hold_al k6 _ _ | (simp [go_sem, k1, kf1, k2, kf2, k3, kf3, k4, kf4, k5, k6, kz1, ky1, kz3, ky3, kz5, ky5]; done), by first | (simp [go_sem]; done) | with_reducible exact hold_al k1 _ _ | with_reducible exact hold_al k2 _ _ | with_reducible exact hold_al k3 _ _ | with_reducible exact hold_al k4 _ _ | with_reducible exact hold_al k5 _ _ | with_reducible exact hold_al k6 _ _ | (simp [go_sem, k1, kf1, k2, kf2, k3, kf3, k4, kf4, k5, k6, kz1, ky1, kz3, ky3, kz5, ky5]; done), by first | (simp [go_sem]; done) | with_reducible exact hold_al k1 _ _ | with_reducible exact hold_al k2 _ _ | with_reducible exact hold_al k3 _ _ | with_reducible exact hold_al k4 _ _ | with_reducible exact hold_al k5 _ _ | with_reducible exact hold_al k6 _ _ | (simp [go_sem, k1, kf1, k2, kf2, k3, kf3, k4, kf4, k5, k6, kz1, ky1, kz3, ky3, kz5, ky5]; done), by repeat (first | exact Below.refl _ _ | refine bl_alloc ?_ _ | refine bl_drewN ?_ _ | refine bl_drew ?_ | refine bl_set ?_ (by first | (simp; done) | (simp; omega) | omega) _ | refine below_step ?_ (by assumption) | refine below_step ?_ (Bw.below _))⟩ ?_
        rintro X ⟨hl1, fl1, hl2, fl2, hl3, fl3, hl4, fl4, hl5, hl6, hl7, hl8, hWl⟩ gl
        have l1 := Bw.hold hl1
        have lf1 := Bw.free hl1 fl1
        have l2 := Bw.hold hl2
        have lf2 := Bw.free hl2 fl2
        have l3 := Bw.hold hl3
        have lf3 := Bw.free hl3 fl3
        have l4 := Bw.hold hl4
        have lf4 := Bw.free hl4 fl4
        have l5 := Bw.hold hl5
        have l6 := Bw.hold hl6
        have l7 := Bw.hold hl7
        have l8 := Bw.hold hl8
        have lz1 := fun g : Bw X => cell_lt (l1 g)
        have ly1 := fun g : Bw X => Nat.le_of_lt (lz1 g)
        have lz3 := fun g : Bw X => cell_lt (l3 g)
        have ly3 := fun g : Bw X => Nat.le_of_lt (lz3 g)
        have lz5 := fun g : Bw X => cell_lt (l5 g)
        have ly5 := fun g : Bw X => Nat.le_of_lt (lz5 g)
        have lz7 := fun g : Bw X => cell_lt (l7 g)
        have ly7 := fun g : Bw X => Nat.le_of_lt (lz7 g)
        clear hl1 fl1 hl2 fl2 hl3 fl3 hl4 fl4 hl5 hl6 hl7 hl8
        clear k1 kf1 k2 kf2 k3 kf3 k4 kf4 k5 k6 kz1 ky1 kz3 ky3 kz5 ky5
        have hB0 := HB.out
        subst hB0
        refine (H2.out _).mono ?_
        rintro e_g4 w_g4 ⟨rfl, hb_g4⟩
        obtain ⟨g4, rfl⟩ := gl.next hb_g4
        clear hb_g4
        go_wp2_with fail
        refine (awake2 _).mono ?_
        rintro e_g5 w_g5 ⟨rfl, hb_g5⟩
        obtain ⟨g5, rfl⟩ := g4.next hb_g5
        clear hb_g5
        go_wp2_with fail
        go_ret
        exact ⟨rfl, by repeat (first | exact Below.refl _ _ | refine bl_alloc ?_ _ | refine bl_drewN ?_ _ | refine bl_drew ?_ | refine bl_set ?_ (by first | (simp; done) | (simp; omega) | omega) _ | refine below_step ?_ (by assumption) | refine below_step ?_ (Bw.below _))⟩
      · obtain rfl : n1 = n2 := by omega
        clear L L'
        have HB := Lib.hid hB0
        clear hB0
        go_enter Try.func8, Try.ntmps8
        go_wp2_with fail
        refine calls_start (fun W => W.cell? ⟨w.heap.size, 0, none⟩ = some (.int .i64 A1) ∧ W.frozen? ⟨w.heap.size, 0, none⟩ = false ∧ W.cell? ⟨w.heap.size, 1, none⟩ = some (.int .i64 A2) ∧ W.frozen? ⟨w.heap.size, 1, none⟩ = false ∧ W.cell? ⟨w.heap.size + 1, 0, none⟩ = some (.int .i64 B1) ∧ W.frozen? ⟨w.heap.size + 1, 0, none⟩ = false ∧ W.cell? ⟨w.heap.size + 1, 1, none⟩ = some (.int .i64 B2) ∧ W.frozen? ⟨w.heap.size + 1, 1, none⟩ = false ∧ Below w.heap.size w W) ⟨by first | (simp [go_sem]; done), by first | (simp [go_sem]; done), by first | (simp [go_sem]; done), by first | (simp [go_sem]; done), by first | (simp [go_sem]; done), by first | (simp [go_sem]; done), by first | (simp [go_sem]; done), by first | (simp [go_sem]; done), by repeat (first | exact Below.refl _ _ | refine bl_alloc ?_ _ | refine bl_drewN ?_ _ | refine bl_drew ?_ | refine bl_set ?_ (by first | (simp; done) | (simp; omega) | omega) _ | refine below_step ?_ (by assumption) | refine below_step ?_ (Bw.below _))⟩ ?_
        rintro W ⟨hc1, fc1, hc2, fc2, hc3, fc3, hc4, fc4, hWc⟩ gc
        have c1 := Bw.hold hc1
        have cf1 := Bw.free hc1 fc1
        have c2 := Bw.hold hc2
        have cf2 := Bw.free hc2 fc2
        have c3 := Bw.hold hc3
        have cf3 := Bw.free hc3 fc3
        have c4 := Bw.hold hc4
        have cf4 := Bw.free hc4 fc4
        have cz1 := fun g : Bw W => cell_lt (c1 g)
        have cy1 := fun g : Bw W => Nat.le_of_lt (cz1 g)
        have cz3 := fun g : Bw W => cell_lt (c3 g)
        have cy3 := fun g : Bw W => Nat.le_of_lt (cz3 g)
        clear hc1 fc1 hc2 fc2 hc3 fc3 hc4 fc4
        refine (R1.out _).mono ?_
        rintro e_g2 w_g2 ⟨rfl, hb_g2⟩
        obtain ⟨g2, rfl⟩ := gc.next hb_g2
        clear hb_g2
        go_wp2_with fail
        refine calls_start (fun V => V.cell? ⟨w.heap.size, 0, none⟩ = some (.int .i64 A1) ∧ V.frozen? ⟨w.heap.size, 0, none⟩ = false ∧ V.cell? ⟨w.heap.size, 1, none⟩ = some (.int .i64 A2) ∧ V.frozen? ⟨w.heap.size, 1, none⟩ = false ∧ V.cell? ⟨w.heap.size + 1, 0, none⟩ = some (.int .i64 B1) ∧ V.frozen? ⟨w.heap.size + 1, 0, none⟩ = false ∧ V.cell? ⟨w.heap.size + 1, 1, none⟩ = some (.int .i64 B2) ∧ V.frozen? ⟨w.heap.size + 1, 1, none⟩ = false ∧ V.cell? ⟨g2.out.heap.size, 0, none⟩ = some (.int .i64 Z1) ∧ V.cell? ⟨g2.out.heap.size, 1, none⟩ = some (.int .i64 Z2) ∧ Below w.heap.size w V) ⟨by first | (simp [go_sem]; done) | with_reducible exact hold_al c1 _ _ | with_reducible exact hold_al c2 _ _ | with_reducible exact hold_al c3 _ _ | with_reducible exact hold_al c4 _ _ | (simp [go_sem, c1, cf1, c2, cf2, c3, cf3, c4, cf4, cz1, cy1, cz3, cy3]; done), by first | (simp [go_sem]; done) | with_reducible exact hold_alF c1 cf1 _ _ | with_reducible exact hold_alF c2 cf2 _ _ | with_reducible exact hold_alF c3 cf3 _ _ | with_reducible exact hold_alF c4 cf4 _ _ | (simp [go_sem, c1, cf1, c2, cf2, c3, cf3, c4, cf4, cz1, cy1, cz3, cy3]; done), by first | (simp [go_sem]; done) | with_reducible exact hold_al c1 _ _ | with_reducible exact hold_al c2 _ _ | with_reducible exact hold_al c3 _ _ | with_reducible exact hold_al c4 _ _ | (simp [go_sem, c1, cf1, c2, cf2, c3, cf3, c4, cf4, cz1, cy1, cz3, cy3]; done), by first | (simp [go_sem]; done) | with_reducible exact hold_alF c1 cf1 _ _ | with_reducible exact hold_alF c2 cf2 _ _ | with_reducible exact hold_alF c3 cf3 _ _ | with_reducible exact hold_alF c4 cf4 _ _ | (simp [go_sem, c1, cf1, c2, cf2, c3, cf3, c4, cf4, cz1, cy1, cz3, cy3]; done), by first | (simp [go_sem]; done) | with_reducible exact hold_al c1 _ _ | with_reducible exact hold_al c2 _ _ | with_reducible exact hold_al c3 _ _ | with_reducible exact hold_al c4 _ _ | (simp [go_sem, c1, cf1, c2, cf2, c3, cf3, c4, cf4, cz1, cy1, cz3, cy3]; done), by first | (simp [go_sem]; done) | with_reducible exact hold_alF c1 cf1 _ _ | with_reducible exact hold_alF c2 cf2 _ _ | with_reducible exact hold_alF c3 cf3 _ _ | with_reducible exact hold_alF c4 cf4 _ _ | (simp [go_sem, c1, cf1, c2, cf2, c3, cf3, c4, cf4, cz1, cy1, cz3, cy3]; done), by first | (simp [go_sem]; done) | with_reducible exact hold_al c1 _ _ | with_reducible exact hold_al c2 _ _ | with_reducible exact hold_al c3 _ _ | with_reducible exact hold_al c4 _ _ | (simp [go_sem, c1, cf1, c2, cf2, c3, cf3, c4, cf4, cz1, cy1, cz3, cy3]; done), by first | (simp [go_sem]; done) | with_reducible exact hold_alF c1 cf1 _ _ | with_reducible exact hold_alF c2 cf2 _ _ | with_reducible exact hold_alF c3 cf3 _ _ | with_reducible exact hold_alF c4 cf4 _ _ | (simp [go_sem, c1, cf1, c2, cf2, c3, cf3, c4, cf4, cz1, cy1, cz3, cy3]; done), by first | (simp [go_sem]; done) | with_reducible exact hold_al c1 _ _ | with_reducible exact hold_al c2 _ _ | with_reducible exact hold_al c3 _ _ | with_reducible exact hold_al c4 _ _ | (simp [go_sem, c1, cf1, c2, cf2, c3, cf3, c4, cf4, cz1, cy1, cz3, cy3]; done), by first | (simp [go_sem]; done) | with_reducible exact hold_al c1 _ _ | with_reducible exact hold_al c2 _ _ | with_reducible exact hold_al c3 _ _ | with_reducible exact hold_al c4 _ _ | (simp [go_sem, c1, cf1, c2, cf2, c3, cf3, c4, cf4, cz1, cy1, cz3, cy3]; done), by repeat (first | exact Below.refl _ _ | refine bl_alloc ?_ _ | refine bl_drewN ?_ _ | refine bl_drew ?_ | refine bl_set ?_ (by first | (simp; done) | (simp; omega) | omega) _ | refine below_step ?_ (by assumption) | refine below_step ?_ (Bw.below _))⟩ ?_
        rintro V ⟨hk1, fk1, hk2, fk2, hk3, fk3, hk4, fk4, hk5, hk6, hWk⟩ gk
        have k1 := Bw.hold hk1
        have kf1 := Bw.free hk1 fk1
        have k2 := Bw.hold hk2
        have kf2 := Bw.free hk2 fk2
        have k3 := Bw.hold hk3
        have kf3 := Bw.free hk3 fk3
        have k4 := Bw.hold hk4
        have kf4 := Bw.free hk4 fk4
        have k5 := Bw.hold hk5
        have k6 := Bw.hold hk6
        have kz1 := fun g : Bw V => cell_lt (k1 g)
        have ky1 := fun g : Bw V => Nat.le_of_lt (kz1 g)
        have kz3 := fun g : Bw V => cell_lt (k3 g)
        have ky3 := fun g : Bw V => Nat.le_of_lt (kz3 g)
        have kz5 := fun g : Bw V => cell_lt (k5 g)
        have ky5 := fun g : Bw V => Nat.le_of_lt (kz5 g)
        clear hk1 fk1 hk2 fk2 hk3 fk3 hk4 fk4 hk5 hk6
        clear c1 cf1 c2 cf2 c3 cf3 c4 cf4 cz1 cy1 cz3 cy3
        refine (H1.out _).mono ?_
        rintro e_g3 w_g3 ⟨rfl, hb_g3⟩
        obtain ⟨g3, rfl⟩ := gk.next hb_g3
        clear hb_g3
        go_wp2_with fail
        refine calls_start (fun X => X.cell? ⟨w.heap.size, 0, none⟩ = some (.int .i64 A1) ∧ X.frozen? ⟨w.heap.size, 0, none⟩ = false ∧ X.cell? ⟨w.heap.size, 1, none⟩ = some (.int .i64 A2) ∧ X.frozen? ⟨w.heap.size, 1, none⟩ = false ∧ X.cell? ⟨w.heap.size + 1, 0, none⟩ = some (.int .i64 B1) ∧ X.frozen? ⟨w.heap.size + 1, 0, none⟩ = false ∧ X.cell? ⟨w.heap.size + 1, 1, none⟩ = some (.int .i64 B2) ∧ X.frozen? ⟨w.heap.size + 1, 1, none⟩ = false ∧ X.cell? ⟨g2.out.heap.size, 0, none⟩ = some (.int .i64 Z1) ∧ X.cell? ⟨g2.out.heap.size, 1, none⟩ = some (.int .i64 Z2) ∧ X.cell? ⟨g3.out.heap.size, 0, none⟩ = some (.int .i64 (Z1 + B1)) ∧ X.cell? ⟨g3.out.heap.size, 1, none⟩ = some (.int .i64 (Z2 + B2)) ∧ Below w.heap.size w X) ⟨by first | (simp [go_sem]; done) | with_reducible exact hold_al k1 _ _ | with_reducible exact hold_al k2 _ _ | with_reducible exact hold_al k3 _ _ | with_reducible exact hold_al k4 _ _ | with_reducible exact hold_al k5 _ _ | with_reducible exact hold_al k6 _ _ | (simp [go_sem, k1, kf1, k2, kf2, k3, kf3, k4, kf4, k5, k6, kz1, ky1, kz3, ky3, kz5, ky5]; done), by first | (simp [go_sem]; done) | with_reducible exact hold_alF k1 kf1 _ _ | with_reducible exact hold_alF k2 kf2 _ _ | with_reducible exact hold_alF k3 kf3 _ _ | with_reducible exact hold_alF k4 kf4 _ _ | (simp [go_sem, k1, kf1, k2, kf2, k3, kf3, k4, kf4, k5, k6, kz1, ky1, kz3, ky3, kz5, ky5]; done), by first | (simp [go_sem]; done) | with_reducible exact hold_al k1 _ _ | with_reducible exact hold_al k2 _ _ | with_reducible exact hold_al k3 _ _ | with_reducible exact hold_al k4 _ _ | with_reducible exact hold_al k5 _ _ | with_reducible exact hold_al k6 _ _ | (simp [go_sem, k1, kf1, k2, kf2, k3, kf3, k4, kf4, k5, k6, kz1, ky1, kz3, ky3, kz5, ky5]; done), by first | (simp [go_sem]; done) | with_reducible exact hold_alF k1 kf1 _ _ | with_reducible exact hold_alF k2 kf2 _ _ | with_reducible exact hold_alF k3 kf3 _ _ | with_reducible exact hold_alF k4 kf4 _ _ | (simp [go_sem, k1, kf1, k2, kf2, k3, kf3, k4, kf4, k5, k6, kz1, ky1, kz3, ky3, kz5, ky5]; done), by first | (simp [go_sem]; done) | with_reducible exact hold_al k1 _ _ | with_reducible exact hold_al k2 _ _ | with_reducible exact hold_al k3 _ _ | with_reducible exact hold_al k4 _ _ | with_reducible exact hold_al k5 _ _ | with_reducible exact hold_al k6 _ _ | (simp [go_sem, k1, kf1, k2, kf2, k3, kf3, k4, kf4, k5, k6, kz1, ky1, kz3, ky3, kz5, ky5]; done), by first | (simp [go_sem]; done) | with_reducible exact hold_alF k1 kf1 _ _ | with_reducible exact hold_alF k2 kf2 _ _ | with_reducible exact hold_alF k3 kf3 _ _ | with_reducible exact hold_alF k4 kf4 _ _ | (simp [go_sem, k1, kf1, k2, kf2, k3, kf3, k4, kf4, k5, k6, kz1, ky1, kz3, ky3, kz5, ky5]; done), by first | (simp [go_sem]; done) | with_reducible exact hold_al k1 _ _ | with_reducible exact hold_al k2 _ _ | with_reducible exact hold_al k3 _ _ | with_reducible exact hold_al k4 _ _ | with_reducible exact hold_al k5 _ _ | with_reducible exact hold_al k6 _ _ | (simp [go_sem, k1, kf1, k2, kf2, k3, kf3, k4, kf4, k5, k6, kz1, ky1, kz3, ky3, kz5, ky5]; done), by first | (simp [go_sem]; done) | with_reducible exact hold_alF k1 kf1 _ _ | with_reducible exact hold_alF k2 kf2 _ _ | with_reducible exact hold_alF k3 kf3 _ _ | with_reducible exact hold_alF k4 kf4 _ _ | (simp [go_sem, k1, kf1, k2, kf2, k3, kf3, k4, kf4, k5, k6, kz1, ky1, kz3, ky3, kz5, ky5]; done), by first | (simp [go_sem]; done) | with_reducible exact hold_al k1 _ _ | with_reducible exact hold_al k2 _ _ | with_reducible exact hold_al k3 _ _ | with_reducible exact hold_al k4 _ _ | with_reducible exact hold_al k5 _ _ | with_reducible exact hold_al k6 _ _ | (simp [go_sem, k1, kf1, k2, kf2, k3, kf3, k4, kf4, k5, k6, kz1, ky1, kz3, ky3, kz5, ky5]; done), by first | (simp [go_sem]; done) | with_reducible exact hold_al k1 _ _ | with_reducible exact hold_al k2 _ _ | with_reducible exact hold_al k3 _ _ | with_reducible exact hold_al k4 _ _ | with_reducible exact hold_al k5 _ _ | with_reducible exact hold_al k6 _ _ | (simp [go_sem, k1, kf1, k2, kf2, k3, kf3, k4, kf4, k5, k6, kz1, ky1, kz3, ky3, kz5, ky5]; done), by first | (simp [go_sem]; done) | with_reducible exact hold_al k1 _ _ | with_reducible exact hold_al k2 _ _ | with_reducible exact hold_al k3 _ _ | with_reducible exact hold_al k4 _ _ | with_reducible exact hold_al k5 _ _ | with_reducible exact hold_al k6 _ _ | (simp [go_sem, k1, kf1, k2, kf2, k3, kf3, k4, kf4, k5, k6, kz1, ky1, kz3, ky3, kz5, ky5]; done), by first | (simp [go_sem]; done) | with_reducible exact hold_al k1 _ _ | with_reducible exact hold_al k2 _ _ | with_reducible exact hold_al k3 _ _ | with_reducible exact hold_al k4 _ _ | with_reducible exact hold_al k5 _ _ | with_reducible exact hold_al k6 _ _ | (simp [go_sem, k1, kf1, k2, kf2, k3, kf3, k4, kf4, k5, k6, kz1, ky1, kz3, ky3, kz5, ky5]; done), by repeat (first | exact Below.refl _ _ | refine bl_alloc ?_ _ | refine bl_drewN ?_ _ | refine bl_drew ?_ | refine bl_set ?_ (by first | (simp; done) | (simp; omega) | omega) _ | refine below_step ?_ (by assumption) | refine below_step ?_ (Bw.below _))⟩ ?_
        rintro X ⟨hl1, fl1, hl2, fl2, hl3, fl3, hl4, fl4, hl5, hl6, hl7, hl8, hWl⟩ gl
        have l1 := Bw.hold hl1
        have lf1 := Bw.free hl1 fl1
        have l2 := Bw.hold hl2
        have lf2 := Bw.free hl2 fl2
        have l3 := Bw.hold hl3
        have lf3 := Bw.free hl3 fl3
        have l4 := Bw.hold hl4
        have lf4 := Bw.free hl4 fl4
        have l5 := Bw.hold hl5
        have l6 := Bw.hold hl6
        have l7 := Bw.hold hl7
        have l8 := Bw.hold hl8
        have lz1 := fun g : Bw X => cell_lt (l1 g)
        have ly1 := fun g : Bw X => Nat.le_of_lt (lz1 g)
        have lz3 := fun g : Bw X => cell_lt (l3 g)
        have ly3 := fun g : Bw X => Nat.le_of_lt (lz3 g)
        have lz5 := fun g : Bw X => cell_lt (l5 g)
        have ly5 := fun g : Bw X => Nat.le_of_lt (lz5 g)
        have lz7 := fun g : Bw X => cell_lt (l7 g)
        have ly7 := fun g : Bw X => Nat.le_of_lt (lz7 g)
        clear hl1 fl1 hl2 fl2 hl3 fl3 hl4 fl4 hl5 hl6 hl7 hl8
        clear k1 kf1 k2 kf2 k3 kf3 k4 kf4 k5 k6 kz1 ky1 kz3 ky3 kz5 ky5
        have hB0 := HB.out
        subst hB0
        refine (H2.out _).mono ?_
        rintro e_g4 w_g4 ⟨rfl, hb_g4⟩
        obtain ⟨g4, rfl⟩ := gl.next hb_g4
        clear hb_g4
        go_wp2_with fail
        refine (awake2 _).mono ?_
        rintro e_g5 w_g5 ⟨rfl, hb_g5⟩
        obtain ⟨g5, rfl⟩ := g4.next hb_g5
        clear hb_g5
        go_wp2_with fail
        go_ret
        exact ⟨rfl, by repeat (first | exact Below.refl _ _ | refine bl_alloc ?_ _ | refine bl_drewN ?_ _ | refine bl_drew ?_ | refine bl_set ?_ (by first | (simp; done) | (simp; omega) | omega) _ | refine below_step ?_ (by assumption) | refine below_step ?_ (Bw.below _))⟩
  · rcases Int.lt_or_le n1 n2 with L' | L'
    · clear L
      go_enter Try.func8, Try.ntmps8
      go_wp2_with fail
      refine calls_start (fun W => W.cell? ⟨w.heap.size, 0, none⟩ = some (.int .i64 A1) ∧ W.frozen? ⟨w.heap.size, 0, none⟩ = false ∧ W.cell? ⟨w.heap.size, 1, none⟩ = some (.int .i64 A2) ∧ W.frozen? ⟨w.heap.size, 1, none⟩ = false ∧ W.cell? ⟨w.heap.size + 1, 0, none⟩ = some (.int .i64 B1) ∧ W.frozen? ⟨w.heap.size + 1, 0, none⟩ = false ∧ W.cell? ⟨w.heap.size + 1, 1, none⟩ = some (.int .i64 B2) ∧ W.frozen? ⟨w.heap.size + 1, 1, none⟩ = false ∧ Below w.heap.size w W) ⟨by first | (simp [go_sem]; done), by first | (simp [go_sem]; done), by first | (simp [go_sem]; done), by first | (simp [go_sem]; done), by first | (simp [go_sem]; done), by first | (simp [go_sem]; done), by first | (simp [go_sem]; done), by first | (simp [go_sem]; done), by repeat (first | exact Below.refl _ _ | refine bl_alloc ?_ _ | refine bl_drewN ?_ _ | refine bl_drew ?_ | refine bl_set ?_ (by first | (simp; done) | (simp; omega) | omega) _ | refine below_step ?_ (by assumption) | refine below_step ?_ (Bw.below _))⟩ ?_
      rintro W ⟨hc1, fc1, hc2, fc2, hc3, fc3, hc4, fc4, hWc⟩ gc
      have c1 := Bw.hold hc1
      have cf1 := Bw.free hc1 fc1
      have c2 := Bw.hold hc2
      have cf2 := Bw.free hc2 fc2
      have c3 := Bw.hold hc3
      have cf3 := Bw.free hc3 fc3
      have c4 := Bw.hold hc4
      have cf4 := Bw.free hc4 fc4
      have cz1 := fun g : Bw W => cell_lt (c1 g)
      have cy1 := fun g : Bw W => Nat.le_of_lt (cz1 g)
      have cz3 := fun g : Bw W => cell_lt (c3 g)
      have cy3 := fun g : Bw W => Nat.le_of_lt (cz3 g)
      clear hc1 fc1 hc2 fc2 hc3 fc3 hc4 fc4
      refine (R1.out _).mono ?_
      rintro e_g2 w_g2 ⟨rfl, hb_g2⟩
      obtain ⟨g2, rfl⟩ := gc.next hb_g2
      clear hb_g2
      go_wp2_with fail
      refine calls_start (fun V => V.cell? ⟨w.heap.size, 0, none⟩ = some (.int .i64 A1) ∧ V.frozen? ⟨w.heap.size, 0, none⟩ = false ∧ V.cell? ⟨w.heap.size, 1, none⟩ = some (.int .i64 A2) ∧ V.frozen? ⟨w.heap.size, 1, none⟩ = false ∧ V.cell? ⟨w.heap.size + 1, 0, none⟩ = some (.int .i64 B1) ∧ V.frozen? ⟨w.heap.size + 1, 0, none⟩ = false ∧ V.cell? ⟨w.heap.size + 1, 1, none⟩ = some (.int .i64 B2) ∧ V.frozen? ⟨w.heap.size + 1, 1, none⟩ = false ∧ V.cell? ⟨g2.out.heap.size, 0, none⟩ = some (.int .i64 Z1) ∧ V.cell? ⟨g2.out.heap.size, 1, none⟩ = some (.int .i64 Z2) ∧ Below w.heap.size w V) ⟨by first | (simp [go_sem]; done) | with_reducible exact hold_al c1 _ _ | with_reducible exact hold_al c2 _ _ | with_reducible exact hold_al c3 _ _ | with_reducible exact hold_al c4 _ _ | (simp [go_sem, c1, cf1, c2, cf2, c3, cf3, c4, cf4, cz1, cy1, cz3, cy3]; done), by first | (simp [go_sem]; done) | with_reducible exact hold_alF c1 cf1 _ _ | with_reducible exact hold_alF c2 cf2 _ _ | with_reducible exact hold_alF c3 cf3 _ _ | with_reducible exact hold_alF c4 cf4 _ _ | (simp [go_sem, c1, cf1, c2, cf2, c3, cf3, c4, cf4, cz1, cy1, cz3, cy3]; done), by first | (simp [go_sem]; done) | with_reducible exact hold_al c1 _ _ | with_reducible exact hold_al c2 _ _ | with_reducible exact hold_al c3 _ _ | with_reducible exact hold_al c4 _ _ | (simp [go_sem, c1, cf1, c2, cf2, c3, cf3, c4, cf4, cz1, cy1, cz3, cy3]; done), by first | (simp [go_sem]; done) | with_reducible exact hold_alF c1 cf1 _ _ | with_reducible exact hold_alF c2 cf2 _ _ | with_reducible exact hold_alF c3 cf3 _ _ | with_reducible exact hold_alF c4 cf4 _ _ | (simp [go_sem, c1, cf1, c2, cf2, c3, cf3, c4, cf4, cz1, cy1, cz3, cy3]; done), by first | (simp [go_sem]; done) | with_reducible exact hold_al c1 _ _ | with_reducible exact hold_al c2 _ _ | with_reducible exact hold_al c3 _ _ | with_reducible exact hold_al c4 _ _ | (simp [go_sem, c1, cf1, c2, cf2, c3, cf3, c4, cf4, cz1, cy1, cz3, cy3]; done), by first | (simp [go_sem]; done) | with_reducible exact hold_alF c1 cf1 _ _ | with_reducible exact hold_alF c2 cf2 _ _ | with_reducible exact hold_alF c3 cf3 _ _ | with_reducible exact hold_alF c4 cf4 _ _ | (simp [go_sem, c1, cf1, c2, cf2, c3, cf3, c4, cf4, cz1, cy1, cz3, cy3]; done), by first | (simp [go_sem]; done) | with_reducible exact hold_al c1 _ _ | with_reducible exact hold_al c2 _ _ | with_reducible exact hold_al c3 _ _ | with_reducible exact hold_al c4 _ _ | (simp [go_sem, c1, cf1, c2, cf2, c3, cf3, c4, cf4, cz1, cy1, cz3, cy3]; done), by first | (simp [go_sem]; done) | with_reducible exact hold_alF c1 cf1 _ _ | with_reducible exact hold_alF c2 cf2 _ _ | with_reducible exact hold_alF c3 cf3 _ _ | with_reducible exact hold_alF c4 cf4 _ _ | (simp [go_sem, c1, cf1, c2, cf2, c3, cf3, c4, cf4, cz1, cy1, cz3, cy3]; done), by first | (simp [go_sem]; done) | with_reducible exact hold_al c1 _ _ | with_reducible exact hold_al c2 _ _ | with_reducible exact hold_al c3 _ _ | with_reducible exact hold_al c4 _ _ | (simp [go_sem, c1, cf1, c2, cf2, c3, cf3, c4, cf4, cz1, cy1, cz3, cy3]; done), by first | (simp [go_sem]; done) | with_reducible exact hold_al c1 _ _ | with_reducible exact hold_al c2 _ _ | with_reducible exact hold_al c3 _ _ | with_reducible exact hold_al c4 _ _ | (simp [go_sem, c1, cf1, c2, cf2, c3, cf3, c4, cf4, cz1, cy1, cz3, cy3]; done), by repeat (first | exact Below.refl _ _ | refine bl_alloc ?_ _ | refine bl_drewN ?_ _ | refine bl_drew ?_ | refine bl_set ?_ (by first | (simp; done) | (simp; omega) | omega) _ | refine below_step ?_ (by assumption) | refine below_step ?_ (Bw.below _))⟩ ?_
      rintro V ⟨hk1, fk1, hk2, fk2, hk3, fk3, hk4, fk4, hk5, hk6, hWk⟩ gk
      have k1 := Bw.hold hk1
      have kf1 := Bw.free hk1 fk1
      have k2 := Bw.hold hk2
      have kf2 := Bw.free hk2 fk2
      have k3 := Bw.hold hk3
      have kf3 := Bw.free hk3 fk3
      have k4 := Bw.hold hk4
      have kf4 := Bw.free hk4 fk4
      have k5 := Bw.hold hk5
      have k6 := Bw.hold hk6
      have kz1 := fun g : Bw V => cell_lt (k1 g)
      have ky1 := fun g : Bw V => Nat.le_of_lt (kz1 g)
      have kz3 := fun g : Bw V => cell_lt (k3 g)
      have ky3 := fun g : Bw V => Nat.le_of_lt (kz3 g)
      have kz5 := fun g : Bw V => cell_lt (k5 g)
      have ky5 := fun g : Bw V => Nat.le_of_lt (kz5 g)
      clear hk1 fk1 hk2 fk2 hk3 fk3 hk4 fk4 hk5 hk6
      clear c1 cf1 c2 cf2 c3 cf3 c4 cf4 cz1 cy1 cz3 cy3
      refine (H1.out _).mono ?_
      rintro e_g3 w_g3 ⟨rfl, hb_g3⟩
      obtain ⟨g3, rfl⟩ := gk.next hb_g3
      clear hb_g3
      go_wp2_with fail
      refine calls_start (fun X => X.cell? ⟨w.heap.size, 0, none⟩ = some (.int .i64 A1) ∧ X.frozen? ⟨w.heap.size, 0, none⟩ = false ∧ X.cell? ⟨w.heap.size, 1, none⟩ = some (.int .i64 A2) ∧ X.frozen? ⟨w.heap.size, 1, none⟩ = false ∧ X.cell? ⟨w.heap.size + 1, 0, none⟩ = some (.int .i64 B1) ∧ X.frozen? ⟨w.heap.size + 1, 0, none⟩ = false ∧ X.cell? ⟨w.heap.size + 1, 1, none⟩ = some (.int .i64 B2) ∧ X.frozen? ⟨w.heap.size + 1, 1, none⟩ = false ∧ X.cell? ⟨g2.out.heap.size, 0, none⟩ = some (.int .i64 Z1) ∧ X.cell? ⟨g2.out.heap.size, 1, none⟩ = some (.int .i64 Z2) ∧ X.cell? ⟨g3.out.heap.size, 0, none⟩ = some (.int .i64 (Z1 + B1)) ∧ X.cell? ⟨g3.out.heap.size, 1, none⟩ = some (.int .i64 (Z2 + B2)) ∧ Below w.heap.size w X) ⟨by first | (simp [go_sem]; done) | with_reducible exact hold_al k1 _ _ | with_reducible exact hold_al k2 _ _ | with_reducible exact hold_al k3 _ _ | with_reducible exact hold_al k4 _ _ | with_reducible exact hold_al k5 _ _ | with_reducible exact hold_al k6 _ _ | (simp [go_sem, k1, kf1, k2, kf2, k3, kf3, k4, kf4, k5, k6, kz1, ky1, kz3, ky3, kz5, ky5]; done), by first | (simp [go_sem]; done) | with_reducible exact hold_alF k1 kf1 _ _ | with_reducible exact hold_alF k2 kf2 _ _ | with_reducible exact hold_alF k3 kf3 _ _ | with_reducible exact hold_alF k4 kf4 _ _ | (simp [go_sem, k1, kf1, k2, kf2, k3, kf3, k4, kf4, k5, k6, kz1, ky1, kz3, ky3, kz5, ky5]; done), by first | (simp [go_sem]; done) | with_reducible exact hold_al k1 _ _ | with_reducible exact hold_al k2 _ _ | with_reducible exact hold_al k3 _ _ | with_reducible exact hold_al k4 _ _ | with_reducible exact hold_al k5 _ _ | with_reducible exact hold_al k6 _ _ | (simp [go_sem, k1, kf1, k2, kf2, k3, kf3, k4, kf4, k5, k6, kz1, ky1, kz3, ky3, kz5, ky5]; done), by first | (simp [go_sem]; done) | with_reducible exact hold_alF k1 kf1 _ _ | with_reducible exact hold_alF k2 kf2 _ _ | with_reducible exact hold_alF k3 kf3 _ _ | with_reducible exact hold_alF k4 kf4 _ _ | (simp [go_sem, k1, kf1, k2, kf2, k3, kf3, k4, kf4, k5, k6, kz1, ky1, kz3, ky3, kz5, ky5]; done), by first | (simp [go_sem]; done) | with_reducible exact hold_al k1 _ _ | with_reducible exact hold_al k2 _ _ | with_reducible exact hold_al k3 _ _ | with_reducible exact hold_al k4 _ _ | with_reducible exact hold_al k5 _ _ | with_reducible exact hold_al k6 _ _ | (simp [go_sem, k1, kf1, k2, kf2, k3, kf3, k4, kf4, k5, k6, kz1, ky1, kz3, ky3, kz5, ky5]; done), by first | (simp [go_sem]; done) | with_reducible exact hold_alF k1 kf1 _ _ | with_reducible exact hold_alF k2 kf2 _ _ | with_reducible exact hold_alF k3 kf3 _ _ | with_reducible exact hold_alF k4 kf4 _ _ | (simp [go_sem, k1, kf1, k2, kf2, k3, kf3, k4, kf4, k5, k6, kz1, ky1, kz3, ky3, kz5, ky5]; done), by first | (simp [go_sem]; done) | with_reducible exact hold_al k1 _ _ | with_reducible exact hold_al k2 _ _ | with_reducible exact hold_al k3 _ _ | with_reducible exact hold_al k4 _ _ | with_reducible exact hold_al k5 _ _ | with_reducible exact hold_al k6 _ _ | (simp [go_sem, k1, kf1, k2, kf2, k3, kf3, k4, kf4, k5, k6, kz1, ky1, kz3, ky3, kz5, ky5]; done), by first | (simp [go_sem]; done) | with_reducible exact hold_alF k1 kf1 _ _ | with_reducible exact hold_alF k2 kf2 _ _ | with_reducible exact hold_alF k3 kf3 _ _ | with_reducible exact hold_alF k4 kf4 _ _ | (simp [go_sem, k1, kf1, k2, kf2, k3, kf3, k4, kf4, k5, k6, kz1, ky1, kz3, ky3, kz5, ky5]; done), by first | (simp [go_sem]; done) | with_reducible exact hold_al k1 _ _ | with_reducible exact hold_al k2 _ _ | with_reducible exact hold_al k3 _ _ | with_reducible exact hold_al k4 _ _ | with_reducible exact hold_al k5 _ _ | with_reducible exact hold_al k6 _ _ | (simp [go_sem, k1, kf1, k2, kf2, k3, kf3, k4, kf4, k5, k6, kz1, ky1, kz3, ky3, kz5, ky5]; done), by first | (simp [go_sem]; done) | with_reducible exact hold_al k1 _ _ | with_reducible exact hold_al k2 _ _ | with_reducible exact hold_al k3 _ _ | with_reducible exact hold_al k4 _ _ | with_reducible exact hold_al k5 _ _ | with_reducible exact hold_al k6 _ _ | (simp [go_sem, k1, kf1, k2, kf2, k3, kf3, k4, kf4, k5, k6, kz1, ky1, kz3, ky3, kz5, ky5]; done), by first | (simp [go_sem]; done) | with_reducible exact hold_al k1 _ _ | with_reducible exact hold_al k2 _ _ | with_reducible exact hold_al k3 _ _ | with_reducible exact hold_al k4 _ _ | with_reducible exact hold_al k5 _ _ | with_reducible exact hold_al k6 _ _ | (simp [go_sem, k1, kf1, k2, kf2, k3, kf3, k4, kf4, k5, k6, kz1, ky1, kz3, ky3, kz5, ky5]; done), by first | (simp [go_sem]; done) | with_reducible exact hold_al k1 _ _ | with_reducible exact hold_al k2 _ _ | with_reducible exact hold_al k3 _ _ | with_reducible exact hold_al k4 _ _ | with_reducible exact hold_al k5 _ _ | with_reducible exact hold_al k6 _ _ | (simp [go_sem, k1, kf1, k2, kf2, k3, kf3, k4, kf4, k5, k6, kz1, ky1, kz3, ky3, kz5, ky5]; done), by repeat (first | exact Below.refl _ _ | refine bl_alloc ?_ _ | refine bl_drewN ?_ _ | refine bl_drew ?_ | refine bl_set ?_ (by first | (simp; done) | (simp; omega) | omega) _ | refine below_step ?_ (by assumption) | refine below_step ?_ (Bw.below _))⟩ ?_
      rintro X ⟨hl1, fl1, hl2, fl2, hl3, fl3, hl4, fl4, hl5, hl6, hl7, hl8, hWl⟩ gl
      have l1 := Bw.hold hl1
      have lf1 := Bw.free hl1 fl1
      have l2 := Bw.hold hl2
      have lf2 := Bw.free hl2 fl2
      have l3 := Bw.hold hl3
      have lf3 := Bw.free hl3 fl3
      have l4 := Bw.hold hl4
      have lf4 := Bw.free hl4 fl4
      have l5 := Bw.hold hl5
      have l6 := Bw.hold hl6
      have l7 := Bw.hold hl7
      have l8 := Bw.hold hl8
      have lz1 := fun g : Bw X => cell_lt (l1 g)
      have ly1 := fun g : Bw X => Nat.le_of_lt (lz1 g)
      have lz3 := fun g : Bw X => cell_lt (l3 g)
      have ly3 := fun g : Bw X => Nat.le_of_lt (lz3 g)
      have lz5 := fun g : Bw X => cell_lt (l5 g)
      have ly5 := fun g : Bw X => Nat.le_of_lt (lz5 g)
      have lz7 := fun g : Bw X => cell_lt (l7 g)
      have ly7 := fun g : Bw X => Nat.le_of_lt (lz7 g)
      clear hl1 fl1 hl2 fl2 hl3 fl3 hl4 fl4 hl5 hl6 hl7 hl8
      clear k1 kf1 k2 kf2 k3 kf3 k4 kf4 k5 k6 kz1 ky1 kz3 ky3 kz5 ky5
      refine (H2.out _).mono ?_
      rintro e_g4 w_g4 ⟨rfl, hb_g4⟩
      obtain ⟨g4, rfl⟩ := gl.next hb_g4
      clear hb_g4
      go_wp2_with fail
      refine (awake2 _).mono ?_
      rintro e_g5 w_g5 ⟨rfl, hb_g5⟩
      obtain ⟨g5, rfl⟩ := g4.next hb_g5
      clear hb_g5
      go_wp2_with fail
      go_ret
      exact ⟨rfl, by repeat (first | exact Below.refl _ _ | refine bl_alloc ?_ _ | refine bl_drewN ?_ _ | refine bl_drew ?_ | refine bl_set ?_ (by first | (simp; done) | (simp; omega) | omega) _ | refine below_step ?_ (by assumption) | refine below_step ?_ (Bw.below _))⟩
    · obtain rfl : n1 = n2 := by omega
      clear L L'
      go_enter Try.func8, Try.ntmps8
      go_wp2_with fail
      refine calls_start (fun W => W.cell? ⟨w.heap.size, 0, none⟩ = some (.int .i64 A1) ∧ W.frozen? ⟨w.heap.size, 0, none⟩ = false ∧ W.cell? ⟨w.heap.size, 1, none⟩ = some (.int .i64 A2) ∧ W.frozen? ⟨w.heap.size, 1, none⟩ = false ∧ W.cell? ⟨w.heap.size + 1, 0, none⟩ = some (.int .i64 B1) ∧ W.frozen? ⟨w.heap.size + 1, 0, none⟩ = false ∧ W.cell? ⟨w.heap.size + 1, 1, none⟩ = some (.int .i64 B2) ∧ W.frozen? ⟨w.heap.size + 1, 1, none⟩ = false ∧ Below w.heap.size w W) ⟨by first | (simp [go_sem]; done), by first | (simp [go_sem]; done), by first | (simp [go_sem]; done), by first | (simp [go_sem]; done), by first | (simp [go_sem]; done), by first | (simp [go_sem]; done), by first | (simp [go_sem]; done), by first | (simp [go_sem]; done), by repeat (first | exact Below.refl _ _ | refine bl_alloc ?_ _ | refine bl_drewN ?_ _ | refine bl_drew ?_ | refine bl_set ?_ (by first | (simp; done) | (simp; omega) | omega) _ | refine below_step ?_ (by assumption) | refine below_step ?_ (Bw.below _))⟩ ?_
      rintro W ⟨hc1, fc1, hc2, fc2, hc3, fc3, hc4, fc4, hWc⟩ gc
      have c1 := Bw.hold hc1
      have cf1 := Bw.free hc1 fc1
      have c2 := Bw.hold hc2
      have cf2 := Bw.free hc2 fc2
      have c3 := Bw.hold hc3
      have cf3 := Bw.free hc3 fc3
      have c4 := Bw.hold hc4
      have cf4 := Bw.free hc4 fc4
      have cz1 := fun g : Bw W => cell_lt (c1 g)
      have cy1 := fun g : Bw W => Nat.le_of_lt (cz1 g)
      have cz3 := fun g : Bw W => cell_lt (c3 g)
      have cy3 := fun g : Bw W => Nat.le_of_lt (cz3 g)
      clear hc1 fc1 hc2 fc2 hc3 fc3 hc4 fc4
      refine (R1.out _).mono ?_
      rintro e_g2 w_g2 ⟨rfl, hb_g2⟩
      obtain ⟨g2, rfl⟩ := gc.next hb_g2
      clear hb_g2
      go_wp2_with fail
      refine calls_start (fun V => V.cell? ⟨w.heap.size, 0, none⟩ = some (.int .i64 A1) ∧ V.frozen? ⟨w.heap.size, 0, none⟩ = false ∧ V.cell? ⟨w.heap.size, 1, none⟩ = some (.int .i64 A2) ∧ V.frozen? ⟨w.heap.size, 1, none⟩ = false ∧ V.cell? ⟨w.heap.size + 1, 0, none⟩ = some (.int .i64 B1) ∧ V.frozen? ⟨w.heap.size + 1, 0, none⟩ = false ∧ V.cell? ⟨w.heap.size + 1, 1, none⟩ = some (.int .i64 B2) ∧ V.frozen? ⟨w.heap.size + 1, 1, none⟩ = false ∧ V.cell? ⟨g2.out.heap.size, 0, none⟩ = some (.int .i64 Z1) ∧ V.cell? ⟨g2.out.heap.size, 1, none⟩ = some (.int .i64 Z2) ∧ Below w.heap.size w V) ⟨by first | (simp [go_sem]; done) | with_reducible exact hold_al c1 _ _ | with_reducible exact hold_al c2 _ _ | with_reducible exact hold_al c3 _ _ | with_reducible exact hold_al c4 _ _ | (simp [go_sem, c1, cf1, c2, cf2, c3, cf3, c4, cf4, cz1, cy1, cz3, cy3]; done), by first | (simp [go_sem]; done) | with_reducible exact hold_alF c1 cf1 _ _ | with_reducible exact hold_alF c2 cf2 _ _ | with_reducible exact hold_alF c3 cf3 _ _ | with_reducible exact hold_alF c4 cf4 _ _ | (simp [go_sem, c1, cf1, c2, cf2, c3, cf3, c4, cf4, cz1, cy1, cz3, cy3]; done), by first | (simp [go_sem]; done) | with_reducible exact hold_al c1 _ _ | with_reducible exact hold_al c2 _ _ | with_reducible exact hold_al c3 _ _ | with_reducible exact hold_al c4 _ _ | (simp [go_sem, c1, cf1, c2, cf2, c3, cf3, c4, cf4, cz1, cy1, cz3, cy3]; done), by first | (simp [go_sem]; done) | with_reducible exact hold_alF c1 cf1 _ _ | with_reducible exact hold_alF c2 cf2 _ _ | with_reducible exact hold_alF c3 cf3 _ _ | with_reducible exact hold_alF c4 cf4 _ _ | (simp [go_sem, c1, cf1, c2, cf2, c3, cf3, c4, cf4, cz1, cy1, cz3, cy3]; done), by first | (simp [go_sem]; done) | with_reducible exact hold_al c1 _ _ | with_reducible exact hold_al c2 _ _ | with_reducible exact hold_al c3 _ _ | with_reducible exact hold_al c4 _ _ | (simp [go_sem, c1, cf1, c2, cf2, c3, cf3, c4, cf4, cz1, cy1, cz3, cy3]; done), by first | (simp [go_sem]; done) | with_reducible exact hold_alF c1 cf1 _ _ | with_reducible exact hold_alF c2 cf2 _ _ | with_reducible exact hold_alF c3 cf3 _ _ | with_reducible exact hold_alF c4 cf4 _ _ | (simp [go_sem, c1, cf1, c2, cf2, c3, cf3, c4, cf4, cz1, cy1, cz3, cy3]; done), by first | (simp [go_sem]; done) | with_reducible exact hold_al c1 _ _ | with_reducible exact hold_al c2 _ _ | with_reducible exact hold_al c3 _ _ | with_reducible exact hold_al c4 _ _ | (simp [go_sem, c1, cf1, c2, cf2, c3, cf3, c4, cf4, cz1, cy1, cz3, cy3]; done), by first | (simp [go_sem]; done) | with_reducible exact hold_alF c1 cf1 _ _ | with_reducible exact hold_alF c2 cf2 _ _ | with_reducible exact hold_alF c3 cf3 _ _ | with_reducible exact hold_alF c4 cf4 _ _ | (simp [go_sem, c1, cf1, c2, cf2, c3, cf3, c4, cf4, cz1, cy1, cz3, cy3]; done), by first | (simp [go_sem]; done) | with_reducible exact hold_al c1 _ _ | with_reducible exact hold_al c2 _ _ | with_reducible exact hold_al c3 _ _ | with_reducible exact hold_al c4 _ _ | (simp [go_sem, c1, cf1, c2, cf2, c3, cf3, c4, cf4, cz1, cy1, cz3, cy3]; done), by first | (simp [go_sem]; done) | with_reducible exact hold_al c1 _ _ | with_reducible exact hold_al c2 _ _ | with_reducible exact hold_al c3 _ _ | with_reducible exact hold_al c4 _ _ | (simp [go_sem, c1, cf1, c2, cf2, c3, cf3, c4, cf4, cz1, cy1, cz3, cy3]; done), by repeat (first | exact Below.refl _ _ | refine bl_alloc ?_ _ | refine bl_drewN ?_ _ | refine bl_drew ?_ | refine bl_set ?_ (by first | (simp; done) | (simp; omega) | omega) _ | refine below_step ?_ (by assumption) | refine below_step ?_ (Bw.below _))⟩ ?_
      rintro V ⟨hk1, fk1, hk2, fk2, hk3, fk3, hk4, fk4, hk5, hk6, hWk⟩ gk
      have k1 := Bw.hold hk1
      have kf1 := Bw.free hk1 fk1
      have k2 := Bw.hold hk2
      have kf2 := Bw.free hk2 fk2
      have k3 := Bw.hold hk3
      have kf3 := Bw.free hk3 fk3
      have k4 := Bw.hold hk4
      have kf4 := Bw.free hk4 fk4
      have k5 := Bw.hold hk5
      have k6 := Bw.hold hk6
      have kz1 := fun g : Bw V => cell_lt (k1 g)
      have ky1 := fun g : Bw V => Nat.le_of_lt (kz1 g)
      have kz3 := fun g : Bw V => cell_lt (k3 g)
      have ky3 := fun g : Bw V => Nat.le_of_lt (kz3 g)
      have kz5 := fun g : Bw V => cell_lt (k5 g)
      have ky5 := fun g : Bw V => Nat.le_of_lt (kz5 g)
      clear hk1 fk1 hk2 fk2 hk3 fk3 hk4 fk4 hk5 hk6
      clear c1 cf1 c2 cf2 c3 cf3 c4 cf4 cz1 cy1 cz3 cy3
      refine (H1.out _).mono ?_
      rintro e_g3 w_g3 ⟨rfl, hb_g3⟩
      obtain ⟨g3, rfl⟩ := gk.next hb_g3
      clear hb_g3
      go_wp2_with fail
      refine calls_start (fun X => X.cell? ⟨w.heap.size, 0, none⟩ = some (.int .i64 A1) ∧ X.frozen? ⟨w.heap.size, 0, none⟩ = false ∧ X.cell? ⟨w.heap.size, 1, none⟩ = some (.int .i64 A2) ∧ X.frozen? ⟨w.heap.size, 1, none⟩ = false ∧ X.cell? ⟨w.heap.size + 1, 0, none⟩ = some (.int .i64 B1) ∧ X.frozen? ⟨w.heap.size + 1, 0, none⟩ = false ∧ X.cell? ⟨w.heap.size + 1, 1, none⟩ = some (.int .i64 B2) ∧ X.frozen? ⟨w.heap.size + 1, 1, none⟩ = false ∧ X.cell? ⟨g2.out.heap.size, 0, none⟩ = some (.int .i64 Z1) ∧ X.cell? ⟨g2.out.heap.size, 1, none⟩ = some (.int .i64 Z2) ∧ X.cell? ⟨g3.out.heap.size, 0, none⟩ = some (.int .i64 (Z1 + B1)) ∧ X.cell? ⟨g3.out.heap.size, 1, none⟩ = some (.int .i64 (Z2 + B2)) ∧ Below w.heap.size w X) ⟨by first | (simp [go_sem]; done) | with_reducible exact hold_al k1 _ _ | with_reducible exact hold_al k2 _ _ | with_reducible exact hold_al k3 _ _ | with_reducible exact hold_al k4 _ _ | with_reducible exact hold_al k5 _ _ | with_reducible exact hold_al k6 _ _ | (simp [go_sem, k1, kf1, k2, kf2, k3, kf3, k4, kf4, k5, k6, kz1, ky1, kz3, ky3, kz5, ky5]; done), by first | (simp [go_sem]; done) | with_reducible exact hold_alF k1 kf1 _ _ | with_reducible exact hold_alF k2 kf2 _ _ | with_reducible exact hold_alF k3 kf3 _ _ | with_reducible exact hold_alF k4 kf4 _ _ | (simp [go_sem, k1, kf1, k2, kf2, k3, kf3, k4, kf4, k5, k6, kz1, ky1, kz3, ky3, kz5, ky5]; done), by first | (simp [go_sem]; done) | with_reducible exact hold_al k1 _ _ | with_reducible exact hold_al k2 _ _ | with_reducible exact hold_al k3 _ _ | with_reducible exact hold_al k4 _ _ | with_reducible exact hold_al k5 _ _ | with_reducible exact hold_al k6 _ _ | (simp [go_sem, k1, kf1, k2, kf2, k3, kf3, k4, kf4, k5, k6, kz1, ky1, kz3, ky3, kz5, ky5]; done), by first | (simp [go_sem]; done) | with_reducible exact hold_alF k1 kf1 _ _ | with_reducible exact hold_alF k2 kf2 _ _ | with_reducible exact hold_alF k3 kf3 _ _ | with_reducible exact hold_alF k4 kf4 _ _ | (simp [go_sem, k1, kf1, k2, kf2, k3, kf3, k4, kf4, k5, k6, kz1, ky1, kz3, ky3, kz5, ky5]; done), by first | (simp [go_sem]; done) | with_reducible exact hold_al k1 _ _ | with_reducible exact hold_al k2 _ _ | with_reducible exact hold_al k3 _ _ | with_reducible exact hold_al k4 _ _ | with_reducible exact hold_al k5 _ _ | with_reducible exact hold_al k6 _ _ | (simp [go_sem, k1, kf1, k2, kf2, k3, kf3, k4, kf4, k5, k6, kz1, ky1, kz3, ky3, kz5, ky5]; done), by first | (simp [go_sem]; done) | with_reducible exact hold_alF k1 kf1 _ _ | with_reducible exact hold_alF k2 kf2 _ _ | with_reducible exact hold_alF k3 kf3 _ _ | with_reducible exact hold_alF k4 kf4 _ _ | (simp [go_sem, k1, kf1, k2, kf2, k3, kf3, k4, kf4, k5, k6, kz1, ky1, kz3, ky3, kz5, ky5]; done), by first | (simp [go_sem]; done) | with_reducible exact hold_al k1 _ _ | with_reducible exact hold_al k2 _ _ | with_reducible exact hold_al k3 _ _ | with_reducible exact hold_al k4 _ _ | with_reducible exact hold_al k5 _ _ | with_reducible exact hold_al k6 _ _ | (simp [go_sem, k1, kf1, k2, kf2, k3, kf3, k4, kf4, k5, k6, kz1, ky1, kz3, ky3, kz5, ky5]; done), by first | (simp [go_sem]; done) | with_reducible exact hold_alF k1 kf1 _ _ | with_reducible exact hold_alF k2 kf2 _ _ | with_reducible exact hold_alF k3 kf3 _ _ | with_reducible exact hold_alF k4 kf4 _ _ | (simp [go_sem, k1, kf1, k2, kf2, k3, kf3, k4, kf4, k5, k6, kz1, ky1, kz3, ky3, kz5, ky5]; done), by first | (simp [go_sem]; done) | with_reducible exact hold_al k1 _ _ | with_reducible exact hold_al k2 _ _ | with_reducible exact hold_al k3 _ _ | with_reducible exact hold_al k4 _ _ | with_reducible exact hold_al k5 _ _ | with_reducible exact hold_al k6 _ _ | (simp [go_sem, k1, kf1, k2, kf2, k3, kf3, k4, kf4, k5, k6, kz1, ky1, kz3, ky3, kz5, ky5]; done), by first | (simp [go_sem]; done) | with_reducible exact hold_al k1 _ _ | with_reducible exact hold_al k2 _ _ | with_reducible exact hold_al k3 _ _ | with_reducible exact hold_al k4 _ _ | with_reducible exact hold_al k5 _ _ | with_reducible exact hold_al k6 _ _ | (simp [go_sem, k1, kf1, k2, kf2, k3, kf3, k4, kf4, k5, k6, kz1, ky1, kz3, ky3, kz5, ky5]; done), by first | (simp [go_sem]; done) | with_reducible exact hold_al k1 _ _ | with_reducible exact hold_al k2 _ _ | with_reducible exact hold_al k3 _ _ | with_reducible exact hold_al k4 _ _ | with_reducible exact hold_al k5 _ _ | with_reducible exact hold_al k6 _ _ | (simp [go_sem, k1, kf1, k2, kf2, k3, kf3, k4, kf4, k5, k6, kz1, ky1, kz3, ky3, kz5, ky5]; done), by first | (simp [go_sem]; done) | with_reducible exact hold_al k1 _ _ | with_reducible exact hold_al k2 _ _ | with_reducible exact hold_al k3 _ _ | with_reducible exact hold_al k4 _ _ | with_reducible exact hold_al k5 _ _ | with_reducible exact hold_al k6 _ _ | (simp [go_sem, k1, kf1, k2, kf2, k3, kf3, k4, kf4, k5, k6, kz1, ky1, kz3, ky3, kz5, ky5]; done), by repeat (first | exact Below.refl _ _ | refine bl_alloc ?_ _ | refine bl_drewN ?_ _ | refine bl_drew ?_ | refine bl_set ?_ (by first | (simp; done) | (simp; omega) | omega) _ | refine below_step ?_ (by assumption) | refine below_step ?_ (Bw.below _))⟩ ?_
      rintro X ⟨hl1, fl1, hl2, fl2, hl3, fl3, hl4, fl4, hl5, hl6, hl7, hl8, hWl⟩ gl
      have l1 := Bw.hold hl1
      have lf1 := Bw.free hl1 fl1
      have l2 := Bw.hold hl2
      have lf2 := Bw.free hl2 fl2
      have l3 := Bw.hold hl3
      have lf3 := Bw.free hl3 fl3
      have l4 := Bw.hold hl4
      have lf4 := Bw.free hl4 fl4
      have l5 := Bw.hold hl5
      have l6 := Bw.hold hl6
      have l7 := Bw.hold hl7
      have l8 := Bw.hold hl8
      have lz1 := fun g : Bw X => cell_lt (l1 g)
      have ly1 := fun g : Bw X => Nat.le_of_lt (lz1 g)
      have lz3 := fun g : Bw X => cell_lt (l3 g)
      have ly3 := fun g : Bw X => Nat.le_of_lt (lz3 g)
      have lz5 := fun g : Bw X => cell_lt (l5 g)
      have ly5 := fun g : Bw X => Nat.le_of_lt (lz5 g)
      have lz7 := fun g : Bw X => cell_lt (l7 g)
      have ly7 := fun g : Bw X => Nat.le_of_lt (lz7 g)
      clear hl1 fl1 hl2 fl2 hl3 fl3 hl4 fl4 hl5 hl6 hl7 hl8
      clear k1 kf1 k2 kf2 k3 kf3 k4 kf4 k5 k6 kz1 ky1 kz3 ky3 kz5 ky5
      refine (H2.out _).mono ?_
      rintro e_g4 w_g4 ⟨rfl, hb_g4⟩
      obtain ⟨g4, rfl⟩ := gl.next hb_g4
      clear hb_g4
      go_wp2_with fail
      refine (awake2 _).mono ?_
      rintro e_g5 w_g5 ⟨rfl, hb_g5⟩
      obtain ⟨g5, rfl⟩ := g4.next hb_g5
      clear hb_g5
      go_wp2_with fail
      go_ret
      exact ⟨rfl, by repeat (first | exact Below.refl _ _ | refine bl_alloc ?_ _ | refine bl_drewN ?_ _ | refine bl_drew ?_ | refine bl_set ?_ (by first | (simp; done) | (simp; omega) | omega) _ | refine below_step ?_ (by assumption) | refine below_step ?_ (Bw.below _))⟩
/-! THE STATEMENT EisenNear -/
section
open Go.ChangeShapes Go.WideShapes Go.ChangeAt Go.RowKit Go.Joins
set_option linter.unusedVariables false
set_option maxRecDepth 100000 in
theorem eisenNear_lifted (os : Os) (started : os.Started) (H : Type) (enc : TypeId × Value → H) :
    ReturnsInHanded {} Try.checked os 8 .any (Rows.eisenNearSpec.pre6 enc Try.prog Try.f8 Rows.eisenNearRow.domain false) (Rows.eisenNearSpec.post enc Try.prog Try.f8 false true false false) := by
  refine returnsInHanded_of_change (C := Try.checked) (show ownKnob Try.prog.godebug = none by kernel_rfl) started (by kernel_rfl) Try.func8
    (ChangeSpec.witness6 (enc := enc) (C := Try.checked) false ⟨#[], #[.agg #[.int .i64 0, .int .i64 0], .int .i64 0, .agg #[.int .i64 0, .int .i64 0]], []⟩ 8 (by kernel_rfl) (by kernel_rfl) (by kernel_rfl) (by kernel_rfl)) ?_
  intro W base args ds gs before hval0 hW hcnd _
  have hval : ∀ (j : Nat) t v, Try.f8.params[j]? = some t → args[j]? = some v → Value.okWide Try.prog W .any base t v := hval0
  have hW' := hW
  obtain ⟨p, q, hA0, hV, rfl, hfz, hnd⟩ := hW
  have hA : DataW.TrodAll enc Try.prog W 0 (fun _ => true) true Try.f8.params.toList args.toList ds p := hA0
  rw [Try.params8] at hA hval
  obtain ⟨v0, vs0, d0, ds0, p0, q0, hargs, rfl, rfl, h0, r0⟩ := trodAll_cons hA
  obtain ⟨v1, vs1, d1, ds1, p1, q1, rfl, rfl, rfl, h1, r1⟩ := trodAll_cons r0
  obtain ⟨v2, vs2, d2, ds2, p2, q2, rfl, rfl, rfl, h2, r2⟩ := trodAll_cons r1
  obtain ⟨rfl, rfl, rfl⟩ := trodAll_nil r2
  obtain rfl : args = #[v0, v1, v2] := by cases args; simp_all
  obtain ⟨rfl, rfl⟩ := trodVars_none hV
  obtain ⟨c0_0, c0_1, y0_0, y0_1, m0, rfl, rfl, rfl, hy0_0, hy0_1⟩ := open_agg2 Try.underlying23 (by kernel_rfl) (show Try.prog.cellsOf 23 = 2 by kernel_rfl) (hval 0 23 v0 rfl rfl) h0
  obtain ⟨u1, e0_0, rfl, wf_u1⟩ := DataW.trod_int Try.underlying2 hy0_0
  obtain ⟨u2, e0_1, rfl, wf_u2⟩ := DataW.trod_int Try.underlying2 hy0_1
  simp at e0_0 e0_1
  subst e0_0 e0_1
  obtain ⟨d, rfl, rfl, rfl, wf_d⟩ := open_int Try.underlying2 (hval 1 2 v1 rfl rfl) h1
  obtain ⟨c2_0, c2_1, y2_0, y2_1, m2, rfl, rfl, rfl, hy2_0, hy2_1⟩ := open_agg2 Try.underlying23 (by kernel_rfl) (show Try.prog.cellsOf 23 = 2 by kernel_rfl) (hval 2 23 v2 rfl rfl) h2
  obtain ⟨b1, e2_0, rfl, wf_b1⟩ := DataW.trod_int Try.underlying2 hy2_0
  obtain ⟨b2, e2_1, rfl, wf_b2⟩ := DataW.trod_int Try.underlying2 hy2_1
  simp at e2_0 e2_1
  subst e2_0 e2_1
  clear hA0 hval0
  simp only [List.append_nil] at hW'
  refine (near_walk u1 u2 d b1 b2 (wf_i64 wf_u1).1 (wf_i64 wf_u1).2 (wf_i64 wf_u2).1 (wf_i64 wf_u2).2 (wf_i64 wf_d).1 (wf_i64 wf_d).2 (wf_i64 wf_b1).1 (wf_i64 wf_b1).2 (wf_i64 wf_b2).1 (wf_i64 wf_b2).2 W).mono fun e W' ⟨he, hb⟩ => ?_
  subst he
  exact ⟨_, rfl, post_of_below (pa := []) (pv := []) hW' (fun _ _ _ => (trodAll_cons_mk (shut_bool Try.underlying4 _) trodAll_mk0)) (fun sp _ => (trodAll_cons_mk (shut_agg2 (y0 := (.lit (.int .i64 u1), [])) (y1 := (.lit (.int .i64 u2), [])) Try.underlying23 (by kernel_rfl) (show Try.prog.cellsOf 23 = 2 by kernel_rfl) ⟨1, by simp [DataW.trod, Try.underlying2, wf_u1]⟩ ⟨1, by simp [DataW.trod, Try.underlying2, wf_u2]⟩) (trodAll_cons_mk (shut_int Try.underlying2 wf_d) (trodAll_cons_mk (shut_agg2 (y0 := (.lit (.int .i64 b1), [])) (y1 := (.lit (.int .i64 b2), [])) Try.underlying23 (by kernel_rfl) (show Try.prog.cellsOf 23 = 2 by kernel_rfl) ⟨1, by simp [DataW.trod, Try.underlying2, wf_b1]⟩ ⟨1, by simp [DataW.trod, Try.underlying2, wf_b2]⟩) trodAll_mk0)))) (fun _ _ => rfl) rfl hb
    (ok_one (by kernel_rfl) rfl (okWide_bool_mk Try.underlying4 _))⟩
theorem eisenNear_holds : Rows.EisenNearSaid :=
  OpenClaim.holds_of_wide 8 Try.f8 rfl rfl rfl rfl rfl rfl rfl ⟨rfl, rfl, rfl, rfl, rfl⟩ rfl rfl rfl rfl rfl (by kernel_rfl) Try.func8 (by kernel_rfl)
    (of_decide_eq_true (by kernel_rfl)) (by unfold Func.isWrapper; first | (rw [if_pos (by decide +kernel)]; kernel_rfl) | (rw [if_neg (by decide +kernel)]; exact ⟨rfl, rfl⟩))
    (fun os started H enc _ => eisenNear_lifted os started H enc)
end
#print axioms eisenNear_holds
end Go.Proofs.Ytjedegpmpdgckaa

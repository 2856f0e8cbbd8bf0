
/- The walks of a line's keeps, between and cross. -/
import Derived.Test.YtnmehelejdbjaaaRing
namespace Go.Proofs.Ytnmehelejdbjaaa
open Go.RowKit
set_option linter.unusedSimpArgs false
set_option linter.unusedVariables false
/-- A point's number along an axis. -/
def pcx (ax : Int) (p : Int × Int) : Int := if ax = 0 then p.1 else p.2
def kpB (ax t : Int) (ab : Bool) (p : Int × Int) : Bool := if ab then decide (t ≤ pcx ax p) else decide (pcx ax p ≤ t)
def btB (ax t : Int) (p q : Int × Int) : Bool := decide ((pcx ax p < t ∧ t < pcx ax q) ∨ (pcx ax q < t ∧ t < pcx ax p))
/-- A product by what it is divided by, downwards; what is divided by is made to be above nought. -/
def flo (up by' : Int) : Int := if by' < 0 then (-up) / (-by') else up / by'
def crP (ax t : Int) (p q : Int × Int) : Int × Int :=
  if ax = 0 then (t, p.2 + flo ((q.2 - p.2) * (t - p.1)) (q.1 - p.1)) else (p.1 + flo ((q.1 - p.1) * (t - p.2)) (q.2 - p.2), t)
theorem btB_true {ax t : Int} {p q : Int × Int} (h : btB ax t p q = true) : (pcx ax p < t ∧ t < pcx ax q) ∨ (pcx ax q < t ∧ t < pcx ax p) := of_decide_eq_true h
theorem ret_a2 {x y u v : Int} (h1 : x = u) (h2 : y = v) : Ending.returned (.agg #[.int .i64 x, .int .i64 y]) = Ending.returned (.agg #[.int .i64 u, .int .i64 v]) := by rw [h1, h2]
/-- A product of two spreads fits. -/
theorem mul30 (a b : Int) (h1 : -1073741824 ≤ a) (h2 : a ≤ 1073741824) (h3 : -1073741824 ≤ b) (h4 : b ≤ 1073741824) : -1152921504606846976 ≤ a * b ∧ a * b ≤ 1152921504606846976 := by
  have k1 : (a * b) ≤ 1152921504606846976 := by
    rcases (show 0 ≤ a ∨ a ≤ 0 by omega) with h | h
    · have := Int.mul_le_mul_of_nonneg_left h4 h
      omega
    · have := Int.mul_le_mul_of_nonpos_left h h3
      omega
  have k2 : -1152921504606846976 ≤ (a * b) := by
    rcases (show 0 ≤ a ∨ a ≤ 0 by omega) with h | h
    · have := Int.mul_le_mul_of_nonneg_left h3 h
      omega
    · have := Int.mul_le_mul_of_nonpos_left h h4
      omega
  exact ⟨k2, k1⟩
theorem div_bd (a b M : Int) (hb : 0 < b) (hM : 0 ≤ M) (h1 : -M ≤ a) (h2 : a ≤ M) : -M ≤ a / b ∧ a / b ≤ M := by
  constructor
  · rw [Int.le_ediv_iff_mul_le hb]
    have : M * 1 ≤ M * b := Int.mul_le_mul_of_nonneg_left (by omega) hM
    have e : -M * b = -(M * b) := Int.neg_mul _ _
    omega
  · have h3 : a / b < M + 1 := by
      rw [Int.ediv_lt_iff_lt_mul hb]
      have : (M + 1) * 1 ≤ (M + 1) * b := Int.mul_le_mul_of_nonneg_left (by omega) (by omega)
      omega
    omega
set_option maxHeartbeats 1000000 in
theorem clip_keeps (ax t x y : Int) (ab : Bool) (hax : ax = 0 ∨ ax = 1) (w : World) :
    Calls Try.prog 25 #[.agg #[.int .i64 ax, .int .i64 t, .bool ab], .agg #[.int .i64 x, .int .i64 y]] w fun e w' => e = .returned (.bool (kpB ax t ab (x, y))) ∧ Below w.heap.size w w' := by
  rcases hax with rfl | rfl
  · rcases ab with _ | _
    · have HK : Hid (kpB 0 t false (x, y) = decide (x ≤ t)) := Lib.hid rfl
      go_enter Try.func25, Try.ntmps25
      go_wp2_with fail
      go_quiet (fail)
      go_wp2_with fail
      go_ret
      exact ⟨ret_b HK.out.symm, by repeat (first | with_reducible exact Below.refl _ _ | with_reducible refine bl_alloc ?_ _ | with_reducible refine bl_drewN ?_ _ | with_reducible refine bl_drew ?_ | (with_reducible refine bl_set ?_ ?_ _; rotate_left; focus (first | (simp; done) | (simp; omega) | omega)) | with_reducible refine below_step ?_ (Bw.below _) | with_reducible refine below_step ?_ (by assumption))⟩
    · have HK : Hid (kpB 0 t true (x, y) = decide (t ≤ x)) := Lib.hid rfl
      go_enter Try.func25, Try.ntmps25
      go_wp2_with fail
      go_quiet (fail)
      go_wp2_with fail
      go_ret
      exact ⟨ret_b HK.out.symm, by repeat (first | with_reducible exact Below.refl _ _ | with_reducible refine bl_alloc ?_ _ | with_reducible refine bl_drewN ?_ _ | with_reducible refine bl_drew ?_ | (with_reducible refine bl_set ?_ ?_ _; rotate_left; focus (first | (simp; done) | (simp; omega) | omega)) | with_reducible refine below_step ?_ (Bw.below _) | with_reducible refine below_step ?_ (by assumption))⟩
  · rcases ab with _ | _
    · have HK : Hid (kpB 1 t false (x, y) = decide (y ≤ t)) := Lib.hid rfl
      go_enter Try.func25, Try.ntmps25
      go_wp2_with fail
      go_quiet (fail)
      go_wp2_with fail
      go_ret
      exact ⟨ret_b HK.out.symm, by repeat (first | with_reducible exact Below.refl _ _ | with_reducible refine bl_alloc ?_ _ | with_reducible refine bl_drewN ?_ _ | with_reducible refine bl_drew ?_ | (with_reducible refine bl_set ?_ ?_ _; rotate_left; focus (first | (simp; done) | (simp; omega) | omega)) | with_reducible refine below_step ?_ (Bw.below _) | with_reducible refine below_step ?_ (by assumption))⟩
    · have HK : Hid (kpB 1 t true (x, y) = decide (t ≤ y)) := Lib.hid rfl
      go_enter Try.func25, Try.ntmps25
      go_wp2_with fail
      go_quiet (fail)
      go_wp2_with fail
      go_ret
      exact ⟨ret_b HK.out.symm, by repeat (first | with_reducible exact Below.refl _ _ | with_reducible refine bl_alloc ?_ _ | with_reducible refine bl_drewN ?_ _ | with_reducible refine bl_drew ?_ | (with_reducible refine bl_set ?_ ?_ _; rotate_left; focus (first | (simp; done) | (simp; omega) | omega)) | with_reducible refine below_step ?_ (Bw.below _) | with_reducible refine below_step ?_ (by assumption))⟩
set_option maxHeartbeats 2000000 in
theorem clip_between (ax t x y u v : Int) (ab : Bool) (hax : ax = 0 ∨ ax = 1) (w : World) :
    Calls Try.prog 26 #[.agg #[.int .i64 ax, .int .i64 t, .bool ab], .agg #[.int .i64 x, .int .i64 y], .agg #[.int .i64 u, .int .i64 v]] w fun e w' => e = .returned (.bool (btB ax t (x, y) (u, v))) ∧ Below w.heap.size w w' := by
  rcases hax with rfl | rfl
  · have HK : Hid (btB 0 t (x, y) (u, v) = decide ((x < t ∧ t < u) ∨ (u < t ∧ t < x))) := Lib.hid rfl
    by_cases h1 : x < t <;> by_cases h2 : t < u <;> by_cases h3 : u < t <;> by_cases h4 : t < x
    all_goals first
      | (exfalso; omega)
      | (have HT := Lib.hid (decide_eq_true (p := (x < t ∧ t < u) ∨ (u < t ∧ t < x)) (by omega))
         go_enter Try.func26, Try.ntmps26
         go_wp2_with fail
         go_quiet (fail)
         go_wp2_with fail
         go_ret
         exact ⟨ret_b (HK.out.trans HT.out).symm, by repeat (first | with_reducible exact Below.refl _ _ | with_reducible refine bl_alloc ?_ _ | with_reducible refine bl_drewN ?_ _ | with_reducible refine bl_drew ?_ | (with_reducible refine bl_set ?_ ?_ _; rotate_left; focus (first | (simp; done) | (simp; omega) | omega)) | with_reducible refine below_step ?_ (Bw.below _) | with_reducible refine below_step ?_ (by assumption))⟩)
      | (have HT := Lib.hid (decide_eq_false (p := (x < t ∧ t < u) ∨ (u < t ∧ t < x)) (by omega))
         go_enter Try.func26, Try.ntmps26
         go_wp2_with fail
         go_quiet (fail)
         go_wp2_with fail
         go_ret
         exact ⟨ret_b (Eq.trans (b := false) (by simp [h1, h2, h3, h4]) (HK.out.trans HT.out).symm), by repeat (first | with_reducible exact Below.refl _ _ | with_reducible refine bl_alloc ?_ _ | with_reducible refine bl_drewN ?_ _ | with_reducible refine bl_drew ?_ | (with_reducible refine bl_set ?_ ?_ _; rotate_left; focus (first | (simp; done) | (simp; omega) | omega)) | with_reducible refine below_step ?_ (Bw.below _) | with_reducible refine below_step ?_ (by assumption))⟩)
  · have HK : Hid (btB 1 t (x, y) (u, v) = decide ((y < t ∧ t < v) ∨ (v < t ∧ t < y))) := Lib.hid rfl
    by_cases h1 : y < t <;> by_cases h2 : t < v <;> by_cases h3 : v < t <;> by_cases h4 : t < y
    all_goals first
      | (exfalso; omega)
      | (have HT := Lib.hid (decide_eq_true (p := (y < t ∧ t < v) ∨ (v < t ∧ t < y)) (by omega))
         go_enter Try.func26, Try.ntmps26
         go_wp2_with fail
         go_quiet (fail)
         go_wp2_with fail
         go_ret
         exact ⟨ret_b (HK.out.trans HT.out).symm, by repeat (first | with_reducible exact Below.refl _ _ | with_reducible refine bl_alloc ?_ _ | with_reducible refine bl_drewN ?_ _ | with_reducible refine bl_drew ?_ | (with_reducible refine bl_set ?_ ?_ _; rotate_left; focus (first | (simp; done) | (simp; omega) | omega)) | with_reducible refine below_step ?_ (Bw.below _) | with_reducible refine below_step ?_ (by assumption))⟩)
      | (have HT := Lib.hid (decide_eq_false (p := (y < t ∧ t < v) ∨ (v < t ∧ t < y)) (by omega))
         go_enter Try.func26, Try.ntmps26
         go_wp2_with fail
         go_quiet (fail)
         go_wp2_with fail
         go_ret
         exact ⟨ret_b (Eq.trans (b := false) (by simp [h1, h2, h3, h4]) (HK.out.trans HT.out).symm), by repeat (first | with_reducible exact Below.refl _ _ | with_reducible refine bl_alloc ?_ _ | with_reducible refine bl_drewN ?_ _ | with_reducible refine bl_drew ?_ | (with_reducible refine bl_set ?_ ?_ _; rotate_left; focus (first | (simp; done) | (simp; omega) | omega)) | with_reducible refine below_step ?_ (Bw.below _) | with_reducible refine below_step ?_ (by assumption))⟩)
set_option maxRecDepth 100000 in
set_option maxHeartbeats 4000000 in
theorem clip_cross (ax t x y u v : Int) (ab : Bool) (hax : ax = 0 ∨ ax = 1) (hx : -1099511627776 ≤ x) (hx' : x ≤ 1099511627776) (hy : -1099511627776 ≤ y) (hy' : y ≤ 1099511627776)
    (h1 : -1073741824 ≤ u - x) (h2 : u - x ≤ 1073741824) (h3 : -1073741824 ≤ v - y) (h4 : v - y ≤ 1073741824) (hb : btB ax t (x, y) (u, v) = true) (w : World) :
    Calls Try.prog 27 #[.agg #[.int .i64 ax, .int .i64 t, .bool ab], .agg #[.int .i64 x, .int .i64 y], .agg #[.int .i64 u, .int .i64 v]] w fun e w' => e = .returned (.agg #[.int .i64 (crP ax t (x, y) (u, v)).1, .int .i64 (crP ax t (x, y) (u, v)).2]) ∧ Below w.heap.size w w' := by
  have hbt := btB_true hb
  rcases hax with rfl | rfl
  · have hbt' : (x < t ∧ t < u) ∨ (u < t ∧ t < x) := hbt
    have HC : Hid (crP 0 t (x, y) (u, v) = (t, y + flo ((v - y) * (t - x)) (u - x))) := Lib.hid rfl
    have m := mul30 (v - y) (t - x) (by omega) (by omega) (by omega) (by omega)
    obtain ⟨up, hup⟩ : ∃ up, (v - y) * (t - x) = up := ⟨_, rfl⟩
    rw [hup] at m HC
    obtain ⟨m1, m2⟩ := m
    have ht1 : -1100585369600 ≤ t := by omega
    have ht2 : t ≤ 1100585369600 := by omega
    clear hb hbt
    rcases hbt' with ⟨g1, g2⟩ | ⟨g1, g2⟩
    · have FL := num_floor_pos up (u - x) (by omega) (by omega) (by omega) (by omega)
      have hf : flo up (u - x) = up / (u - x) := if_neg (by omega)
      have q := fl_bd up (u - x) (by omega) (by omega) (by omega)
      have hq : -1152921504606846976 ≤ flo up (u - x) ∧ flo up (u - x) ≤ 1152921504606846976 := by
        rw [hf]
        exact div_bd _ _ 1152921504606846976 (by omega) (by omega) (by omega) (by omega)
      rw [← hf] at FL
      rw [show crP 0 t (x, y) (u, v) = _ from HC.out]
      have HFL := Lib.hid FL
      obtain ⟨q1, q2⟩ := hq
      clear FL hf q HC
      generalize flo up (u - x) = n at *
      generalize up % (u - x) = rm at *
      go_enter Try.func27, Try.ntmps27
      go_wp2_with fail
      go_quiet (fail)
      go_wp2_with fail
      go_quiet (fail)
      go_wp2_with fail
      go_quiet (fail)
      go_wp2_with fail
      refine (HFL.out _).mono ?_
      rintro e_f w_f ⟨rfl, nf, rfl⟩
      go_wp2_with fail
      refine wp_start (fun V => V.cell? ⟨w.heap.size, 0, none⟩ = some (.int .i64 0) ∧ V.cell? ⟨w.heap.size, 1, none⟩ = some (.int .i64 t) ∧ V.cell? ⟨w.heap.size, 2, none⟩ = some (.bool ab) ∧ V.cell? ⟨w.heap.size + 1, 0, none⟩ = some (.int .i64 x) ∧ V.cell? ⟨w.heap.size + 1, 1, none⟩ = some (.int .i64 y) ∧ V.cell? ⟨w.heap.size + 1 + 1, 0, none⟩ = some (.int .i64 u) ∧ V.cell? ⟨w.heap.size + 1 + 1, 1, none⟩ = some (.int .i64 v) ∧ V.cell? ⟨w.heap.size + 1 + 1 + 1, 0, none⟩ = some (.int .i64 0) ∧ V.frozen? ⟨w.heap.size + 1 + 1 + 1, 0, none⟩ = false ∧ V.cell? ⟨w.heap.size + 1 + 1 + 1, 1, none⟩ = some (.int .i64 0) ∧ V.frozen? ⟨w.heap.size + 1 + 1 + 1, 1, none⟩ = false ∧ V.cell? ⟨w.heap.size + 1 + 1 + 1 + 1, 0, none⟩ = some (.int .i64 0) ∧ V.frozen? ⟨w.heap.size + 1 + 1 + 1 + 1, 0, none⟩ = false ∧ V.cell? ⟨w.heap.size + 1 + 1 + 1 + 1, 1, none⟩ = some (.int .i64 0) ∧ V.frozen? ⟨w.heap.size + 1 + 1 + 1 + 1, 1, none⟩ = false ∧ Below w.heap.size w V) ⟨by first | with_reducible assumption | (simp [go_sem]; done), by first | with_reducible assumption | (simp [go_sem]; done), by first | with_reducible assumption | (simp [go_sem]; done), by first | with_reducible assumption | (simp [go_sem]; done), by first | with_reducible assumption | (simp [go_sem]; done), by first | with_reducible assumption | (simp [go_sem]; done), by first | with_reducible assumption | (simp [go_sem]; done), by first | with_reducible assumption | (simp [go_sem]; done), by first | with_reducible assumption | (simp [go_sem]; done), by first | with_reducible assumption | (simp [go_sem]; done), by first | with_reducible assumption | (simp [go_sem]; done), by first | with_reducible assumption | (simp [go_sem]; done), by first | with_reducible assumption | (simp [go_sem]; done), by first | with_reducible assumption | (simp [go_sem]; done), by first | with_reducible assumption | (simp [go_sem]; done), by repeat (first | with_reducible exact Below.refl _ _ | with_reducible refine bl_alloc ?_ _ | with_reducible refine bl_drewN ?_ _ | with_reducible refine bl_drew ?_ | (with_reducible refine bl_set ?_ ?_ _; rotate_left; focus (first | (simp; done) | (simp; omega) | omega)) | with_reducible refine below_step ?_ (Bw.below _) | with_reducible refine below_step ?_ (by assumption))⟩ ?_
      rintro V ⟨hc1, hc2, hc3, hc4, hc5, hc6, hc7, hc8, fc8, hc9, fc9, hc10, fc10, hc11, fc11, hWc⟩ gc
      have c1 := Bw.hold hc1
      have c2 := Bw.hold hc2
      have c3 := Bw.hold hc3
      have c4 := Bw.hold hc4
      have c5 := Bw.hold hc5
      have c6 := Bw.hold hc6
      have c7 := Bw.hold hc7
      have c8 := Bw.hold hc8
      have cf8 := Bw.free hc8 fc8
      have c9 := Bw.hold hc9
      have cf9 := Bw.free hc9 fc9
      have c10 := Bw.hold hc10
      have cf10 := Bw.free hc10 fc10
      have c11 := Bw.hold hc11
      have cf11 := Bw.free hc11 fc11
      have cz1 := fun g : Bw V => cell_lt (c1 g)
      have cy1 := fun g : Bw V => Nat.le_of_lt (cz1 g)
      have cz4 := fun g : Bw V => cell_lt (c4 g)
      have cy4 := fun g : Bw V => Nat.le_of_lt (cz4 g)
      have cz6 := fun g : Bw V => cell_lt (c6 g)
      have cy6 := fun g : Bw V => Nat.le_of_lt (cz6 g)
      have cz8 := fun g : Bw V => cell_lt (c8 g)
      have cy8 := fun g : Bw V => Nat.le_of_lt (cz8 g)
      have cz10 := fun g : Bw V => cell_lt (c10 g)
      have cy10 := fun g : Bw V => Nat.le_of_lt (cz10 g)
      clear hc1 hc2 hc3 hc4 hc5 hc6 hc7 hc8 fc8 hc9 fc9 hc10 fc10 hc11 fc11
      have i1 := c1 gc
      have i2 := c2 gc
      have i3 := c3 gc
      have i4 := c4 gc
      have i5 := c5 gc
      have i6 := c6 gc
      have i7 := c7 gc
      have i8 := c8 gc
      have if8 := cf8 gc
      have i9 := c9 gc
      have if9 := cf9 gc
      have i10 := c10 gc
      have if10 := cf10 gc
      have i11 := c11 gc
      have if11 := cf11 gc
      have hWi := below_step hWc (Bw.below gc)
      clear c1 c2 c3 c4 c5 c6 c7 c8 cf8 c9 cf9 c10 cf10 c11 cf11 cz1 cy1 cz4 cy4 cz6 cy6 cz8 cy8 cz10 cy10
      generalize Bw.out gc = w0 at *
      go_region
      go_wp2_with fail
      refine bodyPost_ret (v := .agg #[.int .i64 t, .int .i64 (y + n)]) (by simp [results, Try.results27, go_sem, i8, i9, i10, i11]) rfl ⟨rfl, by repeat (first | with_reducible exact Below.refl _ _ | with_reducible refine bl_alloc ?_ _ | with_reducible refine bl_drewN ?_ _ | with_reducible refine bl_drew ?_ | (with_reducible refine bl_set ?_ ?_ _; rotate_left; focus (first | (simp; done) | (simp; omega) | omega)) | with_reducible refine below_step ?_ (Bw.below _) | with_reducible refine below_step ?_ (by assumption))⟩
    · have FL := num_floor_pos (-up) (-(u - x)) (by omega) (by omega) (by omega) (by omega)
      have hf : flo up (u - x) = (-up) / (-(u - x)) := if_pos (by omega)
      have q := fl_bd (-up) (-(u - x)) (by omega) (by omega) (by omega)
      have hq : -1152921504606846976 ≤ flo up (u - x) ∧ flo up (u - x) ≤ 1152921504606846976 := by
        rw [hf]
        exact div_bd _ _ 1152921504606846976 (by omega) (by omega) (by omega) (by omega)
      rw [← hf] at FL
      rw [show crP 0 t (x, y) (u, v) = _ from HC.out]
      have HFL := Lib.hid FL
      obtain ⟨q1, q2⟩ := hq
      clear FL hf q HC
      generalize flo up (u - x) = n at *
      generalize -up % -(u - x) = rm at *
      go_enter Try.func27, Try.ntmps27
      go_wp2_with fail
      go_quiet (fail)
      go_wp2_with fail
      go_quiet (fail)
      go_wp2_with fail
      go_quiet (fail)
      go_wp2_with fail
      refine (HFL.out _).mono ?_
      rintro e_f w_f ⟨rfl, nf, rfl⟩
      go_wp2_with fail
      refine wp_start (fun V => V.cell? ⟨w.heap.size, 0, none⟩ = some (.int .i64 0) ∧ V.cell? ⟨w.heap.size, 1, none⟩ = some (.int .i64 t) ∧ V.cell? ⟨w.heap.size, 2, none⟩ = some (.bool ab) ∧ V.cell? ⟨w.heap.size + 1, 0, none⟩ = some (.int .i64 x) ∧ V.cell? ⟨w.heap.size + 1, 1, none⟩ = some (.int .i64 y) ∧ V.cell? ⟨w.heap.size + 1 + 1, 0, none⟩ = some (.int .i64 u) ∧ V.cell? ⟨w.heap.size + 1 + 1, 1, none⟩ = some (.int .i64 v) ∧ V.cell? ⟨w.heap.size + 1 + 1 + 1, 0, none⟩ = some (.int .i64 0) ∧ V.frozen? ⟨w.heap.size + 1 + 1 + 1, 0, none⟩ = false ∧ V.cell? ⟨w.heap.size + 1 + 1 + 1, 1, none⟩ = some (.int .i64 0) ∧ V.frozen? ⟨w.heap.size + 1 + 1 + 1, 1, none⟩ = false ∧ V.cell? ⟨w.heap.size + 1 + 1 + 1 + 1, 0, none⟩ = some (.int .i64 0) ∧ V.frozen? ⟨w.heap.size + 1 + 1 + 1 + 1, 0, none⟩ = false ∧ V.cell? ⟨w.heap.size + 1 + 1 + 1 + 1, 1, none⟩ = some (.int .i64 0) ∧ V.frozen? ⟨w.heap.size + 1 + 1 + 1 + 1, 1, none⟩ = false ∧ Below w.heap.size w V) ⟨by first | with_reducible assumption | (simp [go_sem]; done), by first | with_reducible assumption | (simp [go_sem]; done), by first | with_reducible assumption | (simp [go_sem]; done), by first | with_reducible assumption | (simp [go_sem]; done), by first | with_reducible assumption | (simp [go_sem]; done), by first | with_reducible assumption | (simp [go_sem]; done), by first | with_reducible assumption | (simp [go_sem]; done), by first | with_reducible assumption | (simp [go_sem]; done), by first | with_reducible assumption | (simp [go_sem]; done), by first | with_reducible assumption | (simp [go_sem]; done), by first | with_reducible assumption | (simp [go_sem]; done), by first | with_reducible assumption | (simp [go_sem]; done), by first | with_reducible assumption | (simp [go_sem]; done), by first | with_reducible assumption | (simp [go_sem]; done), by first | with_reducible assumption | (simp [go_sem]; done), by repeat (first | with_reducible exact Below.refl _ _ | with_reducible refine bl_alloc ?_ _ | with_reducible refine bl_drewN ?_ _ | with_reducible refine bl_drew ?_ | (with_reducible refine bl_set ?_ ?_ _; rotate_left; focus (first | (simp; done) | (simp; omega) | omega)) | with_reducible refine below_step ?_ (Bw.below _) | with_reducible refine below_step ?_ (by assumption))⟩ ?_
      rintro V ⟨hc1, hc2, hc3, hc4, hc5, hc6, hc7, hc8, fc8, hc9, fc9, hc10, fc10, hc11, fc11, hWc⟩ gc
      have c1 := Bw.hold hc1
      have c2 := Bw.hold hc2
      have c3 := Bw.hold hc3
      have c4 := Bw.hold hc4
      have c5 := Bw.hold hc5
      have c6 := Bw.hold hc6
      have c7 := Bw.hold hc7
      have c8 := Bw.hold hc8
      have cf8 := Bw.free hc8 fc8
      have c9 := Bw.hold hc9
      have cf9 := Bw.free hc9 fc9
      have c10 := Bw.hold hc10
      have cf10 := Bw.free hc10 fc10
      have c11 := Bw.hold hc11
      have cf11 := Bw.free hc11 fc11
      have cz1 := fun g : Bw V => cell_lt (c1 g)
      have cy1 := fun g : Bw V => Nat.le_of_lt (cz1 g)
      have cz4 := fun g : Bw V => cell_lt (c4 g)
      have cy4 := fun g : Bw V => Nat.le_of_lt (cz4 g)
      have cz6 := fun g : Bw V => cell_lt (c6 g)
      have cy6 := fun g : Bw V => Nat.le_of_lt (cz6 g)
      have cz8 := fun g : Bw V => cell_lt (c8 g)
      have cy8 := fun g : Bw V => Nat.le_of_lt (cz8 g)
      have cz10 := fun g : Bw V => cell_lt (c10 g)
      have cy10 := fun g : Bw V => Nat.le_of_lt (cz10 g)
      clear hc1 hc2 hc3 hc4 hc5 hc6 hc7 hc8 fc8 hc9 fc9 hc10 fc10 hc11 fc11
      have i1 := c1 gc
      have i2 := c2 gc
      have i3 := c3 gc
      have i4 := c4 gc
      have i5 := c5 gc
      have i6 := c6 gc
      have i7 := c7 gc
      have i8 := c8 gc
      have if8 := cf8 gc
      have i9 := c9 gc
      have if9 := cf9 gc
      have i10 := c10 gc
      have if10 := cf10 gc
      have i11 := c11 gc
      have if11 := cf11 gc
      have hWi := below_step hWc (Bw.below gc)
      clear c1 c2 c3 c4 c5 c6 c7 c8 cf8 c9 cf9 c10 cf10 c11 cf11 cz1 cy1 cz4 cy4 cz6 cy6 cz8 cy8 cz10 cy10
      generalize Bw.out gc = w0 at *
      go_region
      go_wp2_with fail
      refine bodyPost_ret (v := .agg #[.int .i64 t, .int .i64 (y + n)]) (by simp [results, Try.results27, go_sem, i8, i9, i10, i11]) rfl ⟨rfl, by repeat (first | with_reducible exact Below.refl _ _ | with_reducible refine bl_alloc ?_ _ | with_reducible refine bl_drewN ?_ _ | with_reducible refine bl_drew ?_ | (with_reducible refine bl_set ?_ ?_ _; rotate_left; focus (first | (simp; done) | (simp; omega) | omega)) | with_reducible refine below_step ?_ (Bw.below _) | with_reducible refine below_step ?_ (by assumption))⟩
  · have hbt' : (y < t ∧ t < v) ∨ (v < t ∧ t < y) := hbt
    have HC : Hid (crP 1 t (x, y) (u, v) = (x + flo ((u - x) * (t - y)) (v - y), t)) := Lib.hid rfl
    have m := mul30 (u - x) (t - y) (by omega) (by omega) (by omega) (by omega)
    obtain ⟨up, hup⟩ : ∃ up, (u - x) * (t - y) = up := ⟨_, rfl⟩
    rw [hup] at m HC
    obtain ⟨m1, m2⟩ := m
    have ht1 : -1100585369600 ≤ t := by omega
    have ht2 : t ≤ 1100585369600 := by omega
    clear hb hbt
    rcases hbt' with ⟨g1, g2⟩ | ⟨g1, g2⟩
    · have FL := num_floor_pos up (v - y) (by omega) (by omega) (by omega) (by omega)
      have hf : flo up (v - y) = up / (v - y) := if_neg (by omega)
      have q := fl_bd up (v - y) (by omega) (by omega) (by omega)
      have hq : -1152921504606846976 ≤ flo up (v - y) ∧ flo up (v - y) ≤ 1152921504606846976 := by
        rw [hf]
        exact div_bd _ _ 1152921504606846976 (by omega) (by omega) (by omega) (by omega)
      rw [← hf] at FL
      rw [show crP 1 t (x, y) (u, v) = _ from HC.out]
      have HFL := Lib.hid FL
      obtain ⟨q1, q2⟩ := hq
      clear FL hf q HC
      generalize flo up (v - y) = n at *
      generalize up % (v - y) = rm at *
      go_enter Try.func27, Try.ntmps27
      go_wp2_with fail
      go_quiet (fail)
      go_wp2_with fail
      go_quiet (fail)
      go_wp2_with fail
      go_quiet (fail)
      go_wp2_with fail
      refine (HFL.out _).mono ?_
      rintro e_f w_f ⟨rfl, nf, rfl⟩
      go_wp2_with fail
      refine wp_start (fun V => V.cell? ⟨w.heap.size, 0, none⟩ = some (.int .i64 1) ∧ V.cell? ⟨w.heap.size, 1, none⟩ = some (.int .i64 t) ∧ V.cell? ⟨w.heap.size, 2, none⟩ = some (.bool ab) ∧ V.cell? ⟨w.heap.size + 1, 0, none⟩ = some (.int .i64 x) ∧ V.cell? ⟨w.heap.size + 1, 1, none⟩ = some (.int .i64 y) ∧ V.cell? ⟨w.heap.size + 1 + 1, 0, none⟩ = some (.int .i64 u) ∧ V.cell? ⟨w.heap.size + 1 + 1, 1, none⟩ = some (.int .i64 v) ∧ V.cell? ⟨w.heap.size + 1 + 1 + 1, 0, none⟩ = some (.int .i64 0) ∧ V.frozen? ⟨w.heap.size + 1 + 1 + 1, 0, none⟩ = false ∧ V.cell? ⟨w.heap.size + 1 + 1 + 1, 1, none⟩ = some (.int .i64 0) ∧ V.frozen? ⟨w.heap.size + 1 + 1 + 1, 1, none⟩ = false ∧ V.cell? ⟨w.heap.size + 1 + 1 + 1 + 1, 0, none⟩ = some (.int .i64 0) ∧ V.frozen? ⟨w.heap.size + 1 + 1 + 1 + 1, 0, none⟩ = false ∧ V.cell? ⟨w.heap.size + 1 + 1 + 1 + 1, 1, none⟩ = some (.int .i64 0) ∧ V.frozen? ⟨w.heap.size + 1 + 1 + 1 + 1, 1, none⟩ = false ∧ Below w.heap.size w V) ⟨by first | with_reducible assumption | (simp [go_sem]; done), by first | with_reducible assumption | (simp [go_sem]; done), by first | with_reducible assumption | (simp [go_sem]; done), by first | with_reducible assumption | (simp [go_sem]; done), by first | with_reducible assumption | (simp [go_sem]; done), by first | with_reducible assumption | (simp [go_sem]; done), by first | with_reducible assumption | (simp [go_sem]; done), by first | with_reducible assumption | (simp [go_sem]; done), by first | with_reducible assumption | (simp [go_sem]; done), by first | with_reducible assumption | (simp [go_sem]; done), by first | with_reducible assumption | (simp [go_sem]; done), by first | with_reducible assumption | (simp [go_sem]; done), by first | with_reducible assumption | (simp [go_sem]; done), by first | with_reducible assumption | (simp [go_sem]; done), by first | with_reducible assumption | (simp [go_sem]; done), by repeat (first | with_reducible exact Below.refl _ _ | with_reducible refine bl_alloc ?_ _ | with_reducible refine bl_drewN ?_ _ | with_reducible refine bl_drew ?_ | (with_reducible refine bl_set ?_ ?_ _; rotate_left; focus (first | (simp; done) | (simp; omega) | omega)) | with_reducible refine below_step ?_ (Bw.below _) | with_reducible refine below_step ?_ (by assumption))⟩ ?_
      rintro V ⟨hc1, hc2, hc3, hc4, hc5, hc6, hc7, hc8, fc8, hc9, fc9, hc10, fc10, hc11, fc11, hWc⟩ gc
      have c1 := Bw.hold hc1
      have c2 := Bw.hold hc2
      have c3 := Bw.hold hc3
      have c4 := Bw.hold hc4
      have c5 := Bw.hold hc5
      have c6 := Bw.hold hc6
      have c7 := Bw.hold hc7
      have c8 := Bw.hold hc8
      have cf8 := Bw.free hc8 fc8
      have c9 := Bw.hold hc9
      have cf9 := Bw.free hc9 fc9
      have c10 := Bw.hold hc10
      have cf10 := Bw.free hc10 fc10
      have c11 := Bw.hold hc11
      have cf11 := Bw.free hc11 fc11
      have cz1 := fun g : Bw V => cell_lt (c1 g)
      have cy1 := fun g : Bw V => Nat.le_of_lt (cz1 g)
      have cz4 := fun g : Bw V => cell_lt (c4 g)
      have cy4 := fun g : Bw V => Nat.le_of_lt (cz4 g)
      have cz6 := fun g : Bw V => cell_lt (c6 g)
      have cy6 := fun g : Bw V => Nat.le_of_lt (cz6 g)
      have cz8 := fun g : Bw V => cell_lt (c8 g)
      have cy8 := fun g : Bw V => Nat.le_of_lt (cz8 g)
      have cz10 := fun g : Bw V => cell_lt (c10 g)
      have cy10 := fun g : Bw V => Nat.le_of_lt (cz10 g)
      clear hc1 hc2 hc3 hc4 hc5 hc6 hc7 hc8 fc8 hc9 fc9 hc10 fc10 hc11 fc11
      have i1 := c1 gc
      have i2 := c2 gc
      have i3 := c3 gc
      have i4 := c4 gc
      have i5 := c5 gc
      have i6 := c6 gc
      have i7 := c7 gc
      have i8 := c8 gc
      have if8 := cf8 gc
      have i9 := c9 gc
      have if9 := cf9 gc
      have i10 := c10 gc
      have if10 := cf10 gc
      have i11 := c11 gc
      have if11 := cf11 gc
      have hWi := below_step hWc (Bw.below gc)
      clear c1 c2 c3 c4 c5 c6 c7 c8 cf8 c9 cf9 c10 cf10 c11 cf11 cz1 cy1 cz4 cy4 cz6 cy6 cz8 cy8 cz10 cy10
      generalize Bw.out gc = w0 at *
      go_region
      go_wp2_with fail
      refine bodyPost_ret (v := .agg #[.int .i64 (x + n), .int .i64 t]) (by simp [results, Try.results27, go_sem, i8, i9, i10, i11]) rfl ⟨rfl, by repeat (first | with_reducible exact Below.refl _ _ | with_reducible refine bl_alloc ?_ _ | with_reducible refine bl_drewN ?_ _ | with_reducible refine bl_drew ?_ | (with_reducible refine bl_set ?_ ?_ _; rotate_left; focus (first | (simp; done) | (simp; omega) | omega)) | with_reducible refine below_step ?_ (Bw.below _) | with_reducible refine below_step ?_ (by assumption))⟩
    · have FL := num_floor_pos (-up) (-(v - y)) (by omega) (by omega) (by omega) (by omega)
      have hf : flo up (v - y) = (-up) / (-(v - y)) := if_pos (by omega)
      have q := fl_bd (-up) (-(v - y)) (by omega) (by omega) (by omega)
      have hq : -1152921504606846976 ≤ flo up (v - y) ∧ flo up (v - y) ≤ 1152921504606846976 := by
        rw [hf]
        exact div_bd _ _ 1152921504606846976 (by omega) (by omega) (by omega) (by omega)
      rw [← hf] at FL
      rw [show crP 1 t (x, y) (u, v) = _ from HC.out]
      have HFL := Lib.hid FL
      obtain ⟨q1, q2⟩ := hq
      clear FL hf q HC
      generalize flo up (v - y) = n at *
      generalize -up % -(v - y) = rm at *
      go_enter Try.func27, Try.ntmps27
      go_wp2_with fail
      go_quiet (fail)
      go_wp2_with fail
      go_quiet (fail)
      go_wp2_with fail
      go_quiet (fail)
      go_wp2_with fail
      refine (HFL.out _).mono ?_
      rintro e_f w_f ⟨rfl, nf, rfl⟩
      go_wp2_with fail
      refine wp_start (fun V => V.cell? ⟨w.heap.size, 0, none⟩ = some (.int .i64 1) ∧ V.cell? ⟨w.heap.size, 1, none⟩ = some (.int .i64 t) ∧ V.cell? ⟨w.heap.size, 2, none⟩ = some (.bool ab) ∧ V.cell? ⟨w.heap.size + 1, 0, none⟩ = some (.int .i64 x) ∧ V.cell? ⟨w.heap.size + 1, 1, none⟩ = some (.int .i64 y) ∧ V.cell? ⟨w.heap.size + 1 + 1, 0, none⟩ = some (.int .i64 u) ∧ V.cell? ⟨w.heap.size + 1 + 1, 1, none⟩ = some (.int .i64 v) ∧ V.cell? ⟨w.heap.size + 1 + 1 + 1, 0, none⟩ = some (.int .i64 0) ∧ V.frozen? ⟨w.heap.size + 1 + 1 + 1, 0, none⟩ = false ∧ V.cell? ⟨w.heap.size + 1 + 1 + 1, 1, none⟩ = some (.int .i64 0) ∧ V.frozen? ⟨w.heap.size + 1 + 1 + 1, 1, none⟩ = false ∧ V.cell? ⟨w.heap.size + 1 + 1 + 1 + 1, 0, none⟩ = some (.int .i64 0) ∧ V.frozen? ⟨w.heap.size + 1 + 1 + 1 + 1, 0, none⟩ = false ∧ V.cell? ⟨w.heap.size + 1 + 1 + 1 + 1, 1, none⟩ = some (.int .i64 0) ∧ V.frozen? ⟨w.heap.size + 1 + 1 + 1 + 1, 1, none⟩ = false ∧ Below w.heap.size w V) ⟨by first | with_reducible assumption | (simp [go_sem]; done), by first | with_reducible assumption | (simp [go_sem]; done), by first | with_reducible assumption | (simp [go_sem]; done), by first | with_reducible assumption | (simp [go_sem]; done), by first | with_reducible assumption | (simp [go_sem]; done), by first | with_reducible assumption | (simp [go_sem]; done), by first | with_reducible assumption | (simp [go_sem]; done), by first | with_reducible assumption | (simp [go_sem]; done), by first | with_reducible assumption | (simp [go_sem]; done), by first | with_reducible assumption | (simp [go_sem]; done), by first | with_reducible assumption | (simp [go_sem]; done), by first | with_reducible assumption | (simp [go_sem]; done), by first | with_reducible assumption | (simp [go_sem]; done), by first | with_reducible assumption | (simp [go_sem]; done), by first | with_reducible assumption | (simp [go_sem]; done), by repeat (first | with_reducible exact Below.refl _ _ | with_reducible refine bl_alloc ?_ _ | with_reducible refine bl_drewN ?_ _ | with_reducible refine bl_drew ?_ | (with_reducible refine bl_set ?_ ?_ _; rotate_left; focus (first | (simp; done) | (simp; omega) | omega)) | with_reducible refine below_step ?_ (Bw.below _) | with_reducible refine below_step ?_ (by assumption))⟩ ?_
      rintro V ⟨hc1, hc2, hc3, hc4, hc5, hc6, hc7, hc8, fc8, hc9, fc9, hc10, fc10, hc11, fc11, hWc⟩ gc
      have c1 := Bw.hold hc1
      have c2 := Bw.hold hc2
      have c3 := Bw.hold hc3
      have c4 := Bw.hold hc4
      have c5 := Bw.hold hc5
      have c6 := Bw.hold hc6
      have c7 := Bw.hold hc7
      have c8 := Bw.hold hc8
      have cf8 := Bw.free hc8 fc8
      have c9 := Bw.hold hc9
      have cf9 := Bw.free hc9 fc9
      have c10 := Bw.hold hc10
      have cf10 := Bw.free hc10 fc10
      have c11 := Bw.hold hc11
      have cf11 := Bw.free hc11 fc11
      have cz1 := fun g : Bw V => cell_lt (c1 g)
      have cy1 := fun g : Bw V => Nat.le_of_lt (cz1 g)
      have cz4 := fun g : Bw V => cell_lt (c4 g)
      have cy4 := fun g : Bw V => Nat.le_of_lt (cz4 g)
      have cz6 := fun g : Bw V => cell_lt (c6 g)
      have cy6 := fun g : Bw V => Nat.le_of_lt (cz6 g)
      have cz8 := fun g : Bw V => cell_lt (c8 g)
      have cy8 := fun g : Bw V => Nat.le_of_lt (cz8 g)
      have cz10 := fun g : Bw V => cell_lt (c10 g)
      have cy10 := fun g : Bw V => Nat.le_of_lt (cz10 g)
      clear hc1 hc2 hc3 hc4 hc5 hc6 hc7 hc8 fc8 hc9 fc9 hc10 fc10 hc11 fc11
      have i1 := c1 gc
      have i2 := c2 gc
      have i3 := c3 gc
      have i4 := c4 gc
      have i5 := c5 gc
      have i6 := c6 gc
      have i7 := c7 gc
      have i8 := c8 gc
      have if8 := cf8 gc
      have i9 := c9 gc
      have if9 := cf9 gc
      have i10 := c10 gc
      have if10 := cf10 gc
      have i11 := c11 gc
      have if11 := cf11 gc
      have hWi := below_step hWc (Bw.below gc)
      clear c1 c2 c3 c4 c5 c6 c7 c8 cf8 c9 cf9 c10 cf10 c11 cf11 cz1 cy1 cz4 cy4 cz6 cy6 cz8 cy8 cz10 cy10
      generalize Bw.out gc = w0 at *
      go_region
      go_wp2_with fail
      refine bodyPost_ret (v := .agg #[.int .i64 (x + n), .int .i64 t]) (by simp [results, Try.results27, go_sem, i8, i9, i10, i11]) rfl ⟨rfl, by repeat (first | with_reducible exact Below.refl _ _ | with_reducible refine bl_alloc ?_ _ | with_reducible refine bl_drewN ?_ _ | with_reducible refine bl_drew ?_ | (with_reducible refine bl_set ?_ ?_ _; rotate_left; focus (first | (simp; done) | (simp; omega) | omega)) | with_reducible refine below_step ?_ (Bw.below _) | with_reducible refine below_step ?_ (by assumption))⟩
end Go.Proofs.Ytnmehelejdbjaaa

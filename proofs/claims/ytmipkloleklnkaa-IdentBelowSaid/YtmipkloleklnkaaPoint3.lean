
/- The walks of apiarylaw3's Point and awake, plane.Width and the reference's Near of what is none. -/
import Derived.Test.YtmipkloleklnkaaNear3
namespace Go.Proofs.Ytmipkloleklnkaa
open Go.RowKit
set_option linter.unusedSimpArgs false
set_option linter.unusedVariables false
set_option maxHeartbeats 1000000 in
theorem ref_near_no (x y r : Int) (h : wdB x y = false ∨ rsB r = false) (w : World) :
    Calls Try.prog 45 #[.int .i64 x, .int .i64 y, .int .i64 r] w fun e w' => e = .returned (.tuple #[.agg #[.int .i64 0, .int .i64 0], .bool false]) ∧ Below w.heap.size w w' := by
  have WD := ref_world x y
  rcases hd : wdB x y with _ | _
  · rw [hd] at WD
    have HW := Lib.hid WD
    clear h hd WD
    go_enter Try.func45, Try.ntmps45
    go_wp2_with fail
    refine calls_start (fun V => V.cell? ⟨w.heap.size, 0, none⟩ = some (.int .i64 0) ∧ V.frozen? ⟨w.heap.size, 0, none⟩ = false ∧ V.cell? ⟨w.heap.size, 1, none⟩ = some (.int .i64 0) ∧ V.frozen? ⟨w.heap.size, 1, none⟩ = false ∧ Below w.heap.size w V) ⟨by first | with_reducible assumption | (simp [go_sem]; done), by first | with_reducible assumption | (simp [go_sem]; done), by first | with_reducible assumption | (simp [go_sem]; done), by first | with_reducible assumption | (simp [go_sem]; done), by repeat (first | with_reducible exact Below.refl _ _ | with_reducible refine bl_alloc ?_ _ | with_reducible refine bl_drewN ?_ _ | with_reducible refine bl_drew ?_ | (with_reducible refine bl_set ?_ ?_ _; rotate_left; focus (first | (simp; done) | (simp; omega) | omega)) | with_reducible refine below_step ?_ (Bw.below _) | with_reducible refine below_step ?_ (by assumption))⟩ ?_
    rintro V ⟨hc1, fc1, hc2, fc2, hWc⟩ gc
    have c1 := Bw.hold hc1
    have cf1 := Bw.free hc1 fc1
    have c2 := Bw.hold hc2
    have cf2 := Bw.free hc2 fc2
    have cz1 := fun g : Bw V => cell_lt (c1 g)
    have cy1 := fun g : Bw V => Nat.le_of_lt (cz1 g)
    clear hc1 fc1 hc2 fc2
    refine (HW.out _).mono ?_
    rintro e w1 ⟨rfl, rfl⟩
    go_wp2_with fail
    refine bodyPost_ret (v := .tuple #[.agg #[.int .i64 0, .int .i64 0], .bool false]) (by simp [results, Try.results45, go_sem, c1, c2, cz1]) rfl ⟨rfl, by repeat (first | with_reducible exact Below.refl _ _ | with_reducible refine bl_alloc ?_ _ | with_reducible refine bl_drewN ?_ _ | with_reducible refine bl_drew ?_ | (with_reducible refine bl_set ?_ ?_ _; rotate_left; focus (first | (simp; done) | (simp; omega) | omega)) | with_reducible refine below_step ?_ (Bw.below _) | with_reducible refine below_step ?_ (by assumption))⟩
  · have hr : rsB r = false := by
      rcases h with h | h
      · rw [hd] at h; cases h
      · exact h
    rw [hd] at WD
    have HW := Lib.hid WD
    have hr' : ¬ (0 ≤ r ∧ r ≤ 12) := of_decide_eq_false hr
    clear h hd hr WD
    by_cases c : r < 0
    · have t1 : decide (r < 0) = true := decide_eq_true c
      go_enter Try.func45, Try.ntmps45
      go_wp2_with fail
      refine calls_start (fun V => V.cell? ⟨w.heap.size, 0, none⟩ = some (.int .i64 0) ∧ V.frozen? ⟨w.heap.size, 0, none⟩ = false ∧ V.cell? ⟨w.heap.size, 1, none⟩ = some (.int .i64 0) ∧ V.frozen? ⟨w.heap.size, 1, none⟩ = false ∧ Below w.heap.size w V) ⟨by first | with_reducible assumption | (simp [go_sem]; done), by first | with_reducible assumption | (simp [go_sem]; done), by first | with_reducible assumption | (simp [go_sem]; done), by first | with_reducible assumption | (simp [go_sem]; done), by repeat (first | with_reducible exact Below.refl _ _ | with_reducible refine bl_alloc ?_ _ | with_reducible refine bl_drewN ?_ _ | with_reducible refine bl_drew ?_ | (with_reducible refine bl_set ?_ ?_ _; rotate_left; focus (first | (simp; done) | (simp; omega) | omega)) | with_reducible refine below_step ?_ (Bw.below _) | with_reducible refine below_step ?_ (by assumption))⟩ ?_
      rintro V ⟨hc1, fc1, hc2, fc2, hWc⟩ gc
      have c1 := Bw.hold hc1
      have cf1 := Bw.free hc1 fc1
      have c2 := Bw.hold hc2
      have cf2 := Bw.free hc2 fc2
      have cz1 := fun g : Bw V => cell_lt (c1 g)
      have cy1 := fun g : Bw V => Nat.le_of_lt (cz1 g)
      clear hc1 fc1 hc2 fc2
      refine (HW.out _).mono ?_
      rintro e w1 ⟨rfl, rfl⟩
      go_wp2_with fail
      refine bodyPost_ret (v := .tuple #[.agg #[.int .i64 0, .int .i64 0], .bool false]) (by simp [results, Try.results45, go_sem, c1, c2, cz1]) rfl ⟨rfl, by repeat (first | with_reducible exact Below.refl _ _ | with_reducible refine bl_alloc ?_ _ | with_reducible refine bl_drewN ?_ _ | with_reducible refine bl_drew ?_ | (with_reducible refine bl_set ?_ ?_ _; rotate_left; focus (first | (simp; done) | (simp; omega) | omega)) | with_reducible refine below_step ?_ (Bw.below _) | with_reducible refine below_step ?_ (by assumption))⟩
    · have t1 : decide (r < 0) = false := decide_eq_false c
      have t2 : decide (12 < r) = true := decide_eq_true (by omega)
      go_enter Try.func45, Try.ntmps45
      go_wp2_with fail
      refine calls_start (fun V => V.cell? ⟨w.heap.size, 0, none⟩ = some (.int .i64 0) ∧ V.frozen? ⟨w.heap.size, 0, none⟩ = false ∧ V.cell? ⟨w.heap.size, 1, none⟩ = some (.int .i64 0) ∧ V.frozen? ⟨w.heap.size, 1, none⟩ = false ∧ Below w.heap.size w V) ⟨by first | with_reducible assumption | (simp [go_sem]; done), by first | with_reducible assumption | (simp [go_sem]; done), by first | with_reducible assumption | (simp [go_sem]; done), by first | with_reducible assumption | (simp [go_sem]; done), by repeat (first | with_reducible exact Below.refl _ _ | with_reducible refine bl_alloc ?_ _ | with_reducible refine bl_drewN ?_ _ | with_reducible refine bl_drew ?_ | (with_reducible refine bl_set ?_ ?_ _; rotate_left; focus (first | (simp; done) | (simp; omega) | omega)) | with_reducible refine below_step ?_ (Bw.below _) | with_reducible refine below_step ?_ (by assumption))⟩ ?_
      rintro V ⟨hc1, fc1, hc2, fc2, hWc⟩ gc
      have c1 := Bw.hold hc1
      have cf1 := Bw.free hc1 fc1
      have c2 := Bw.hold hc2
      have cf2 := Bw.free hc2 fc2
      have cz1 := fun g : Bw V => cell_lt (c1 g)
      have cy1 := fun g : Bw V => Nat.le_of_lt (cz1 g)
      clear hc1 fc1 hc2 fc2
      refine (HW.out _).mono ?_
      rintro e w1 ⟨rfl, rfl⟩
      go_wp2_with fail
      refine bodyPost_ret (v := .tuple #[.agg #[.int .i64 0, .int .i64 0], .bool false]) (by simp [results, Try.results45, go_sem, c1, c2, cz1]) rfl ⟨rfl, by repeat (first | with_reducible exact Below.refl _ _ | with_reducible refine bl_alloc ?_ _ | with_reducible refine bl_drewN ?_ _ | with_reducible refine bl_drew ?_ | (with_reducible refine bl_set ?_ ?_ _; rotate_left; focus (first | (simp; done) | (simp; omega) | omega)) | with_reducible refine below_step ?_ (Bw.below _) | with_reducible refine below_step ?_ (by assumption))⟩
/-- A number's last 30 bits. -/
def ptV (x : Int) : Int := x % 1073741824
theorem ptV_bd (x : Int) : 0 ≤ ptV x ∧ ptV x < 1073741824 := by unfold ptV; omega
theorem pt_wd (x y : Int) : wdB (ptV x) (ptV y) = true := decide_eq_true ⟨(ptV_bd x).1, (ptV_bd x).2, (ptV_bd y).1, (ptV_bd y).2⟩
theorem law3_point (x y : Int) (hx : -9223372036854775808 ≤ x) (hx' : x ≤ 9223372036854775807) (hy : -9223372036854775808 ≤ y) (hy' : y ≤ 9223372036854775807) (w : World) : Calls Try.prog 44 #[.int .i64 x, .int .i64 y] w fun e w' => e = .returned (.tuple #[.int .i64 (ptV x), .int .i64 (ptV y)]) ∧ w = w' := by
  have M1 := i64_mask x 30 (by omega)
  have M2 := i64_mask y 30 (by omega)
  simp only [show ((2 ^ 30 - 1 : Nat) : Int) = 1073741823 from rfl, show ((2 ^ 30 : Nat) : Int) = 1073741824 from rfl] at M1 M2
  have E1 : Hid (bits .and .i64 x 1073741823 = ptV x) := Lib.hid M1
  have E2 : Hid (bits .and .i64 y 1073741823 = ptV y) := Lib.hid M2
  clear M1 M2
  go_enter Try.func44, Try.ntmps44
  go_wp2
  go_ret2
  exact ⟨by rw [E1.out, E2.out]; rfl, rfl⟩
end Go.Proofs.Ytmipkloleklnkaa

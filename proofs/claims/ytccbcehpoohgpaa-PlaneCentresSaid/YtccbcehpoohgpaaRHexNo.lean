/- The walks of the reference's Centre and Hex where there is none. -/
import Derived.Test.YtccbcehpoohgpaaRHex
namespace Go.Proofs.Ytccbcehpoohgpaa
open Go.RowKit
set_option linter.unusedSimpArgs false
set_option linter.unusedVariables false
set_option maxHeartbeats 2000000 in
theorem ref_centre_no (a b r : Int) (h : rsB r = false ∨ zOk a b = false) (w : World) :
    Calls Try.prog 24 #[.agg #[.int .i64 a, .int .i64 b], .int .i64 r] w fun e w' => e = .returned (.tuple #[.int .i64 0, .int .i64 0, .bool false]) ∧ Below w.heap.size w w' := by
  by_cases h0 : r < 0
  · have d0 : decide (r < 0) = true := decide_eq_true h0
    go_enter Try.func24, Try.ntmps24
    go_wp2_with fail
    go_ret3
    exact ⟨rfl, by repeat (first | with_reducible exact Below.refl _ _ | with_reducible refine bl_alloc ?_ _ | with_reducible refine bl_drewN ?_ _ | with_reducible refine bl_drew ?_ | (with_reducible refine bl_set ?_ ?_ _; rotate_left; focus (first | (simp; done) | (simp; omega) | omega)) | with_reducible refine below_step ?_ (Bw.below _) | with_reducible refine below_step ?_ (by assumption))⟩
  have d0 : decide (r < 0) = false := decide_eq_false h0
  by_cases h1 : 12 < r
  · have d1 : decide (12 < r) = true := decide_eq_true h1
    go_enter Try.func24, Try.ntmps24
    go_wp2_with fail
    go_ret3
    exact ⟨rfl, by repeat (first | with_reducible exact Below.refl _ _ | with_reducible refine bl_alloc ?_ _ | with_reducible refine bl_drewN ?_ _ | with_reducible refine bl_drew ?_ | (with_reducible refine bl_set ?_ ?_ _; rotate_left; focus (first | (simp; done) | (simp; omega) | omega)) | with_reducible refine below_step ?_ (Bw.below _) | with_reducible refine below_step ?_ (by assumption))⟩
  have d1 : decide (12 < r) = false := decide_eq_false h1
  by_cases h2 : a < -1073741824
  · have d2 : decide (a < -1073741824) = true := decide_eq_true h2
    go_enter Try.func24, Try.ntmps24
    go_wp2_with fail
    go_ret3
    exact ⟨rfl, by repeat (first | with_reducible exact Below.refl _ _ | with_reducible refine bl_alloc ?_ _ | with_reducible refine bl_drewN ?_ _ | with_reducible refine bl_drew ?_ | (with_reducible refine bl_set ?_ ?_ _; rotate_left; focus (first | (simp; done) | (simp; omega) | omega)) | with_reducible refine below_step ?_ (Bw.below _) | with_reducible refine below_step ?_ (by assumption))⟩
  have d2 : decide (a < -1073741824) = false := decide_eq_false h2
  by_cases h3 : 1073741824 < a
  · have d3 : decide (1073741824 < a) = true := decide_eq_true h3
    go_enter Try.func24, Try.ntmps24
    go_wp2_with fail
    go_ret3
    exact ⟨rfl, by repeat (first | with_reducible exact Below.refl _ _ | with_reducible refine bl_alloc ?_ _ | with_reducible refine bl_drewN ?_ _ | with_reducible refine bl_drew ?_ | (with_reducible refine bl_set ?_ ?_ _; rotate_left; focus (first | (simp; done) | (simp; omega) | omega)) | with_reducible refine below_step ?_ (Bw.below _) | with_reducible refine below_step ?_ (by assumption))⟩
  have d3 : decide (1073741824 < a) = false := decide_eq_false h3
  by_cases h4 : b < -1073741824
  · have d4 : decide (b < -1073741824) = true := decide_eq_true h4
    go_enter Try.func24, Try.ntmps24
    go_wp2_with fail
    go_ret3
    exact ⟨rfl, by repeat (first | with_reducible exact Below.refl _ _ | with_reducible refine bl_alloc ?_ _ | with_reducible refine bl_drewN ?_ _ | with_reducible refine bl_drew ?_ | (with_reducible refine bl_set ?_ ?_ _; rotate_left; focus (first | (simp; done) | (simp; omega) | omega)) | with_reducible refine below_step ?_ (Bw.below _) | with_reducible refine below_step ?_ (by assumption))⟩
  have d4 : decide (b < -1073741824) = false := decide_eq_false h4
  by_cases h5 : 1073741824 < b
  · have d5 : decide (1073741824 < b) = true := decide_eq_true h5
    go_enter Try.func24, Try.ntmps24
    go_wp2_with fail
    go_ret3
    exact ⟨rfl, by repeat (first | with_reducible exact Below.refl _ _ | with_reducible refine bl_alloc ?_ _ | with_reducible refine bl_drewN ?_ _ | with_reducible refine bl_drew ?_ | (with_reducible refine bl_set ?_ ?_ _; rotate_left; focus (first | (simp; done) | (simp; omega) | omega)) | with_reducible refine below_step ?_ (Bw.below _) | with_reducible refine below_step ?_ (by assumption))⟩
  have d5 : decide (1073741824 < b) = false := decide_eq_false h5
  rcases h with h | h
  · exact absurd (show rsB r = true from decide_eq_true (by omega)) (by rw [h]; decide)
  · exact absurd (show zOk a b = true from decide_eq_true (by omega)) (by rw [h]; decide)
set_option maxHeartbeats 1000000 in
theorem ref_hex_no (a b r : Int) (h : rsB r = false ∨ zOk a b = false) (w : World) :
    Calls Try.prog 25 #[.agg #[.int .i64 a, .int .i64 b], .int .i64 r] w fun e w' => e = .returned (.slice none 0 0) ∧ Below w.heap.size w w' := by
  have CE := Lib.hid (ref_centre_no a b r h)
  clear h
  go_enter Try.func25, Try.ntmps25
  go_wp2_with fail
  refine calls_start (fun V => V.cell? ⟨w.heap.size, 0, none⟩ = some (.int .i64 a) ∧ V.cell? ⟨w.heap.size, 1, none⟩ = some (.int .i64 b) ∧ Below w.heap.size w V) ⟨by first | with_reducible assumption | (simp [go_sem]; done), by first | with_reducible assumption | (simp [go_sem]; done), by repeat (first | with_reducible exact Below.refl _ _ | with_reducible refine bl_alloc ?_ _ | with_reducible refine bl_drewN ?_ _ | with_reducible refine bl_drew ?_ | (with_reducible refine bl_set ?_ ?_ _; rotate_left; focus (first | (simp; done) | (simp; omega) | omega)) | with_reducible refine below_step ?_ (Bw.below _) | with_reducible refine below_step ?_ (by assumption))⟩ ?_
  rintro V ⟨hc1, hc2, hWc⟩ gc
  have c1 := Bw.hold hc1
  have c2 := Bw.hold hc2
  have cz1 := fun g : Bw V => cell_lt (c1 g)
  have cy1 := fun g : Bw V => Nat.le_of_lt (cz1 g)
  clear hc1 hc2
  refine (CE.out _).mono ?_
  rintro e_g2 w_g2 ⟨rfl, hb_g2⟩
  obtain ⟨g2, rfl⟩ := gc.next hb_g2
  clear hb_g2
  go_wp2_with fail
  refine bodyPost_ret (v := .slice none 0 0) (by simp [results, Try.results25, go_sem]) rfl ⟨rfl, by repeat (first | with_reducible exact Below.refl _ _ | with_reducible refine bl_alloc ?_ _ | with_reducible refine bl_drewN ?_ _ | with_reducible refine bl_drew ?_ | (with_reducible refine bl_set ?_ ?_ _; rotate_left; focus (first | (simp; done) | (simp; omega) | omega)) | with_reducible refine below_step ?_ (Bw.below _) | with_reducible refine below_step ?_ (by assumption))⟩
end Go.Proofs.Ytccbcehpoohgpaa

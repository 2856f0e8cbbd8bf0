
/- The walks of ident's Ok, Res and Parent, of the reference's IsWord and WordUp, of the law's Word and awake. -/
import Derived.Test.YtmipkloleklnkaaIdText
import Derived.Test.YtmipkloleklnkaaTellOps
namespace Go.Proofs.Ytmipkloleklnkaa
open Go.RowKit
set_option linter.unusedSimpArgs false
set_option linter.unusedVariables false
def rsV (v : Int) : Int := if wG v then wR v else -1
theorem id_cell_no (v : Int) (hv : 0 ≤ v) (hv' : v < 18446744073709551616) (h : wG v = false) (w : World) :
    Calls Try.prog 12 #[.int .u64 v] w fun e w' => e = .returned (.tuple #[.agg #[.int .i64 0, .int .i64 0, .int .i64 0], .int .i64 5]) ∧ Below w.heap.size w w' := by
  obtain ⟨h1, h2, h3, h4⟩ := c_bad h
  have := id_cell v hv hv' w
  rw [h1, h2, h3, h4] at this
  exact this
theorem id_cell_yes (v : Int) (hv : 0 ≤ v) (hv' : v < 18446744073709551616) (h : wG v = true) (w : World) :
    Calls Try.prog 12 #[.int .u64 v] w fun e w' => e = .returned (.tuple #[.agg #[.int .i64 (wR v), .int .i64 (wZ v).1, .int .i64 (wZ v).2], .int .i64 0]) ∧ Below w.heap.size w w' := by
  obtain ⟨h1, h2, h3, h4⟩ := c_good h
  have := id_cell v hv hv' w
  rw [h1, h2, h3, h4] at this
  exact this
theorem ref_cell_no (v : Int) (hv : 0 ≤ v) (hv' : v < 18446744073709551616) (h : wG v = false) (w : World) :
    Calls Try.prog 27 #[.int .u64 v] w fun e w' => e = .returned (.tuple #[.agg #[.int .i64 0, .int .i64 0, .int .i64 0], .int .i64 5]) ∧ Below w.heap.size w w' := by
  obtain ⟨h1, h2, h3, h4⟩ := c_bad h
  have := ref_cell v hv hv' w
  rw [h1, h2, h3, h4] at this
  exact this
theorem ref_cell_yes (v : Int) (hv : 0 ≤ v) (hv' : v < 18446744073709551616) (h : wG v = true) (w : World) :
    Calls Try.prog 27 #[.int .u64 v] w fun e w' => e = .returned (.tuple #[.agg #[.int .i64 (wR v), .int .i64 (wZ v).1, .int .i64 (wZ v).2], .int .i64 0]) ∧ Below w.heap.size w w' := by
  obtain ⟨h1, h2, h3, h4⟩ := c_good h
  have := ref_cell v hv hv' w
  rw [h1, h2, h3, h4] at this
  exact this
set_option maxHeartbeats 1000000 in
theorem id_ok (v : Int) (hv : 0 ≤ v) (hv' : v < 18446744073709551616) (w : World) :
    Calls Try.prog 20 #[.int .u64 v] w fun e w' => e = .returned (.bool (wG v)) ∧ Below w.heap.size w w' := by
  rcases h : wG v with _ | _
  · have HC := Lib.hid (id_cell_no v hv hv' h)
    clear h
    go_enter Try.func20, Try.ntmps20
    go_wp2_with fail
    refine (HC.out _).mono ?_
    rintro e_h w_h ⟨rfl, hb_h⟩
    go_wp2_with fail
    go_ret
    exact ⟨rfl, by repeat (first | with_reducible exact Below.refl _ _ | with_reducible refine bl_alloc ?_ _ | with_reducible refine bl_drewN ?_ _ | with_reducible refine bl_drew ?_ | (with_reducible refine bl_set ?_ ?_ _; rotate_left; focus (first | (simp; done) | (simp; omega) | omega)) | with_reducible refine below_step ?_ (Bw.below _) | with_reducible refine below_step ?_ (by assumption))⟩
  · have HC := Lib.hid (id_cell_yes v hv hv' h)
    clear h
    go_enter Try.func20, Try.ntmps20
    go_wp2_with fail
    refine (HC.out _).mono ?_
    rintro e_h w_h ⟨rfl, hb_h⟩
    go_wp2_with fail
    go_ret
    exact ⟨rfl, by repeat (first | with_reducible exact Below.refl _ _ | with_reducible refine bl_alloc ?_ _ | with_reducible refine bl_drewN ?_ _ | with_reducible refine bl_drew ?_ | (with_reducible refine bl_set ?_ ?_ _; rotate_left; focus (first | (simp; done) | (simp; omega) | omega)) | with_reducible refine below_step ?_ (Bw.below _) | with_reducible refine below_step ?_ (by assumption))⟩
set_option maxHeartbeats 1000000 in
theorem id_res (v : Int) (hv : 0 ≤ v) (hv' : v < 18446744073709551616) (w : World) :
    Calls Try.prog 21 #[.int .u64 v] w fun e w' => e = .returned (.int .i64 (rsV v)) ∧ Below w.heap.size w w' := by
  rcases h : wG v with _ | _
  · have HC := Lib.hid (id_cell_no v hv hv' h)
    have e : rsV v = -1 := by unfold rsV; rw [h]; rfl
    rw [e]
    clear h e
    go_enter Try.func21, Try.ntmps21
    go_wp2_with fail
    refine (HC.out _).mono ?_
    rintro e_h w_h ⟨rfl, hb_h⟩
    go_wp2_with fail
    go_ret
    exact ⟨rfl, by repeat (first | with_reducible exact Below.refl _ _ | with_reducible refine bl_alloc ?_ _ | with_reducible refine bl_drewN ?_ _ | with_reducible refine bl_drew ?_ | (with_reducible refine bl_set ?_ ?_ _; rotate_left; focus (first | (simp; done) | (simp; omega) | omega)) | with_reducible refine below_step ?_ (Bw.below _) | with_reducible refine below_step ?_ (by assumption))⟩
  · have HC := Lib.hid (id_cell_yes v hv hv' h)
    have e : rsV v = wR v := by unfold rsV; rw [h]; rfl
    rw [e]
    clear h e
    go_enter Try.func21, Try.ntmps21
    go_wp2_with fail
    refine (HC.out _).mono ?_
    rintro e_h w_h ⟨rfl, hb_h⟩
    go_wp2_with fail
    go_ret
    exact ⟨rfl, by repeat (first | with_reducible exact Below.refl _ _ | with_reducible refine bl_alloc ?_ _ | with_reducible refine bl_drewN ?_ _ | with_reducible refine bl_drew ?_ | (with_reducible refine bl_set ?_ ?_ _; rotate_left; focus (first | (simp; done) | (simp; omega) | omega)) | with_reducible refine below_step ?_ (Bw.below _) | with_reducible refine below_step ?_ (by assumption))⟩
set_option maxHeartbeats 1000000 in
theorem ref_isword (v : Int) (hv : 0 ≤ v) (hv' : v < 18446744073709551616) (w : World) :
    Calls Try.prog 52 #[.int .u64 v] w fun e w' => e = .returned (.bool (wG v)) ∧ Below w.heap.size w w' := by
  rcases h : wG v with _ | _
  · have HC := Lib.hid (ref_cell_no v hv hv' h)
    clear h
    go_enter Try.func52, Try.ntmps52
    go_wp2_with fail
    refine (HC.out _).mono ?_
    rintro e_h w_h ⟨rfl, hb_h⟩
    go_wp2_with fail
    go_ret
    exact ⟨rfl, by repeat (first | with_reducible exact Below.refl _ _ | with_reducible refine bl_alloc ?_ _ | with_reducible refine bl_drewN ?_ _ | with_reducible refine bl_drew ?_ | (with_reducible refine bl_set ?_ ?_ _; rotate_left; focus (first | (simp; done) | (simp; omega) | omega)) | with_reducible refine below_step ?_ (Bw.below _) | with_reducible refine below_step ?_ (by assumption))⟩
  · have HC := Lib.hid (ref_cell_yes v hv hv' h)
    clear h
    go_enter Try.func52, Try.ntmps52
    go_wp2_with fail
    refine (HC.out _).mono ?_
    rintro e_h w_h ⟨rfl, hb_h⟩
    go_wp2_with fail
    go_ret
    exact ⟨rfl, by repeat (first | with_reducible exact Below.refl _ _ | with_reducible refine bl_alloc ?_ _ | with_reducible refine bl_drewN ?_ _ | with_reducible refine bl_drew ?_ | (with_reducible refine bl_set ?_ ?_ _; rotate_left; focus (first | (simp; done) | (simp; omega) | omega)) | with_reducible refine below_step ?_ (Bw.below _) | with_reducible refine below_step ?_ (by assumption))⟩
set_option maxHeartbeats 1000000 in
theorem id_up_no (v : Int) (hv : 0 ≤ v) (hv' : v < 18446744073709551616) (h : wG v = false) (w : World) :
    Calls Try.prog 26 #[.int .u64 v] w fun e w' => e = .returned (.tuple #[.int .u64 0, .int .i64 5]) ∧ Below w.heap.size w w' := by
  have HC := Lib.hid (id_cell_no v hv hv' h)
  clear h
  go_enter Try.func26, Try.ntmps26
  go_wp2_with fail
  refine (HC.out _).mono ?_
  rintro e_h w_h ⟨rfl, hb_h⟩
  go_wp2_with fail
  go_ret2
  exact ⟨rfl, by repeat (first | with_reducible exact Below.refl _ _ | with_reducible refine bl_alloc ?_ _ | with_reducible refine bl_drewN ?_ _ | with_reducible refine bl_drew ?_ | (with_reducible refine bl_set ?_ ?_ _; rotate_left; focus (first | (simp; done) | (simp; omega) | omega)) | with_reducible refine below_step ?_ (Bw.below _) | with_reducible refine below_step ?_ (by assumption))⟩
set_option maxHeartbeats 1000000 in
theorem id_up_top (v : Int) (hv : 0 ≤ v) (hv' : v < 18446744073709551616) (h : wG v = true) (h0 : wR v = 0) (w : World) :
    Calls Try.prog 26 #[.int .u64 v] w fun e w' => e = .returned (.tuple #[.int .u64 0, .int .i64 3]) ∧ Below w.heap.size w w' := by
  have CE := id_cell_yes v hv hv' h
  have ok := word_ok h
  rw [h0] at CE ok
  have HC := Lib.hid CE
  have PA := Lib.hid (cell_parent_top (wZ v).1 (wZ v).2 ok)
  clear CE ok h
  generalize (wZ v).1 = a at *
  generalize (wZ v).2 = b at *
  go_enter Try.func26, Try.ntmps26
  go_wp2_with fail
  refine (HC.out _).mono ?_
  rintro e_h w_h ⟨rfl, hb_h⟩
  go_wp2_with fail
  refine (PA.out _).mono ?_
  rintro e_q w_q ⟨rfl, hb_q⟩
  go_wp2_with fail
  go_ret2
  exact ⟨rfl, by repeat (first | with_reducible exact Below.refl _ _ | with_reducible refine bl_alloc ?_ _ | with_reducible refine bl_drewN ?_ _ | with_reducible refine bl_drew ?_ | (with_reducible refine bl_set ?_ ?_ _; rotate_left; focus (first | (simp; done) | (simp; omega) | omega)) | with_reducible refine below_step ?_ (Bw.below _) | with_reducible refine below_step ?_ (by assumption))⟩
set_option maxHeartbeats 1000000 in
theorem id_up (v : Int) (hv : 0 ≤ v) (hv' : v < 18446744073709551616) (n : Nat) (h : wG v = true) (h0 : wR v = (n : Int) + 1) (w : World) :
    Calls Try.prog 26 #[.int .u64 v] w fun e w' => e = .returned (.tuple #[.int .u64 (wv (upA (wZ v).1 (wZ v).2) (upB (wZ v).1 (wZ v).2) n), .int .i64 0]) ∧ Below w.heap.size w w' := by
  have CE := id_cell_yes v hv hv' h
  have ok := word_ok h
  rw [h0] at CE ok
  have HC := Lib.hid CE
  have P0 := cell_parent ((n : Int) + 1) (wZ v).1 (wZ v).2 ok (by omega)
  rw [show (n : Int) + 1 - 1 = (n : Int) by omega] at P0
  have PA := Lib.hid P0
  have OF := Lib.hid (id_of_yes (upA (wZ v).1 (wZ v).2) (upB (wZ v).1 (wZ v).2) n (ok_up ((n : Int) + 1) (wZ v).1 (wZ v).2 (n : Int) 1 ok (by omega) (by omega)))
  clear CE ok h P0
  generalize upA (wZ v).1 (wZ v).2 = ua at *
  generalize upB (wZ v).1 (wZ v).2 = ub at *
  generalize (wZ v).1 = a at *
  generalize (wZ v).2 = b at *
  go_enter Try.func26, Try.ntmps26
  go_wp2_with fail
  refine (HC.out _).mono ?_
  rintro e_h w_h ⟨rfl, hb_h⟩
  go_wp2_with fail
  refine (PA.out _).mono ?_
  rintro e_q w_q ⟨rfl, hb_q⟩
  go_wp2_with fail
  refine (OF.out _).mono ?_
  rintro e_p w_p ⟨rfl, hb_p⟩
  go_wp2_with fail
  go_ret2
  exact ⟨rfl, by repeat (first | with_reducible exact Below.refl _ _ | with_reducible refine bl_alloc ?_ _ | with_reducible refine bl_drewN ?_ _ | with_reducible refine bl_drew ?_ | (with_reducible refine bl_set ?_ ?_ _; rotate_left; focus (first | (simp; done) | (simp; omega) | omega)) | with_reducible refine below_step ?_ (Bw.below _) | with_reducible refine below_step ?_ (by assumption))⟩
set_option maxHeartbeats 1000000 in
theorem ref_up5_no (v : Int) (hv : 0 ≤ v) (hv' : v < 18446744073709551616) (h : wG v = false) (w : World) :
    Calls Try.prog 28 #[.int .u64 v] w fun e w' => e = .returned (.tuple #[.int .u64 0, .int .i64 5]) ∧ Below w.heap.size w w' := by
  have HC := Lib.hid (ref_cell_no v hv hv' h)
  clear h
  go_enter Try.func28, Try.ntmps28
  go_wp2_with fail
  refine (HC.out _).mono ?_
  rintro e_h w_h ⟨rfl, hb_h⟩
  go_wp2_with fail
  go_ret2
  exact ⟨rfl, by repeat (first | with_reducible exact Below.refl _ _ | with_reducible refine bl_alloc ?_ _ | with_reducible refine bl_drewN ?_ _ | with_reducible refine bl_drew ?_ | (with_reducible refine bl_set ?_ ?_ _; rotate_left; focus (first | (simp; done) | (simp; omega) | omega)) | with_reducible refine below_step ?_ (Bw.below _) | with_reducible refine below_step ?_ (by assumption))⟩
set_option maxHeartbeats 1000000 in
theorem ref_up5_top (v : Int) (hv : 0 ≤ v) (hv' : v < 18446744073709551616) (h : wG v = true) (h0 : wR v = 0) (w : World) :
    Calls Try.prog 28 #[.int .u64 v] w fun e w' => e = .returned (.tuple #[.int .u64 0, .int .i64 3]) ∧ Below w.heap.size w w' := by
  have CE := ref_cell_yes v hv hv' h
  have ok := word_ok h
  rw [h0] at CE ok
  have HC := Lib.hid CE
  have PA := Lib.hid (ref_par_top (wZ v).1 (wZ v).2 ok)
  clear CE ok h
  generalize (wZ v).1 = a at *
  generalize (wZ v).2 = b at *
  go_enter Try.func28, Try.ntmps28
  go_wp2_with fail
  refine (HC.out _).mono ?_
  rintro e_h w_h ⟨rfl, hb_h⟩
  go_wp2_with fail
  refine (PA.out _).mono ?_
  rintro e_q w_q ⟨rfl, hb_q⟩
  go_wp2_with fail
  go_ret2
  exact ⟨rfl, by repeat (first | with_reducible exact Below.refl _ _ | with_reducible refine bl_alloc ?_ _ | with_reducible refine bl_drewN ?_ _ | with_reducible refine bl_drew ?_ | (with_reducible refine bl_set ?_ ?_ _; rotate_left; focus (first | (simp; done) | (simp; omega) | omega)) | with_reducible refine below_step ?_ (Bw.below _) | with_reducible refine below_step ?_ (by assumption))⟩
set_option maxHeartbeats 1000000 in
theorem ref_up5 (v : Int) (hv : 0 ≤ v) (hv' : v < 18446744073709551616) (n : Nat) (h : wG v = true) (h0 : wR v = (n : Int) + 1) (w : World) :
    Calls Try.prog 28 #[.int .u64 v] w fun e w' => e = .returned (.tuple #[.int .u64 (wv (upA (wZ v).1 (wZ v).2) (upB (wZ v).1 (wZ v).2) n), .int .i64 0]) ∧ Below w.heap.size w w' := by
  have CE := ref_cell_yes v hv hv' h
  have ok := word_ok h
  rw [h0] at CE ok
  have HC := Lib.hid CE
  have P0 := ref_par ((n : Int) + 1) (wZ v).1 (wZ v).2 ok (by omega)
  rw [show (n : Int) + 1 - 1 = (n : Int) by omega] at P0
  have PA := Lib.hid P0
  have OF := Lib.hid (ref_word_yes (upA (wZ v).1 (wZ v).2) (upB (wZ v).1 (wZ v).2) n (ok_up ((n : Int) + 1) (wZ v).1 (wZ v).2 (n : Int) 1 ok (by omega) (by omega)))
  clear CE ok h P0
  generalize upA (wZ v).1 (wZ v).2 = ua at *
  generalize upB (wZ v).1 (wZ v).2 = ub at *
  generalize (wZ v).1 = a at *
  generalize (wZ v).2 = b at *
  go_enter Try.func28, Try.ntmps28
  go_wp2_with fail
  refine (HC.out _).mono ?_
  rintro e_h w_h ⟨rfl, hb_h⟩
  go_wp2_with fail
  refine (PA.out _).mono ?_
  rintro e_q w_q ⟨rfl, hb_q⟩
  go_wp2_with fail
  refine (OF.out _).mono ?_
  rintro e_p w_p ⟨rfl, hb_p⟩
  go_wp2_with fail
  go_ret2
  exact ⟨rfl, by repeat (first | with_reducible exact Below.refl _ _ | with_reducible refine bl_alloc ?_ _ | with_reducible refine bl_drewN ?_ _ | with_reducible refine bl_drew ?_ | (with_reducible refine bl_set ?_ ?_ _; rotate_left; focus (first | (simp; done) | (simp; omega) | omega)) | with_reducible refine below_step ?_ (Bw.below _) | with_reducible refine below_step ?_ (by assumption))⟩
set_option maxHeartbeats 1000000 in
theorem law5_word (x y r : Int) (hx : -9223372036854775808 ≤ x) (hx' : x ≤ 9223372036854775807) (hy : -9223372036854775808 ≤ y) (hy' : y ≤ 9223372036854775807) (hr : -9223372036854775808 ≤ r) (hr' : r ≤ 9223372036854775807) (w : World) :
    Calls Try.prog 11 #[.int .i64 x, .int .i64 y, .int .i64 r] w fun e w' => ∃ a b : Int, e = .returned (.int .u64 (wv a b ((r.tmod 13 + 13).tmod 13).toNat)) ∧ okB ((r.tmod 13 + 13).tmod 13) a b = true ∧ Below w.heap.size w w' := by
  have SM0 := law4_some x y r hx hx' hy hy' hr hr'
  generalize (r.tmod 13 + 13).tmod 13 = R at SM0 ⊢
  have SM := Lib.hid SM0
  clear SM0
  go_enter Try.func11, Try.ntmps11
  go_wp2_with fail
  refine (SM.out _).mono ?_
  rintro e_h w_h ⟨a, b, rfl, hok, hb_h⟩
  obtain ⟨⟨r1, _⟩, _, _⟩ := okB_true hok
  obtain ⟨n, hn⟩ : ∃ n : Nat, R = (n : Int) := ⟨R.toNat, by omega⟩
  subst hn
  have WD := Lib.hid (ref_word_yes a b n hok)
  have HOK := Lib.hid hok
  have HN : Hid ((n : Int).toNat = n) := Lib.hid (Int.toNat_natCast n)
  clear hok
  go_wp2_with fail
  refine (WD.out _).mono ?_
  rintro e_q w_q ⟨rfl, hb_q⟩
  go_wp2_with fail
  go_ret
  exact ⟨a, b, ret_u (by rw [HN.out]), HOK.out, by repeat (first | with_reducible exact Below.refl _ _ | with_reducible refine bl_alloc ?_ _ | with_reducible refine bl_drewN ?_ _ | with_reducible refine bl_drew ?_ | (with_reducible refine bl_set ?_ ?_ _; rotate_left; focus (first | (simp; done) | (simp; omega) | omega)) | with_reducible refine below_step ?_ (Bw.below _) | with_reducible refine below_step ?_ (by assumption))⟩
set_option maxRecDepth 100000 in
set_option maxHeartbeats 1000000 in
theorem awake5 (w : World) : Calls Try.prog 15 #[] w fun e w' => e = .returned (.bool true) ∧ Below w.heap.size w w' := by
  have O := id_of_yes 0 0 0 (by kernel_rfl)
  rw [show wv 0 0 0 = 1188985554717376511 by kernel_rfl] at O
  have R1 := id_res 1188985554717376511 (by decide) (by decide)
  rw [show rsV 1188985554717376511 = 0 by kernel_rfl] at R1
  have R2 := id_res 0 (by decide) (by decide)
  rw [show rsV 0 = -1 by kernel_rfl] at R2
  have T := id_text 1188985554717376511 (by decide) (by decide)
  rw [show hexS 1188985554717376511 = ⟨#[49, 48, 56, 48, 50, 48, 48, 102, 102, 102, 102, 102, 102, 102, 102, 102]⟩ by kernel_rfl] at T
  have HO := Lib.hid O
  have H1 := Lib.hid R1
  have H2 := Lib.hid R2
  have HT := Lib.hid T
  clear O R1 R2 T
  go_enter Try.func15, Try.ntmps15
  go_wp2_with fail
  refine (HO.out _).mono ?_
  rintro e_1 w_1 ⟨rfl, hb_1⟩
  go_wp2_with fail
  refine (H1.out _).mono ?_
  rintro e_2 w_2 ⟨rfl, hb_2⟩
  go_wp2_with fail
  refine (H2.out _).mono ?_
  rintro e_3 w_3 ⟨rfl, hb_3⟩
  go_wp2_with fail
  refine (HT.out _).mono ?_
  rintro e_4 w_4 ⟨rfl, hb_4⟩
  go_wp2_with fail
  go_ret
  exact ⟨rfl, by repeat (first | with_reducible exact Below.refl _ _ | with_reducible refine bl_alloc ?_ _ | with_reducible refine bl_drewN ?_ _ | with_reducible refine bl_drew ?_ | (with_reducible refine bl_set ?_ ?_ _; rotate_left; focus (first | (simp; done) | (simp; omega) | omega)) | with_reducible refine below_step ?_ (Bw.below _) | with_reducible refine below_step ?_ (by assumption))⟩
end Go.Proofs.Ytmipkloleklnkaa

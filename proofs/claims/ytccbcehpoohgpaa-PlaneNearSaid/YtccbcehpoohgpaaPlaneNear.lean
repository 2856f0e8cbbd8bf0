/- PlaneNear: which centre is nearest to a point, of each size, is told as the document says. No condition. -/
import Derived.Test.YtccbcehpoohgpaaRow
import Derived.Test.YtccbcehpoohgpaaPoint3
namespace Go.Proofs.Ytccbcehpoohgpaa
open Go.RowKit
set_option linter.unusedSimpArgs false
set_option linter.unusedVariables false
theorem near_both (x y r : Int) : ∃ (a b : Int) (k : Bool),
    Hid (∀ w, Calls Try.prog 13 #[.int .i64 x, .int .i64 y, .int .i64 r] w fun e w' => e = .returned (.tuple #[.agg #[.int .i64 a, .int .i64 b], .bool k]) ∧ Below w.heap.size w w') ∧
    Hid (∀ w, Calls Try.prog 14 #[.int .i64 x, .int .i64 y, .int .i64 r] w fun e w' => e = .returned (.tuple #[.agg #[.int .i64 a, .int .i64 b], .bool k]) ∧ Below w.heap.size w w') := by
  rcases hd : wdB x y with _ | _
  · exact ⟨0, 0, false, Lib.hid (plane_near_no x y r (.inl hd)), Lib.hid (ref_near_no x y r (.inl hd))⟩
  · rcases hr : rsB r with _ | _
    · exact ⟨0, 0, false, Lib.hid (plane_near_no x y r (.inr hr)), Lib.hid (ref_near_no x y r (.inr hr))⟩
    · obtain ⟨r1, r2⟩ := rsB_true hr
      obtain ⟨K, hK⟩ : ∃ K : Nat, 12 - r = (K : Int) := ⟨(12 - r).toNat, by omega⟩
      exact ⟨_, _, true, Lib.hid (plane_near x y r K (by omega) hK hd), Lib.hid (ref_near x y r K (by omega) hK hd)⟩
def PNRel (w : World) (x y r i : Value) (W : World) : Prop :=
  ∃ X Y R : Int, ∃ j : Nat, j ≤ 2 ∧ x = .int .i64 X ∧ y = .int .i64 Y ∧ r = .int .i64 R ∧ i = .int .i64 j ∧ Below w.heap.size w W
set_option maxRecDepth 100000 in
set_option maxHeartbeats 1000000 in
theorem planenear_walk (x y r : Int) (hx : -9223372036854775808 ≤ x) (hx' : x ≤ 9223372036854775807) (hy : -9223372036854775808 ≤ y) (hy' : y ≤ 9223372036854775807) (hr : -9223372036854775808 ≤ r) (hr' : r ≤ 9223372036854775807) (w : World) : Calls Try.prog 3 #[.int .i64 x, .int .i64 y, .int .i64 r] w fun e w' => e = .returned (.bool true) ∧ Below w.heap.size w w' := by
  have PT := Lib.hid (law3_point x y hx hx' hy hy')
  go_enter Try.func3, Try.ntmps3
  go_wp2_with fail
  refine (PT.out _).mono ?_
  rintro e w1 ⟨rfl, rfl⟩
  go_wp2_with fail
  clear PT hx hx' hy hy' hr hr'
  generalize ptV x = u
  generalize ptV y = v
  go_loopw [0, 1, 2, 9] (fun x y r i W => PNRel w x y r i W) (fun _ _ _ i _ => 2 - (intOf i).toNat)
  case atStart => exact ⟨x, y, r, 0, by omega, rfl, rfl, rfl, rfl, by repeat (first | exact Below.refl _ _ | refine bl_alloc ?_ _ | refine bl_drewN ?_ _ | refine bl_drew ?_ | refine bl_set ?_ (by first | (simp; done) | (simp; omega) | omega) _ | refine below_step ?_ (by assumption) | refine below_step ?_ (Bw.below _))⟩
  case round =>
    obtain ⟨X, Y, R, j, hj, rfl, rfl, rfl, rfl, hb⟩ := hrel
    by_cases hlt : j < 2
    · obtain ⟨a, b, k, N1, N2⟩ := near_both X Y R
      have O := plane_ok X Y
      have WD := ref_world X Y
      rcases hd : wdB X Y with _ | _
      · have AX := Lib.hid (plane_axial_no X Y hd)
        rw [hd] at O WD
        have HO := Lib.hid O
        have HW := Lib.hid WD
        clear O WD hd
        go_wp2_with fail
        refine calls_start (fun V => Below w.heap.size w V) (by repeat (first | with_reducible exact Below.refl _ _ | with_reducible refine bl_alloc ?_ _ | with_reducible refine bl_drewN ?_ _ | with_reducible refine bl_drew ?_ | (with_reducible refine bl_set ?_ ?_ _; rotate_left; focus (first | (simp; done) | (simp; omega) | omega)) | with_reducible refine below_step ?_ (Bw.below _) | with_reducible refine below_step ?_ (by assumption))) ?_
        rintro V hWc gc
        refine (N1.out _).mono ?_
        rintro e_g2 w_g2 ⟨rfl, hb_g2⟩
        obtain ⟨g2, rfl⟩ := gc.next hb_g2
        clear hb_g2
        go_wp2_with fail
        refine calls_start (fun V2 => V2.cell? ⟨g2.out.heap.size, 0, none⟩ = some (.int .i64 a) ∧ V2.cell? ⟨g2.out.heap.size, 1, none⟩ = some (.int .i64 b) ∧ Below w.heap.size w V2) ⟨by first | (simp [go_sem]; done), by first | (simp [go_sem]; done), by repeat (first | with_reducible exact Below.refl _ _ | with_reducible refine bl_alloc ?_ _ | with_reducible refine bl_drewN ?_ _ | with_reducible refine bl_drew ?_ | (with_reducible refine bl_set ?_ ?_ _; rotate_left; focus (first | (simp; done) | (simp; omega) | omega)) | with_reducible refine below_step ?_ (Bw.below _) | with_reducible refine below_step ?_ (by assumption))⟩ ?_
        rintro V2 ⟨hd1, hd2, hWd⟩ gd
        have d1 := Bw.hold hd1
        have d2 := Bw.hold hd2
        have dz1 := fun g : Bw V2 => cell_lt (d1 g)
        have dy1 := fun g : Bw V2 => Nat.le_of_lt (dz1 g)
        clear hd1 hd2
        refine (N2.out _).mono ?_
        rintro e_g3 w_g3 ⟨rfl, hb_g3⟩
        obtain ⟨g3, rfl⟩ := gd.next hb_g3
        clear hb_g3
        go_wp2_with fail
        refine calls_start (fun V3 => V3.cell? ⟨g2.out.heap.size, 0, none⟩ = some (.int .i64 a) ∧ V3.cell? ⟨g2.out.heap.size, 1, none⟩ = some (.int .i64 b) ∧ V3.cell? ⟨g3.out.heap.size, 0, none⟩ = some (.int .i64 a) ∧ V3.cell? ⟨g3.out.heap.size, 1, none⟩ = some (.int .i64 b) ∧ Below w.heap.size w V3) ⟨by first | (simp [go_sem]; done) | with_reducible exact hold_al d1 _ _ | with_reducible exact hold_al d2 _ _ | (simp [go_sem, d1, d2, dz1, dy1]; done), by first | (simp [go_sem]; done) | with_reducible exact hold_al d1 _ _ | with_reducible exact hold_al d2 _ _ | (simp [go_sem, d1, d2, dz1, dy1]; done), by first | (simp [go_sem]; done) | with_reducible exact hold_al d1 _ _ | with_reducible exact hold_al d2 _ _ | (simp [go_sem, d1, d2, dz1, dy1]; done), by first | (simp [go_sem]; done) | with_reducible exact hold_al d1 _ _ | with_reducible exact hold_al d2 _ _ | (simp [go_sem, d1, d2, dz1, dy1]; done), by repeat (first | with_reducible exact Below.refl _ _ | with_reducible refine bl_alloc ?_ _ | with_reducible refine bl_drewN ?_ _ | with_reducible refine bl_drew ?_ | (with_reducible refine bl_set ?_ ?_ _; rotate_left; focus (first | (simp; done) | (simp; omega) | omega)) | with_reducible refine below_step ?_ (Bw.below _) | with_reducible refine below_step ?_ (by assumption))⟩ ?_
        rintro V3 ⟨hq1, hq2, hq3, hq4, hWq⟩ gq
        have q1 := Bw.hold hq1
        have q2 := Bw.hold hq2
        have q3 := Bw.hold hq3
        have q4 := Bw.hold hq4
        have qz1 := fun g : Bw V3 => cell_lt (q1 g)
        have qy1 := fun g : Bw V3 => Nat.le_of_lt (qz1 g)
        have qz3 := fun g : Bw V3 => cell_lt (q3 g)
        have qy3 := fun g : Bw V3 => Nat.le_of_lt (qz3 g)
        clear hq1 hq2 hq3 hq4
        clear d1 d2 dz1 dy1
        refine (AX.out _).mono ?_
        rintro e_g4 w_g4 ⟨rfl, hb_g4⟩
        obtain ⟨g4, rfl⟩ := gq.next hb_g4
        clear hb_g4
        go_wp2_with fail
        refine (HW.out _).mono ?_
        rintro e w1 ⟨rfl, rfl⟩
        go_wp2_with fail
        refine (HO.out _).mono ?_
        rintro e w1 ⟨rfl, rfl⟩
        go_wp2_with fail
        go_roundw
        case rel => exact ⟨u, v, _, j + 1, by omega, rfl, rfl, rfl, by go_num, by repeat (first | with_reducible exact Below.refl _ _ | with_reducible refine bl_alloc ?_ _ | with_reducible refine bl_drewN ?_ _ | with_reducible refine bl_drew ?_ | (with_reducible refine bl_set ?_ ?_ _; rotate_left; focus (first | (simp; done) | (simp; omega) | omega)) | with_reducible refine below_step ?_ (Bw.below _) | with_reducible refine below_step ?_ (by assumption))⟩
        case measure => simp [intOf]; omega
      · have AX := Lib.hid (plane_axial_yes X Y hd)
        obtain ⟨x1, x2, x3, x4⟩ := wdB_true hd
        rw [hd] at O WD
        have HO := Lib.hid O
        have HW := Lib.hid WD
        clear O WD hd
        go_wp2_with fail
        refine calls_start (fun V => Below w.heap.size w V) (by repeat (first | with_reducible exact Below.refl _ _ | with_reducible refine bl_alloc ?_ _ | with_reducible refine bl_drewN ?_ _ | with_reducible refine bl_drew ?_ | (with_reducible refine bl_set ?_ ?_ _; rotate_left; focus (first | (simp; done) | (simp; omega) | omega)) | with_reducible refine below_step ?_ (Bw.below _) | with_reducible refine below_step ?_ (by assumption))) ?_
        rintro V hWc gc
        refine (N1.out _).mono ?_
        rintro e_g2 w_g2 ⟨rfl, hb_g2⟩
        obtain ⟨g2, rfl⟩ := gc.next hb_g2
        clear hb_g2
        go_wp2_with fail
        refine calls_start (fun V2 => V2.cell? ⟨g2.out.heap.size, 0, none⟩ = some (.int .i64 a) ∧ V2.cell? ⟨g2.out.heap.size, 1, none⟩ = some (.int .i64 b) ∧ Below w.heap.size w V2) ⟨by first | (simp [go_sem]; done), by first | (simp [go_sem]; done), by repeat (first | with_reducible exact Below.refl _ _ | with_reducible refine bl_alloc ?_ _ | with_reducible refine bl_drewN ?_ _ | with_reducible refine bl_drew ?_ | (with_reducible refine bl_set ?_ ?_ _; rotate_left; focus (first | (simp; done) | (simp; omega) | omega)) | with_reducible refine below_step ?_ (Bw.below _) | with_reducible refine below_step ?_ (by assumption))⟩ ?_
        rintro V2 ⟨hd1, hd2, hWd⟩ gd
        have d1 := Bw.hold hd1
        have d2 := Bw.hold hd2
        have dz1 := fun g : Bw V2 => cell_lt (d1 g)
        have dy1 := fun g : Bw V2 => Nat.le_of_lt (dz1 g)
        clear hd1 hd2
        refine (N2.out _).mono ?_
        rintro e_g3 w_g3 ⟨rfl, hb_g3⟩
        obtain ⟨g3, rfl⟩ := gd.next hb_g3
        clear hb_g3
        go_wp2_with fail
        refine calls_start (fun V3 => V3.cell? ⟨g2.out.heap.size, 0, none⟩ = some (.int .i64 a) ∧ V3.cell? ⟨g2.out.heap.size, 1, none⟩ = some (.int .i64 b) ∧ V3.cell? ⟨g3.out.heap.size, 0, none⟩ = some (.int .i64 a) ∧ V3.cell? ⟨g3.out.heap.size, 1, none⟩ = some (.int .i64 b) ∧ Below w.heap.size w V3) ⟨by first | (simp [go_sem]; done) | with_reducible exact hold_al d1 _ _ | with_reducible exact hold_al d2 _ _ | (simp [go_sem, d1, d2, dz1, dy1]; done), by first | (simp [go_sem]; done) | with_reducible exact hold_al d1 _ _ | with_reducible exact hold_al d2 _ _ | (simp [go_sem, d1, d2, dz1, dy1]; done), by first | (simp [go_sem]; done) | with_reducible exact hold_al d1 _ _ | with_reducible exact hold_al d2 _ _ | (simp [go_sem, d1, d2, dz1, dy1]; done), by first | (simp [go_sem]; done) | with_reducible exact hold_al d1 _ _ | with_reducible exact hold_al d2 _ _ | (simp [go_sem, d1, d2, dz1, dy1]; done), by repeat (first | with_reducible exact Below.refl _ _ | with_reducible refine bl_alloc ?_ _ | with_reducible refine bl_drewN ?_ _ | with_reducible refine bl_drew ?_ | (with_reducible refine bl_set ?_ ?_ _; rotate_left; focus (first | (simp; done) | (simp; omega) | omega)) | with_reducible refine below_step ?_ (Bw.below _) | with_reducible refine below_step ?_ (by assumption))⟩ ?_
        rintro V3 ⟨hq1, hq2, hq3, hq4, hWq⟩ gq
        have q1 := Bw.hold hq1
        have q2 := Bw.hold hq2
        have q3 := Bw.hold hq3
        have q4 := Bw.hold hq4
        have qz1 := fun g : Bw V3 => cell_lt (q1 g)
        have qy1 := fun g : Bw V3 => Nat.le_of_lt (qz1 g)
        have qz3 := fun g : Bw V3 => cell_lt (q3 g)
        have qy3 := fun g : Bw V3 => Nat.le_of_lt (qz3 g)
        clear hq1 hq2 hq3 hq4
        clear d1 d2 dz1 dy1
        refine (AX.out _).mono ?_
        rintro e_g4 w_g4 ⟨rfl, hb_g4⟩
        obtain ⟨g4, rfl⟩ := gq.next hb_g4
        clear hb_g4
        go_wp2_with fail
        refine calls_start (fun V4 => V4.cell? ⟨g2.out.heap.size, 0, none⟩ = some (.int .i64 a) ∧ V4.cell? ⟨g2.out.heap.size, 1, none⟩ = some (.int .i64 b) ∧ V4.cell? ⟨g3.out.heap.size, 0, none⟩ = some (.int .i64 a) ∧ V4.cell? ⟨g3.out.heap.size, 1, none⟩ = some (.int .i64 b) ∧ V4.cell? ⟨g4.out.heap.size, 0, none⟩ = some (.int .i64 (45 * X - 26 * Y)) ∧ V4.cell? ⟨g4.out.heap.size, 1, none⟩ = some (.int .i64 (52 * Y)) ∧ Below w.heap.size w V4) ⟨by first | (simp [go_sem]; done) | with_reducible exact hold_al q1 _ _ | with_reducible exact hold_al q2 _ _ | with_reducible exact hold_al q3 _ _ | with_reducible exact hold_al q4 _ _ | (simp [go_sem, q1, q2, q3, q4, qz1, qy1, qz3, qy3]; done), by first | (simp [go_sem]; done) | with_reducible exact hold_al q1 _ _ | with_reducible exact hold_al q2 _ _ | with_reducible exact hold_al q3 _ _ | with_reducible exact hold_al q4 _ _ | (simp [go_sem, q1, q2, q3, q4, qz1, qy1, qz3, qy3]; done), by first | (simp [go_sem]; done) | with_reducible exact hold_al q1 _ _ | with_reducible exact hold_al q2 _ _ | with_reducible exact hold_al q3 _ _ | with_reducible exact hold_al q4 _ _ | (simp [go_sem, q1, q2, q3, q4, qz1, qy1, qz3, qy3]; done), by first | (simp [go_sem]; done) | with_reducible exact hold_al q1 _ _ | with_reducible exact hold_al q2 _ _ | with_reducible exact hold_al q3 _ _ | with_reducible exact hold_al q4 _ _ | (simp [go_sem, q1, q2, q3, q4, qz1, qy1, qz3, qy3]; done), by first | (simp [go_sem]; done) | with_reducible exact hold_al q1 _ _ | with_reducible exact hold_al q2 _ _ | with_reducible exact hold_al q3 _ _ | with_reducible exact hold_al q4 _ _ | (simp [go_sem, q1, q2, q3, q4, qz1, qy1, qz3, qy3]; done), by first | (simp [go_sem]; done) | with_reducible exact hold_al q1 _ _ | with_reducible exact hold_al q2 _ _ | with_reducible exact hold_al q3 _ _ | with_reducible exact hold_al q4 _ _ | (simp [go_sem, q1, q2, q3, q4, qz1, qy1, qz3, qy3]; done), by repeat (first | with_reducible exact Below.refl _ _ | with_reducible refine bl_alloc ?_ _ | with_reducible refine bl_drewN ?_ _ | with_reducible refine bl_drew ?_ | (with_reducible refine bl_set ?_ ?_ _; rotate_left; focus (first | (simp; done) | (simp; omega) | omega)) | with_reducible refine below_step ?_ (Bw.below _) | with_reducible refine below_step ?_ (by assumption))⟩ ?_
        rintro V4 ⟨hl1, hl2, hl3, hl4, hl5, hl6, hWl⟩ gl
        have l1 := Bw.hold hl1
        have l2 := Bw.hold hl2
        have l3 := Bw.hold hl3
        have l4 := Bw.hold hl4
        have l5 := Bw.hold hl5
        have l6 := Bw.hold hl6
        have lz1 := fun g : Bw V4 => cell_lt (l1 g)
        have ly1 := fun g : Bw V4 => Nat.le_of_lt (lz1 g)
        have lz3 := fun g : Bw V4 => cell_lt (l3 g)
        have ly3 := fun g : Bw V4 => Nat.le_of_lt (lz3 g)
        have lz5 := fun g : Bw V4 => cell_lt (l5 g)
        have ly5 := fun g : Bw V4 => Nat.le_of_lt (lz5 g)
        clear hl1 hl2 hl3 hl4 hl5 hl6
        clear q1 q2 q3 q4 qz1 qy1 qz3 qy3
        refine (HW.out _).mono ?_
        rintro e w1 ⟨rfl, rfl⟩
        go_wp2_with fail
        refine (HO.out _).mono ?_
        rintro e w1 ⟨rfl, rfl⟩
        go_wp2_with fail
        go_roundw
        case rel => exact ⟨u, v, _, j + 1, by omega, rfl, rfl, rfl, by go_num, by repeat (first | with_reducible exact Below.refl _ _ | with_reducible refine bl_alloc ?_ _ | with_reducible refine bl_drewN ?_ _ | with_reducible refine bl_drew ?_ | (with_reducible refine bl_set ?_ ?_ _; rotate_left; focus (first | (simp; done) | (simp; omega) | omega)) | with_reducible refine below_step ?_ (Bw.below _) | with_reducible refine below_step ?_ (by assumption))⟩
        case measure => simp [intOf]; omega
    · obtain rfl : j = 2 := by omega
      go_wp2_with fail
      refine calls_start (fun V => Below w.heap.size w V) (by repeat (first | with_reducible exact Below.refl _ _ | with_reducible refine bl_alloc ?_ _ | with_reducible refine bl_drewN ?_ _ | with_reducible refine bl_drew ?_ | (with_reducible refine bl_set ?_ ?_ _; rotate_left; focus (first | (simp; done) | (simp; omega) | omega)) | with_reducible refine below_step ?_ (Bw.below _) | with_reducible refine below_step ?_ (by assumption))) ?_
      rintro V hWc gc
      refine (awake3 _).mono ?_
      rintro e_g2 w_g2 ⟨rfl, hb_g2⟩
      obtain ⟨g2, rfl⟩ := gc.next hb_g2
      clear hb_g2
      go_wp2_with fail
      go_ret
      exact ⟨rfl, by repeat (first | with_reducible exact Below.refl _ _ | with_reducible refine bl_alloc ?_ _ | with_reducible refine bl_drewN ?_ _ | with_reducible refine bl_drew ?_ | (with_reducible refine bl_set ?_ ?_ _; rotate_left; focus (first | (simp; done) | (simp; omega) | omega)) | with_reducible refine below_step ?_ (Bw.below _) | with_reducible refine below_step ?_ (by assumption))⟩
/-! THE STATEMENT PlaneNear -/
section
open Go.ChangeShapes Go.WideShapes Go.ChangeAt Go.RowKit Go.Joins
set_option linter.unusedVariables false
set_option maxRecDepth 100000 in
theorem planeNear_lifted (os : Os) (started : os.Started) (H : Type) (enc : TypeId × Value → H) :
    ReturnsInHanded {} Try.checked os 3 .any (Rows.planeNearSpec.pre6 enc Try.prog Try.f3 Rows.planeNearRow.domain false) (Rows.planeNearSpec.post enc Try.prog Try.f3 false true false false) := by
  refine returnsInHanded_of_change (C := Try.checked) (show ownKnob Try.prog.godebug = none by kernel_rfl) started (by kernel_rfl) Try.func3
    (ChangeSpec.witness6 (enc := enc) (C := Try.checked) false ⟨#[], #[.int .i64 0, .int .i64 0, .int .i64 0], []⟩ 8 (by kernel_rfl) (by kernel_rfl) (by kernel_rfl) (by kernel_rfl)) ?_
  intro W base args ds gs before hval0 hW hcnd _
  have hval : ∀ (j : Nat) t v, Try.f3.params[j]? = some t → args[j]? = some v → Value.okWide Try.prog W .any base t v := hval0
  have hW' := hW
  obtain ⟨p, q, hA0, hV, rfl, hfz, hnd⟩ := hW
  have hA : DataW.TrodAll enc Try.prog W 0 (fun _ => true) true Try.f3.params.toList args.toList ds p := hA0
  rw [Try.params3] at hA hval
  obtain ⟨v0, vs0, d0, ds0, p0, q0, hargs, rfl, rfl, h0, r0⟩ := trodAll_cons hA
  obtain ⟨v1, vs1, d1, ds1, p1, q1, rfl, rfl, rfl, h1, r1⟩ := trodAll_cons r0
  obtain ⟨v2, vs2, d2, ds2, p2, q2, rfl, rfl, rfl, h2, r2⟩ := trodAll_cons r1
  obtain ⟨rfl, rfl, rfl⟩ := trodAll_nil r2
  obtain rfl : args = #[v0, v1, v2] := by cases args; simp_all
  obtain ⟨rfl, rfl⟩ := trodVars_none hV
  obtain ⟨x, rfl, rfl, rfl, wf_x⟩ := open_int Try.underlying2 (hval 0 2 v0 rfl rfl) h0
  obtain ⟨y, rfl, rfl, rfl, wf_y⟩ := open_int Try.underlying2 (hval 1 2 v1 rfl rfl) h1
  obtain ⟨r, rfl, rfl, rfl, wf_r⟩ := open_int Try.underlying3 (hval 2 3 v2 rfl rfl) h2
  clear hA0 hval0
  simp only [List.append_nil] at hW'
  refine (planenear_walk x y r (wf_i64 wf_x).1 (wf_i64 wf_x).2 (wf_i64 wf_y).1 (wf_i64 wf_y).2 (wf_i64 wf_r).1 (wf_i64 wf_r).2 W).mono fun e W' ⟨he, hb⟩ => ?_
  subst he
  exact ⟨_, rfl, post_of_below (pa := []) (pv := []) hW' (fun _ _ _ => (trodAll_cons_mk (shut_bool Try.underlying4 _) trodAll_mk0)) (fun sp _ => (trodAll_cons_mk (shut_int Try.underlying2 wf_x) (trodAll_cons_mk (shut_int Try.underlying2 wf_y) (trodAll_cons_mk (shut_int Try.underlying3 wf_r) trodAll_mk0)))) (fun _ _ => rfl) rfl hb
    (ok_one (by kernel_rfl) rfl (okWide_bool_mk Try.underlying4 _))⟩
theorem planeNear_holds : Rows.PlaneNearSaid :=
  OpenClaim.holds_of_wide 3 Try.f3 rfl rfl rfl rfl rfl rfl rfl ⟨rfl, rfl, rfl, rfl, rfl⟩ rfl rfl rfl rfl rfl (by kernel_rfl) Try.func3 (by kernel_rfl)
    (of_decide_eq_true (by kernel_rfl)) (by unfold Func.isWrapper; first | (rw [if_pos (by decide +kernel)]; kernel_rfl) | (rw [if_neg (by decide +kernel)]; exact ⟨rfl, rfl⟩))
    (fun os started H enc _ => planeNear_lifted os started H enc)
end
#print axioms planeNear_holds
end Go.Proofs.Ytccbcehpoohgpaa

/- PlaneStraight: going by whole steps of the finest lattice leads from centre to centre. No condition. -/
import Derived.Test.YtccbcehpoohgpaaBack
namespace Go.Proofs.Ytccbcehpoohgpaa
open Go.RowKit
set_option linter.unusedSimpArgs false
set_option linter.unusedVariables false
theorem bw_of {V W : World} (h : Below V.heap.size V W) : ∃ g : Bw V, g.out = W := ⟨⟨W, h⟩, rfl⟩
theorem unit_bd (k : Int) : -1 ≤ uA (k % 6) ∧ uA (k % 6) ≤ 1 ∧ -1 ≤ uB (k % 6) ∧ uB (k % 6) ≤ 1 := by
  have hj : k % 6 = 0 ∨ k % 6 = 1 ∨ k % 6 = 2 ∨ k % 6 = 3 ∨ k % 6 = 4 ∨ k % 6 = 5 := by omega
  rcases hj with h | h | h | h | h | h <;> rw [h] <;> decide
set_option maxRecDepth 100000 in
set_option maxHeartbeats 1000000 in
theorem planestraight_walk (x y k : Int) (hx : -9223372036854775808 ≤ x) (hx' : x ≤ 9223372036854775807) (hy : -9223372036854775808 ≤ y) (hy' : y ≤ 9223372036854775807) (hk : -9223372036854775808 ≤ k) (hk' : k ≤ 9223372036854775807) (w : World) : Calls Try.prog 6 #[.int .i64 x, .int .i64 y, .int .i64 k] w fun e w' => e = .returned (.bool true) ∧ Below w.heap.size w w' := by
  have PT := Lib.hid (law3_point x y hx hx' hy hy')
  obtain ⟨u1, u2⟩ := ptV_bd x
  obtain ⟨u3, u4⟩ := ptV_bd y
  have N1 := Lib.hid (plane_near (ptV x) (ptV y) 12 0 (by omega) (by omega) (pt_wd x y))
  obtain ⟨b1, b2, b3, b4⟩ := near_tame (ptV x) (ptV y) 0 (by omega) u1 u2 u3 u4
  have UN := Lib.hid (ref_unit k)
  obtain ⟨d1, d2, d3, d4⟩ := unit_bd k
  generalize ptV x = X at *
  generalize ptV y = Y at *
  generalize nearA X Y 0 = za at *
  generalize nearB X Y 0 = zb at *
  generalize uA (k % 6) = da at *
  generalize uB (k % 6) = db at *
  clear hx hx' hy hy' hk hk'
  go_enter Try.func6, Try.ntmps6
  go_wp2_with fail
  refine (PT.out _).mono ?_
  rintro e w1 ⟨rfl, rfl⟩
  go_wp2_with fail
  refine calls_start (fun V => Below w.heap.size w V) (by repeat (first | with_reducible exact Below.refl _ _ | with_reducible refine bl_alloc ?_ _ | with_reducible refine bl_drewN ?_ _ | with_reducible refine bl_drew ?_ | (with_reducible refine bl_set ?_ ?_ _; rotate_left; focus (first | (simp; done) | (simp; omega) | omega)) | with_reducible refine below_step ?_ (Bw.below _) | with_reducible refine below_step ?_ (by assumption))) ?_
  rintro V hWc gc
  refine (N1.out _).mono ?_
  rintro e_g2 w_g2 ⟨rfl, hb_g2⟩
  obtain ⟨g2, rfl⟩ := gc.next hb_g2
  clear hb_g2
  go_wp2_with fail
  refine calls_start (fun V2 => V2.cell? ⟨g2.out.heap.size, 0, none⟩ = some (.int .i64 za) ∧ V2.cell? ⟨g2.out.heap.size, 1, none⟩ = some (.int .i64 zb) ∧ Below w.heap.size w V2) ⟨by first | (simp [go_sem]; done), by first | (simp [go_sem]; done), by repeat (first | with_reducible exact Below.refl _ _ | with_reducible refine bl_alloc ?_ _ | with_reducible refine bl_drewN ?_ _ | with_reducible refine bl_drew ?_ | (with_reducible refine bl_set ?_ ?_ _; rotate_left; focus (first | (simp; done) | (simp; omega) | omega)) | with_reducible refine below_step ?_ (Bw.below _) | with_reducible refine below_step ?_ (by assumption))⟩ ?_
  rintro V2 ⟨hl1, hl2, hWl⟩ gl
  have l1 := Bw.hold hl1
  have l2 := Bw.hold hl2
  have lz1 := fun g : Bw V2 => cell_lt (l1 g)
  have ly1 := fun g : Bw V2 => Nat.le_of_lt (lz1 g)
  clear hl1 hl2
  refine (UN.out _).mono ?_
  rintro e_g3 w_g3 ⟨rfl, hb_g3⟩
  obtain ⟨g3, rfl⟩ := gl.next hb_g3
  clear hb_g3
  go_wp2_with fail
  refine wp_start (fun V3 => V3.cell? ⟨g2.out.heap.size, 0, none⟩ = some (.int .i64 za) ∧ V3.cell? ⟨g2.out.heap.size, 1, none⟩ = some (.int .i64 zb) ∧ V3.cell? ⟨g3.out.heap.size, 0, none⟩ = some (.int .i64 da) ∧ V3.cell? ⟨g3.out.heap.size, 1, none⟩ = some (.int .i64 db) ∧ Below w.heap.size w V3) ⟨by first | (simp [go_sem]; done) | with_reducible exact hold_al l1 _ _ | with_reducible exact hold_al l2 _ _ | (simp [go_sem, l1, l2, lz1, ly1]; done), by first | (simp [go_sem]; done) | with_reducible exact hold_al l1 _ _ | with_reducible exact hold_al l2 _ _ | (simp [go_sem, l1, l2, lz1, ly1]; done), by first | (simp [go_sem]; done) | with_reducible exact hold_al l1 _ _ | with_reducible exact hold_al l2 _ _ | (simp [go_sem, l1, l2, lz1, ly1]; done), by first | (simp [go_sem]; done) | with_reducible exact hold_al l1 _ _ | with_reducible exact hold_al l2 _ _ | (simp [go_sem, l1, l2, lz1, ly1]; done), by repeat (first | with_reducible exact Below.refl _ _ | with_reducible refine bl_alloc ?_ _ | with_reducible refine bl_drewN ?_ _ | with_reducible refine bl_drew ?_ | (with_reducible refine bl_set ?_ ?_ _; rotate_left; focus (first | (simp; done) | (simp; omega) | omega)) | with_reducible refine below_step ?_ (Bw.below _) | with_reducible refine below_step ?_ (by assumption))⟩ ?_
  rintro V3 ⟨hq1, hq2, hq3, hq4, hWq⟩ gq
  have q1 := Bw.hold hq1
  have q2 := Bw.hold hq2
  have q3 := Bw.hold hq3
  have q4 := Bw.hold hq4
  have qz1 := fun g : Bw V3 => cell_lt (q1 g)
  have qy1 := fun g : Bw V3 => Nat.le_of_lt (qz1 g)
  have qz3 := fun g : Bw V3 => cell_lt (q3 g)
  have qy3 := fun g : Bw V3 => Nat.le_of_lt (qz3 g)
  clear hq1 hq2 hq3 hq4
  clear l1 l2 lz1 ly1
  clear N1 UN PT
  go_loopw [10] (fun i W => ∃ n : Nat, n ≤ 20 ∧ i = .int .i64 n ∧ Below V3.heap.size V3 W) (fun i _ => 20 - (intOf i).toNat)
  case atStart => exact ⟨0, by omega, rfl, by repeat (first | with_reducible exact Below.refl _ _ | with_reducible refine bl_alloc ?_ _ | with_reducible refine bl_drewN ?_ _ | with_reducible refine bl_drew ?_ | (with_reducible refine bl_set ?_ ?_ _; rotate_left; focus (first | (simp; done) | (simp; omega) | omega)) | with_reducible refine below_step ?_ (Bw.below _) | with_reducible refine below_step ?_ (by assumption))⟩
  case round =>
    obtain ⟨n, hn, rfl, hb⟩ := hrel
    obtain ⟨g, rfl⟩ := bw_of hb
    by_cases hlt : n < 20
    · have m1 := mul_bd (n : Int) da 20 1 (by omega) (by omega) (by omega) (by omega)
      have m2 := mul_bd (n : Int) db 20 1 (by omega) (by omega) (by omega) (by omega)
      have CE := Lib.hid (plane_centre (za + n * da) (zb + n * db) 12 0 (by omega) (by omega) (decide_eq_true (by omega)))
      have nc := near_centre (za + n * da) (zb + n * db) 0 (by omega)
      have O := plane_ok (ceX (za + n * da) (zb + n * db) 0) (ceY (za + n * da) (zb + n * db) 0)
      rcases hd : wdB (ceX (za + n * da) (zb + n * db) 0) (ceY (za + n * da) (zb + n * db) 0) with _ | _
      · rw [hd] at O
        have HO := Lib.hid O
        clear O hd nc
        generalize ceX (za + n * da) (zb + n * db) 0 = cx at *
        generalize ceY (za + n * da) (zb + n * db) 0 = cy at *
        go_wp2_with fail
        refine calls_start (fun V4 => V4.cell? ⟨g2.out.heap.size, 0, none⟩ = some (.int .i64 za) ∧ V4.cell? ⟨g2.out.heap.size, 1, none⟩ = some (.int .i64 zb) ∧ V4.cell? ⟨g3.out.heap.size, 0, none⟩ = some (.int .i64 da) ∧ V4.cell? ⟨g3.out.heap.size, 1, none⟩ = some (.int .i64 db) ∧ V4.cell? ⟨g.out.heap.size, 0, none⟩ = some (.int .i64 (za + n * da)) ∧ V4.cell? ⟨g.out.heap.size, 1, none⟩ = some (.int .i64 (zb + n * db)) ∧ Below V3.heap.size V3 V4) ⟨by first | (simp [go_sem]; done) | with_reducible exact hold_al q1 _ _ | with_reducible exact hold_al q2 _ _ | with_reducible exact hold_al q3 _ _ | with_reducible exact hold_al q4 _ _ | (simp [go_sem, q1, q2, q3, q4, qz1, qy1, qz3, qy3]; done), by first | (simp [go_sem]; done) | with_reducible exact hold_al q1 _ _ | with_reducible exact hold_al q2 _ _ | with_reducible exact hold_al q3 _ _ | with_reducible exact hold_al q4 _ _ | (simp [go_sem, q1, q2, q3, q4, qz1, qy1, qz3, qy3]; done), by first | (simp [go_sem]; done) | with_reducible exact hold_al q1 _ _ | with_reducible exact hold_al q2 _ _ | with_reducible exact hold_al q3 _ _ | with_reducible exact hold_al q4 _ _ | (simp [go_sem, q1, q2, q3, q4, qz1, qy1, qz3, qy3]; done), by first | (simp [go_sem]; done) | with_reducible exact hold_al q1 _ _ | with_reducible exact hold_al q2 _ _ | with_reducible exact hold_al q3 _ _ | with_reducible exact hold_al q4 _ _ | (simp [go_sem, q1, q2, q3, q4, qz1, qy1, qz3, qy3]; done), by first | (simp [go_sem]; done) | with_reducible exact hold_al q1 _ _ | with_reducible exact hold_al q2 _ _ | with_reducible exact hold_al q3 _ _ | with_reducible exact hold_al q4 _ _ | (simp [go_sem, q1, q2, q3, q4, qz1, qy1, qz3, qy3]; done), by first | (simp [go_sem]; done) | with_reducible exact hold_al q1 _ _ | with_reducible exact hold_al q2 _ _ | with_reducible exact hold_al q3 _ _ | with_reducible exact hold_al q4 _ _ | (simp [go_sem, q1, q2, q3, q4, qz1, qy1, qz3, qy3]; done), by repeat (first | with_reducible exact Below.refl _ _ | with_reducible refine bl_alloc ?_ _ | with_reducible refine bl_drewN ?_ _ | with_reducible refine bl_drew ?_ | (with_reducible refine bl_set ?_ ?_ _; rotate_left; focus (first | (simp; done) | (simp; omega) | omega)) | with_reducible refine below_step ?_ (Bw.below _) | with_reducible refine below_step ?_ (by assumption))⟩ ?_
        rintro V4 ⟨hs1, hs2, hs3, hs4, hs5, hs6, hWs⟩ gs
        have s1 := Bw.hold hs1
        have s2 := Bw.hold hs2
        have s3 := Bw.hold hs3
        have s4 := Bw.hold hs4
        have s5 := Bw.hold hs5
        have s6 := Bw.hold hs6
        have sz1 := fun g : Bw V4 => cell_lt (s1 g)
        have sy1 := fun g : Bw V4 => Nat.le_of_lt (sz1 g)
        have sz3 := fun g : Bw V4 => cell_lt (s3 g)
        have sy3 := fun g : Bw V4 => Nat.le_of_lt (sz3 g)
        have sz5 := fun g : Bw V4 => cell_lt (s5 g)
        have sy5 := fun g : Bw V4 => Nat.le_of_lt (sz5 g)
        clear hs1 hs2 hs3 hs4 hs5 hs6
        refine (CE.out _).mono ?_
        rintro e_g4 w_g4 ⟨rfl, hb_g4⟩
        obtain ⟨g4, rfl⟩ := gs.next hb_g4
        clear hb_g4
        go_wp2_with fail
        refine (HO.out _).mono ?_
        rintro e w1 ⟨rfl, rfl⟩
        go_wp2_with fail
        refine (awake3 _).mono ?_
        rintro e_g5 w_g5 ⟨rfl, hb_g5⟩
        obtain ⟨g5, rfl⟩ := g4.next hb_g5
        clear hb_g5
        go_wp2_with fail
        go_ret
        exact ⟨rfl, by repeat (first | with_reducible exact Below.refl _ _ | with_reducible refine bl_alloc ?_ _ | with_reducible refine bl_drewN ?_ _ | with_reducible refine bl_drew ?_ | (with_reducible refine bl_set ?_ ?_ _; rotate_left; focus (first | (simp; done) | (simp; omega) | omega)) | with_reducible refine below_step ?_ (Bw.below _) | with_reducible refine below_step ?_ (by assumption))⟩
      · rw [hd] at O
        have HO := Lib.hid O
        have NQ := plane_near (ceX (za + n * da) (zb + n * db) 0) (ceY (za + n * da) (zb + n * db) 0) 12 0 (by omega) (by omega) hd
        rw [nc.1, nc.2] at NQ
        have N2 := Lib.hid NQ
        clear O hd nc NQ
        generalize ceX (za + n * da) (zb + n * db) 0 = cx at *
        generalize ceY (za + n * da) (zb + n * db) 0 = cy at *
        go_wp2_with fail
        refine calls_start (fun V4 => V4.cell? ⟨g2.out.heap.size, 0, none⟩ = some (.int .i64 za) ∧ V4.cell? ⟨g2.out.heap.size, 1, none⟩ = some (.int .i64 zb) ∧ V4.cell? ⟨g3.out.heap.size, 0, none⟩ = some (.int .i64 da) ∧ V4.cell? ⟨g3.out.heap.size, 1, none⟩ = some (.int .i64 db) ∧ V4.cell? ⟨g.out.heap.size, 0, none⟩ = some (.int .i64 (za + n * da)) ∧ V4.cell? ⟨g.out.heap.size, 1, none⟩ = some (.int .i64 (zb + n * db)) ∧ Below V3.heap.size V3 V4) ⟨by first | (simp [go_sem]; done) | with_reducible exact hold_al q1 _ _ | with_reducible exact hold_al q2 _ _ | with_reducible exact hold_al q3 _ _ | with_reducible exact hold_al q4 _ _ | (simp [go_sem, q1, q2, q3, q4, qz1, qy1, qz3, qy3]; done), by first | (simp [go_sem]; done) | with_reducible exact hold_al q1 _ _ | with_reducible exact hold_al q2 _ _ | with_reducible exact hold_al q3 _ _ | with_reducible exact hold_al q4 _ _ | (simp [go_sem, q1, q2, q3, q4, qz1, qy1, qz3, qy3]; done), by first | (simp [go_sem]; done) | with_reducible exact hold_al q1 _ _ | with_reducible exact hold_al q2 _ _ | with_reducible exact hold_al q3 _ _ | with_reducible exact hold_al q4 _ _ | (simp [go_sem, q1, q2, q3, q4, qz1, qy1, qz3, qy3]; done), by first | (simp [go_sem]; done) | with_reducible exact hold_al q1 _ _ | with_reducible exact hold_al q2 _ _ | with_reducible exact hold_al q3 _ _ | with_reducible exact hold_al q4 _ _ | (simp [go_sem, q1, q2, q3, q4, qz1, qy1, qz3, qy3]; done), by first | (simp [go_sem]; done) | with_reducible exact hold_al q1 _ _ | with_reducible exact hold_al q2 _ _ | with_reducible exact hold_al q3 _ _ | with_reducible exact hold_al q4 _ _ | (simp [go_sem, q1, q2, q3, q4, qz1, qy1, qz3, qy3]; done), by first | (simp [go_sem]; done) | with_reducible exact hold_al q1 _ _ | with_reducible exact hold_al q2 _ _ | with_reducible exact hold_al q3 _ _ | with_reducible exact hold_al q4 _ _ | (simp [go_sem, q1, q2, q3, q4, qz1, qy1, qz3, qy3]; done), by repeat (first | with_reducible exact Below.refl _ _ | with_reducible refine bl_alloc ?_ _ | with_reducible refine bl_drewN ?_ _ | with_reducible refine bl_drew ?_ | (with_reducible refine bl_set ?_ ?_ _; rotate_left; focus (first | (simp; done) | (simp; omega) | omega)) | with_reducible refine below_step ?_ (Bw.below _) | with_reducible refine below_step ?_ (by assumption))⟩ ?_
        rintro V4 ⟨hs1, hs2, hs3, hs4, hs5, hs6, hWs⟩ gs
        have s1 := Bw.hold hs1
        have s2 := Bw.hold hs2
        have s3 := Bw.hold hs3
        have s4 := Bw.hold hs4
        have s5 := Bw.hold hs5
        have s6 := Bw.hold hs6
        have sz1 := fun g : Bw V4 => cell_lt (s1 g)
        have sy1 := fun g : Bw V4 => Nat.le_of_lt (sz1 g)
        have sz3 := fun g : Bw V4 => cell_lt (s3 g)
        have sy3 := fun g : Bw V4 => Nat.le_of_lt (sz3 g)
        have sz5 := fun g : Bw V4 => cell_lt (s5 g)
        have sy5 := fun g : Bw V4 => Nat.le_of_lt (sz5 g)
        clear hs1 hs2 hs3 hs4 hs5 hs6
        refine (CE.out _).mono ?_
        rintro e_g4 w_g4 ⟨rfl, hb_g4⟩
        obtain ⟨g4, rfl⟩ := gs.next hb_g4
        clear hb_g4
        go_wp2_with fail
        refine (HO.out _).mono ?_
        rintro e w1 ⟨rfl, rfl⟩
        go_wp2_with fail
        refine (N2.out _).mono ?_
        rintro e_g5 w_g5 ⟨rfl, hb_g5⟩
        obtain ⟨g5, rfl⟩ := g4.next hb_g5
        clear hb_g5
        go_wp2_with fail
        go_roundw
        case rel => exact ⟨n + 1, by omega, by go_num, by repeat (first | with_reducible exact Below.refl _ _ | with_reducible refine bl_alloc ?_ _ | with_reducible refine bl_drewN ?_ _ | with_reducible refine bl_drew ?_ | (with_reducible refine bl_set ?_ ?_ _; rotate_left; focus (first | (simp; done) | (simp; omega) | omega)) | with_reducible refine below_step ?_ (Bw.below _) | with_reducible refine below_step ?_ (by assumption))⟩
        case measure => simp [intOf]; omega
    · obtain rfl : n = 20 := by omega
      go_wp2_with fail
      refine (awake3 _).mono ?_
      rintro e_g5 w_g5 ⟨rfl, hb_g5⟩
      obtain ⟨g5, rfl⟩ := g.next hb_g5
      clear hb_g5
      go_wp2_with fail
      go_ret
      exact ⟨rfl, by repeat (first | with_reducible exact Below.refl _ _ | with_reducible refine bl_alloc ?_ _ | with_reducible refine bl_drewN ?_ _ | with_reducible refine bl_drew ?_ | (with_reducible refine bl_set ?_ ?_ _; rotate_left; focus (first | (simp; done) | (simp; omega) | omega)) | with_reducible refine below_step ?_ (Bw.below _) | with_reducible refine below_step ?_ (by assumption))⟩
/-! THE STATEMENT PlaneStraight -/
section
open Go.ChangeShapes Go.WideShapes Go.ChangeAt Go.RowKit Go.Joins
set_option linter.unusedVariables false
set_option maxRecDepth 100000 in
theorem planeStraight_lifted (os : Os) (started : os.Started) (H : Type) (enc : TypeId × Value → H) :
    ReturnsInHanded {} Try.checked os 6 .any (Rows.planeStraightSpec.pre6 enc Try.prog Try.f6 Rows.planeStraightRow.domain false) (Rows.planeStraightSpec.post enc Try.prog Try.f6 false true false false) := by
  refine returnsInHanded_of_change (C := Try.checked) (show ownKnob Try.prog.godebug = none by kernel_rfl) started (by kernel_rfl) Try.func6
    (ChangeSpec.witness6 (enc := enc) (C := Try.checked) false ⟨#[], #[.int .i64 0, .int .i64 0, .int .i64 0], []⟩ 8 (by kernel_rfl) (by kernel_rfl) (by kernel_rfl) (by kernel_rfl)) ?_
  intro W base args ds gs before hval0 hW hcnd _
  have hval : ∀ (j : Nat) t v, Try.f6.params[j]? = some t → args[j]? = some v → Value.okWide Try.prog W .any base t v := hval0
  have hW' := hW
  obtain ⟨p, q, hA0, hV, rfl, hfz, hnd⟩ := hW
  have hA : DataW.TrodAll enc Try.prog W 0 (fun _ => true) true Try.f6.params.toList args.toList ds p := hA0
  rw [Try.params6] at hA hval
  obtain ⟨v0, vs0, d0, ds0, p0, q0, hargs, rfl, rfl, h0, r0⟩ := trodAll_cons hA
  obtain ⟨v1, vs1, d1, ds1, p1, q1, rfl, rfl, rfl, h1, r1⟩ := trodAll_cons r0
  obtain ⟨v2, vs2, d2, ds2, p2, q2, rfl, rfl, rfl, h2, r2⟩ := trodAll_cons r1
  obtain ⟨rfl, rfl, rfl⟩ := trodAll_nil r2
  obtain rfl : args = #[v0, v1, v2] := by cases args; simp_all
  obtain ⟨rfl, rfl⟩ := trodVars_none hV
  obtain ⟨x, rfl, rfl, rfl, wf_x⟩ := open_int Try.underlying2 (hval 0 2 v0 rfl rfl) h0
  obtain ⟨y, rfl, rfl, rfl, wf_y⟩ := open_int Try.underlying2 (hval 1 2 v1 rfl rfl) h1
  obtain ⟨k, rfl, rfl, rfl, wf_k⟩ := open_int Try.underlying3 (hval 2 3 v2 rfl rfl) h2
  clear hA0 hval0
  simp only [List.append_nil] at hW'
  refine (planestraight_walk x y k (wf_i64 wf_x).1 (wf_i64 wf_x).2 (wf_i64 wf_y).1 (wf_i64 wf_y).2 (wf_i64 wf_k).1 (wf_i64 wf_k).2 W).mono fun e W' ⟨he, hb⟩ => ?_
  subst he
  exact ⟨_, rfl, post_of_below (pa := []) (pv := []) hW' (fun _ _ _ => (trodAll_cons_mk (shut_bool Try.underlying4 _) trodAll_mk0)) (fun sp _ => (trodAll_cons_mk (shut_int Try.underlying2 wf_x) (trodAll_cons_mk (shut_int Try.underlying2 wf_y) (trodAll_cons_mk (shut_int Try.underlying3 wf_k) trodAll_mk0)))) (fun _ _ => rfl) rfl hb
    (ok_one (by kernel_rfl) rfl (okWide_bool_mk Try.underlying4 _))⟩
theorem planeStraight_holds : Rows.PlaneStraightSaid :=
  OpenClaim.holds_of_wide 6 Try.f6 rfl rfl rfl rfl rfl rfl rfl ⟨rfl, rfl, rfl, rfl, rfl⟩ rfl rfl rfl rfl rfl (by kernel_rfl) Try.func6 (by kernel_rfl)
    (of_decide_eq_true (by kernel_rfl)) (by unfold Func.isWrapper; first | (rw [if_pos (by decide +kernel)]; kernel_rfl) | (rw [if_neg (by decide +kernel)]; exact ⟨rfl, rfl⟩))
    (fun os started H enc _ => planeStraight_lifted os started H enc)
end
#print axioms planeStraight_holds
end Go.Proofs.Ytccbcehpoohgpaa

/- The walk of the reference's Hex. -/
import Derived.Test.YtccbcehpoohgpaaHolds
import Derived.Deep.RegionHeld3
namespace Go.Proofs.Ytccbcehpoohgpaa
open Go.RowKit
set_option linter.unusedSimpArgs false
set_option linter.unusedVariables false
def crA (ma mb : Int) (K n : Nat) : Int := ma + plA (hkA n) (hkB n) K
def crB (ma mb : Int) (K n : Nat) : Int := mb + plB (hkA n) (hkB n) K
theorem hk_bd (k : Nat) : -2 ≤ hkA k ∧ hkA k ≤ 2 ∧ -2 ≤ hkB k ∧ hkB k ≤ 2 := by
  unfold hkA hkB
  split <;> decide
theorem pl_plus (a b c d : Int) (K : Nat) : plA (a + c) (b + d) K = plA a b K + plA c d K ∧ plB (a + c) (b + d) K = plB a b K + plB c d K := by
  unfold plA plB
  constructor <;> grind
theorem ref_mul_cr (a b : Int) (K : Nat) (hK : K < 13) (z1 : -1073741824 ≤ a) (z2 : a ≤ 1073741824) (z3 : -1073741824 ≤ b) (z4 : b ≤ 1073741824) (n : Nat) (w : World) :
    Calls Try.prog 19 #[.agg #[.int .i64 (3 * a + hkA n), .int .i64 (3 * b + hkB n)], .agg #[.int .i64 (bt K).1, .int .i64 (bt K).2]] w fun e w' =>
      e = .returned (.tuple #[.agg #[.int .i64 (crA (plA (3 * a) (3 * b) K) (plB (3 * a) (3 * b) K) K n), .int .i64 (crB (plA (3 * a) (3 * b) K) (plB (3 * a) (3 * b) K) K n)], .bool true]) ∧ Below w.heap.size w w' := by
  obtain ⟨k1, k2, k3, k4⟩ := hk_bd n
  obtain ⟨b1, b2, b3, b4⟩ := bt_small K hK
  obtain ⟨l1, l2, l3, l4⟩ := pl_bd (3 * a + hkA n) (3 * b + hkB n) K hK 3221225474 (by omega) (by omega) (by omega) (by omega) (by omega)
  have e := pl_plus (3 * a) (3 * b) (hkA n) (hkB n) K
  have h := ref_mul_fit (3 * a + hkA n) (3 * b + hkB n) (bt K).1 (bt K).2 (plA (3 * a + hkA n) (3 * b + hkB n) K) (plB (3 * a + hkA n) (3 * b + hkB n) K) (by omega) (by omega) (by omega) (by omega) (by omega) (by omega) (by omega) (by omega) (by omega) (by omega) (by omega) (by omega) (by unfold plA; grind) (by unfold plB; grind) w
  rw [e.1, e.2] at h
  exact h
theorem cr_bd (a b : Int) (K : Nat) (hK : K < 13) (z1 : -1073741824 ≤ a) (z2 : a ≤ 1073741824) (z3 : -1073741824 ≤ b) (z4 : b ≤ 1073741824) (n : Nat) :
    -10000000000000000 ≤ crA (plA (3 * a) (3 * b) K) (plB (3 * a) (3 * b) K) K n ∧ crA (plA (3 * a) (3 * b) K) (plB (3 * a) (3 * b) K) K n ≤ 10000000000000000 ∧ -10000000000000000 ≤ crB (plA (3 * a) (3 * b) K) (plB (3 * a) (3 * b) K) K n ∧ crB (plA (3 * a) (3 * b) K) (plB (3 * a) (3 * b) K) K n ≤ 10000000000000000 := by
  obtain ⟨k1, k2, k3, k4⟩ := hk_bd n
  obtain ⟨l1, l2, l3, l4⟩ := pl_bd (3 * a) (3 * b) K hK 3221225472 (by omega) (by omega) (by omega) (by omega) (by omega)
  obtain ⟨m1, m2, m3, m4⟩ := pl_bd (hkA n) (hkB n) K hK 2 (by omega) k1 k2 k3 k4
  unfold crA crB
  omega
set_option maxRecDepth 100000 in
set_option maxHeartbeats 4000000 in
theorem ref_hex (a b r : Int) (K : Nat) (hK : K < 13) (hk : 12 - r = (K : Int)) (hz : zOk a b = true) (w : World) :
    Calls Try.prog 25 #[.agg #[.int .i64 a, .int .i64 b], .int .i64 r] w fun e w' =>
      ∃ v, e = .returned v ∧ w'.ownsRow w.heap.size 45 2 v 6 (cnRow (plA (3 * a) (3 * b) K) (plB (3 * a) (3 * b) K) K 6) ∧ Below w.heap.size w w' := by
  obtain ⟨z1, z2, z3, z4⟩ := zOk_true hz
  have CE := Lib.hid (ref_centre a b r K hK hk hz)
  have BT := Lib.hid (ref_beta K (by omega))
  have MM := Lib.hid (ref_mul_cr a b K hK z1 z2 z3 z4)
  have BD := Lib.hid (cr_bd a b K hK z1 z2 z3 z4)
  obtain ⟨i0, hi, hz0, hz1, hz2⟩ := info_parts info_A2
  have r1 : 0 ≤ r := by omega
  have r2 : r ≤ 12 := by omega
  clear hz
  generalize (bt K).1 = t1 at *
  generalize (bt K).2 = t2 at *
  generalize plA (3 * a) (3 * b) K = ma at *
  generalize plB (3 * a) (3 * b) K = mb at *
  generalize ceX a b K = cx at *
  generalize ceY a b K = cy at *
  go_enter Try.func25, Try.ntmps25
  go_wp2_with fail
  refine calls_start (fun V => V.cell? ⟨w.heap.size, 0, none⟩ = some (.int .i64 a) ∧ V.cell? ⟨w.heap.size, 1, none⟩ = some (.int .i64 b) ∧ Below w.heap.size w V) ⟨by first | with_reducible assumption | (simp [go_sem]; done), by first | with_reducible assumption | (simp [go_sem]; done), by repeat (first | with_reducible exact Below.refl _ _ | with_reducible refine bl_alloc ?_ _ | with_reducible refine bl_drewN ?_ _ | with_reducible refine bl_drew ?_ | (with_reducible refine bl_set ?_ ?_ _; rotate_left; focus (first | (simp; done) | (simp; omega) | omega)) | with_reducible refine below_step ?_ (Bw.below _) | with_reducible refine below_step ?_ (by assumption))⟩ ?_
  rintro V ⟨hc1, hc2, hWc⟩ gc
  have c1 := Bw.hold hc1
  have c2 := Bw.hold hc2
  have cz1 := fun g : Bw V => cell_lt (c1 g)
  have cy1 := fun g : Bw V => Nat.le_of_lt (cz1 g)
  clear hc1 hc2
  refine (CE.out _).mono ?_
  rintro e_g2 w_g2 ⟨rfl, hb_g2⟩
  obtain ⟨g2, rfl⟩ := gc.next hb_g2
  clear hb_g2
  go_wp2_with fail
  refine calls_start (fun V2 => V2.cell? ⟨w.heap.size, 0, none⟩ = some (.int .i64 a) ∧ V2.cell? ⟨w.heap.size, 1, none⟩ = some (.int .i64 b) ∧ Below w.heap.size w V2) ⟨by first | with_reducible assumption | (simp [go_sem]; done) | with_reducible exact hold_al c1 _ _ | with_reducible exact hold_al c2 _ _ | (simp [go_sem, c1, c2, cz1, cy1]; done), by first | with_reducible assumption | (simp [go_sem]; done) | with_reducible exact hold_al c1 _ _ | with_reducible exact hold_al c2 _ _ | (simp [go_sem, c1, c2, cz1, cy1]; done), by repeat (first | with_reducible exact Below.refl _ _ | with_reducible refine bl_alloc ?_ _ | with_reducible refine bl_drewN ?_ _ | with_reducible refine bl_drew ?_ | (with_reducible refine bl_set ?_ ?_ _; rotate_left; focus (first | (simp; done) | (simp; omega) | omega)) | with_reducible refine below_step ?_ (Bw.below _) | with_reducible refine below_step ?_ (by assumption))⟩ ?_
  rintro V2 ⟨hd1, hd2, hWd⟩ gd
  have d1 := Bw.hold hd1
  have d2 := Bw.hold hd2
  have dz1 := fun g : Bw V2 => cell_lt (d1 g)
  have dy1 := fun g : Bw V2 => Nat.le_of_lt (dz1 g)
  clear hd1 hd2
  refine (BT.out _).mono ?_
  rintro e_g3 w_g3 ⟨rfl, hb_g3⟩
  obtain ⟨g3, rfl⟩ := gd.next hb_g3
  clear hb_g3
  go_wp2_with fail
  refine wp_start (fun V4 => V4.cell? ⟨w.heap.size, 0, none⟩ = some (.int .i64 a) ∧ V4.cell? ⟨w.heap.size, 1, none⟩ = some (.int .i64 b) ∧ V4.cell? ⟨g3.out.heap.size, 0, none⟩ = some (.int .i64 t1) ∧ V4.cell? ⟨g3.out.heap.size, 1, none⟩ = some (.int .i64 t2) ∧ V4.cell? ⟨g3.out.heap.size + 1, 0, none⟩ = some (.int .i64 1) ∧ V4.cell? ⟨g3.out.heap.size + 1, 1, none⟩ = some (.int .i64 1) ∧ V4.cell? ⟨g3.out.heap.size + 1, 2, none⟩ = some (.int .i64 (-1)) ∧ V4.cell? ⟨g3.out.heap.size + 1, 3, none⟩ = some (.int .i64 2) ∧ V4.cell? ⟨g3.out.heap.size + 1, 4, none⟩ = some (.int .i64 (-2)) ∧ V4.cell? ⟨g3.out.heap.size + 1, 5, none⟩ = some (.int .i64 1) ∧ V4.cell? ⟨g3.out.heap.size + 1, 6, none⟩ = some (.int .i64 (-1)) ∧ V4.cell? ⟨g3.out.heap.size + 1, 7, none⟩ = some (.int .i64 (-1)) ∧ V4.cell? ⟨g3.out.heap.size + 1, 8, none⟩ = some (.int .i64 1) ∧ V4.cell? ⟨g3.out.heap.size + 1, 9, none⟩ = some (.int .i64 (-2)) ∧ V4.cell? ⟨g3.out.heap.size + 1, 10, none⟩ = some (.int .i64 2) ∧ V4.cell? ⟨g3.out.heap.size + 1, 11, none⟩ = some (.int .i64 (-1)) ∧ Below w.heap.size w V4) ⟨by first | with_reducible assumption | (simp [go_sem]; done) | with_reducible exact hold_al d1 _ _ | with_reducible exact hold_al d2 _ _ | (simp [go_sem, d1, d2, dz1, dy1]; done), by first | with_reducible assumption | (simp [go_sem]; done) | with_reducible exact hold_al d1 _ _ | with_reducible exact hold_al d2 _ _ | (simp [go_sem, d1, d2, dz1, dy1]; done), by first | with_reducible assumption | (simp [go_sem]; done) | with_reducible exact hold_al d1 _ _ | with_reducible exact hold_al d2 _ _ | (simp [go_sem, d1, d2, dz1, dy1]; done), by first | with_reducible assumption | (simp [go_sem]; done) | with_reducible exact hold_al d1 _ _ | with_reducible exact hold_al d2 _ _ | (simp [go_sem, d1, d2, dz1, dy1]; done), by first | with_reducible assumption | (simp [go_sem]; done) | with_reducible exact hold_al d1 _ _ | with_reducible exact hold_al d2 _ _ | (simp [go_sem, d1, d2, dz1, dy1]; done), by first | with_reducible assumption | (simp [go_sem]; done) | with_reducible exact hold_al d1 _ _ | with_reducible exact hold_al d2 _ _ | (simp [go_sem, d1, d2, dz1, dy1]; done), by first | with_reducible assumption | (simp [go_sem]; done) | with_reducible exact hold_al d1 _ _ | with_reducible exact hold_al d2 _ _ | (simp [go_sem, d1, d2, dz1, dy1]; done), by first | with_reducible assumption | (simp [go_sem]; done) | with_reducible exact hold_al d1 _ _ | with_reducible exact hold_al d2 _ _ | (simp [go_sem, d1, d2, dz1, dy1]; done), by first | with_reducible assumption | (simp [go_sem]; done) | with_reducible exact hold_al d1 _ _ | with_reducible exact hold_al d2 _ _ | (simp [go_sem, d1, d2, dz1, dy1]; done), by first | with_reducible assumption | (simp [go_sem]; done) | with_reducible exact hold_al d1 _ _ | with_reducible exact hold_al d2 _ _ | (simp [go_sem, d1, d2, dz1, dy1]; done), by first | with_reducible assumption | (simp [go_sem]; done) | with_reducible exact hold_al d1 _ _ | with_reducible exact hold_al d2 _ _ | (simp [go_sem, d1, d2, dz1, dy1]; done), by first | with_reducible assumption | (simp [go_sem]; done) | with_reducible exact hold_al d1 _ _ | with_reducible exact hold_al d2 _ _ | (simp [go_sem, d1, d2, dz1, dy1]; done), by first | with_reducible assumption | (simp [go_sem]; done) | with_reducible exact hold_al d1 _ _ | with_reducible exact hold_al d2 _ _ | (simp [go_sem, d1, d2, dz1, dy1]; done), by first | with_reducible assumption | (simp [go_sem]; done) | with_reducible exact hold_al d1 _ _ | with_reducible exact hold_al d2 _ _ | (simp [go_sem, d1, d2, dz1, dy1]; done), by first | with_reducible assumption | (simp [go_sem]; done) | with_reducible exact hold_al d1 _ _ | with_reducible exact hold_al d2 _ _ | (simp [go_sem, d1, d2, dz1, dy1]; done), by first | with_reducible assumption | (simp [go_sem]; done) | with_reducible exact hold_al d1 _ _ | with_reducible exact hold_al d2 _ _ | (simp [go_sem, d1, d2, dz1, dy1]; done), by repeat (first | with_reducible exact Below.refl _ _ | with_reducible refine bl_alloc ?_ _ | with_reducible refine bl_drewN ?_ _ | with_reducible refine bl_drew ?_ | (with_reducible refine bl_set ?_ ?_ _; rotate_left; focus (first | (simp; done) | (simp; omega) | omega)) | with_reducible refine below_step ?_ (Bw.below _) | with_reducible refine below_step ?_ (by assumption))⟩ ?_
  rintro V4 ⟨hq1, hq2, hq3, hq4, hq5, hq6, hq7, hq8, hq9, hq10, hq11, hq12, hq13, hq14, hq15, hq16, hWq⟩ gq
  have q1 := Bw.hold hq1
  have q2 := Bw.hold hq2
  have q3 := Bw.hold hq3
  have q4 := Bw.hold hq4
  have q5 := Bw.hold hq5
  have q6 := Bw.hold hq6
  have q7 := Bw.hold hq7
  have q8 := Bw.hold hq8
  have q9 := Bw.hold hq9
  have q10 := Bw.hold hq10
  have q11 := Bw.hold hq11
  have q12 := Bw.hold hq12
  have q13 := Bw.hold hq13
  have q14 := Bw.hold hq14
  have q15 := Bw.hold hq15
  have q16 := Bw.hold hq16
  have qz1 := fun g : Bw V4 => cell_lt (q1 g)
  have qy1 := fun g : Bw V4 => Nat.le_of_lt (qz1 g)
  have qz3 := fun g : Bw V4 => cell_lt (q3 g)
  have qy3 := fun g : Bw V4 => Nat.le_of_lt (qz3 g)
  have qz5 := fun g : Bw V4 => cell_lt (q5 g)
  have qy5 := fun g : Bw V4 => Nat.le_of_lt (qz5 g)
  clear hq1 hq2 hq3 hq4 hq5 hq6 hq7 hq8 hq9 hq10 hq11 hq12 hq13 hq14 hq15 hq16
  clear c1 c2 cz1 cy1
  clear d1 d2 dz1 dy1
  clear CE BT
  go_loopw [11, 12] (fun v i W => ∃ n : Nat, n ≤ 6 ∧ i = .int .i64 n ∧ W.ownsRow V4.heap.size 45 2 v n (cnRow ma mb K n) ∧ Below V4.heap.size V4 W) (fun _ i _ => 6 - (intOf i).toNat)
  case atStart => exact ⟨0, by omega, rfl, World.ownsRow_nil _ _ _ _, by repeat (first | with_reducible exact Below.refl _ _ | with_reducible refine bl_alloc ?_ _ | with_reducible refine bl_drewN ?_ _ | with_reducible refine bl_drew ?_ | (with_reducible refine bl_set ?_ ?_ _; rotate_left; focus (first | (simp; done) | (simp; omega) | omega)) | with_reducible refine below_step ?_ (Bw.below _) | with_reducible refine below_step ?_ (by assumption))⟩
  case round =>
    obtain ⟨n, hn, rfl, hown, hb⟩ := hrel
    obtain ⟨g, rfl⟩ := bw_of hb
    rcases (show n = 0 ∨ n = 1 ∨ n = 2 ∨ n = 3 ∨ n = 4 ∨ n = 5 ∨ n = 6 by omega) with rfl | rfl | rfl | rfl | rfl | rfl | rfl
    · have M0 := MM.out 0
      simp only [hkA, hkB] at M0
      have M := Lib.hid M0
      clear M0
      obtain ⟨d1, d2, d3, d4⟩ := BD.out 0
      have hX : cnX ma mb K 0 = 52 * crA ma mb K 0 + 26 * crB ma mb K 0 := rfl
      have hY : cnY ma mb K 0 = 45 * crB ma mb K 0 := rfl
      have HX := Lib.hid hX
      have HY := Lib.hid hY
      clear hX hY
      generalize crA ma mb K 0 = pa at *
      generalize crB ma mb K 0 = pb at *
      have wq1 : IntKind.i64.wrap (3 * a) = 3 * a := by rw [IntKind.wrap_i64]; omega
      have wq2 : IntKind.i64.wrap (3 * b) = 3 * b := by rw [IntKind.wrap_i64]; omega
      have wq3 : IntKind.i64.wrap (3 * a + 1) = 3 * a + 1 := by rw [IntKind.wrap_i64]; omega
      have wq4 : IntKind.i64.wrap (3 * b + 1) = 3 * b + 1 := by rw [IntKind.wrap_i64]; omega
      go_upto_region 10 with fail
      go_cut [13, 14] from 37 to 76 (fun p t wx => ∃ b1 : Nat, p = .pointer (some ⟨b1, 0, none⟩) ∧ wx.cell? ⟨b1, 0, none⟩ = some (.int .i64 pa) ∧ wx.cell? ⟨b1, 1, none⟩ = some (.int .i64 pb) ∧ Below g.out.heap.size g.out wx)
      case first =>
        clear hown hb
        have i1 := q1 g
        have i2 := q2 g
        have i3 := q3 g
        have i4 := q4 g
        have i5 := q5 g
        have i6 := q6 g
        have i7 := q7 g
        have i8 := q8 g
        have i9 := q9 g
        have i10 := q10 g
        have i11 := q11 g
        have i12 := q12 g
        have i13 := q13 g
        have i14 := q14 g
        have i15 := q15 g
        have i16 := q16 g
        have hWi := below_step hWq (Bw.below g)
        clear q1 q2 q3 q4 q5 q6 q7 q8 q9 q10 q11 q12 q13 q14 q15 q16 qz1 qy1 qz3 qy3 qz5 qy5
        generalize Bw.out g = w0 at *
        clear hWi
        have smk : ∀ w' : World, Below w0.heap.size w0 w' → Below w0.heap.size w0 w' ∧ w'.cell? ⟨w.heap.size, 0, none⟩ = some (.int .i64 a) ∧ w'.cell? ⟨w.heap.size, 1, none⟩ = some (.int .i64 b) ∧ w'.cell? ⟨g3.out.heap.size, 0, none⟩ = some (.int .i64 t1) ∧ w'.cell? ⟨g3.out.heap.size, 1, none⟩ = some (.int .i64 t2)
            ∧ w'.cell? ⟨g3.out.heap.size + 1, 0, none⟩ = some (.int .i64 1) ∧ w'.cell? ⟨g3.out.heap.size + 1, 1, none⟩ = some (.int .i64 1) := fun w' hw => ⟨hw, bl_hold hw i1, bl_hold hw i2, bl_hold hw i3, bl_hold hw i4, bl_hold hw i5, bl_hold hw i6⟩
        go_region_held3 (fun w' => Below w0.heap.size w0 w' ∧ w'.cell? ⟨w.heap.size, 0, none⟩ = some (.int .i64 a) ∧ w'.cell? ⟨w.heap.size, 1, none⟩ = some (.int .i64 b) ∧ w'.cell? ⟨g3.out.heap.size, 0, none⟩ = some (.int .i64 t1) ∧ w'.cell? ⟨g3.out.heap.size, 1, none⟩ = some (.int .i64 t2)
            ∧ w'.cell? ⟨g3.out.heap.size + 1, 0, none⟩ = some (.int .i64 1) ∧ w'.cell? ⟨g3.out.heap.size + 1, 1, none⟩ = some (.int .i64 1))
          (exact smk _ (by repeat (first | with_reducible exact Below.refl _ _ | with_reducible refine bl_alloc ?_ _ | with_reducible refine bl_drew ?_ | (with_reducible refine bl_set ?_ ?_ _; rotate_left; focus (first | (simp; done) | (simp; omega) | omega)) | with_reducible exact And.left (by assumption) | with_reducible refine below_step ?_ (by assumption))))
          (first
            | (go_at_call 19; refine (M.out _).mono ?_; rintro e w9 ⟨rfl, hb9⟩; obtain ⟨hcell, hfree⟩ := bcell hb9))
        all_goals (go_wp2_with fail; go_meet; exact ⟨_, rfl, by first | (simp [go_sem]; done) | (simp [go_sem, *]; done), by first | (simp [go_sem]; done) | (simp [go_sem, *]; done), by repeat (first | with_reducible exact Below.refl _ _ | with_reducible refine bl_alloc ?_ _ | with_reducible refine bl_drew ?_ | (with_reducible refine bl_set ?_ ?_ _; rotate_left; focus (first | (simp; done) | (simp; omega) | omega)) | with_reducible exact And.left (by assumption) | with_reducible refine below_step ?_ (by assumption))⟩)
      case rest =>
        obtain ⟨b1, rfl, e1, e2, hbx⟩ := hcut
        have hown1 := own_bl hown hbx
        have hV1 := below_step hb hbx
        clear hown hb hbx
        go_wp2_with (at_builtin; refine wpList_append_own _ rfl (.tmp 63) (.tmp 75) 40 rfl V4.heap.size 45 i0 (.agg #[.int .i64 0, .int .i64 0]) 2 16 Try.underlying40 hi hz0 hz1 hz2 rfl (by decide) _ _ _ rfl (hown1.alloc _) ⟨wc.heap.size, 0, none⟩ 1 1 [.int .i64 (52 * pa + 26 * pb), .int .i64 (45 * pb)] rfl rfl (news2 _ _ _ _) (ones2 _ _ _ _) (by decide) (by decide) (Nat.le_trans hV1.size (bl_alloc (Below.refl _ _) _).size) ?_)
        intro v' w2 hown2 hgrow _
        have hV2 := bl_grown (hown1.alloc _) (Nat.le_refl _) hgrow (bl_alloc hV1 _)
        rw [← HX.out, ← HY.out] at hown2
        clear hown1 hgrow hV1
        go_wp2_with fail
        go_roundw
        case rel => exact ⟨1, by omega, by go_num, hown2, hV2⟩
        case measure => simp [intOf]
    · have M0 := MM.out 1
      simp only [hkA, hkB] at M0
      have M := Lib.hid M0
      clear M0
      obtain ⟨d1, d2, d3, d4⟩ := BD.out 1
      have hX : cnX ma mb K 1 = 52 * crA ma mb K 1 + 26 * crB ma mb K 1 := rfl
      have hY : cnY ma mb K 1 = 45 * crB ma mb K 1 := rfl
      have HX := Lib.hid hX
      have HY := Lib.hid hY
      clear hX hY
      generalize crA ma mb K 1 = pa at *
      generalize crB ma mb K 1 = pb at *
      have wq1 : IntKind.i64.wrap (3 * a) = 3 * a := by rw [IntKind.wrap_i64]; omega
      have wq2 : IntKind.i64.wrap (3 * b) = 3 * b := by rw [IntKind.wrap_i64]; omega
      have wq3 : IntKind.i64.wrap (3 * a + (-1)) = 3 * a + (-1) := by rw [IntKind.wrap_i64]; omega
      have wq4 : IntKind.i64.wrap (3 * b + 2) = 3 * b + 2 := by rw [IntKind.wrap_i64]; omega
      go_upto_region 10 with fail
      go_cut [13, 14] from 37 to 76 (fun p t wx => ∃ b1 : Nat, p = .pointer (some ⟨b1, 0, none⟩) ∧ wx.cell? ⟨b1, 0, none⟩ = some (.int .i64 pa) ∧ wx.cell? ⟨b1, 1, none⟩ = some (.int .i64 pb) ∧ Below g.out.heap.size g.out wx)
      case first =>
        clear hown hb
        have i1 := q1 g
        have i2 := q2 g
        have i3 := q3 g
        have i4 := q4 g
        have i5 := q5 g
        have i6 := q6 g
        have i7 := q7 g
        have i8 := q8 g
        have i9 := q9 g
        have i10 := q10 g
        have i11 := q11 g
        have i12 := q12 g
        have i13 := q13 g
        have i14 := q14 g
        have i15 := q15 g
        have i16 := q16 g
        have hWi := below_step hWq (Bw.below g)
        clear q1 q2 q3 q4 q5 q6 q7 q8 q9 q10 q11 q12 q13 q14 q15 q16 qz1 qy1 qz3 qy3 qz5 qy5
        generalize Bw.out g = w0 at *
        clear hWi
        have smk : ∀ w' : World, Below w0.heap.size w0 w' → Below w0.heap.size w0 w' ∧ w'.cell? ⟨w.heap.size, 0, none⟩ = some (.int .i64 a) ∧ w'.cell? ⟨w.heap.size, 1, none⟩ = some (.int .i64 b) ∧ w'.cell? ⟨g3.out.heap.size, 0, none⟩ = some (.int .i64 t1) ∧ w'.cell? ⟨g3.out.heap.size, 1, none⟩ = some (.int .i64 t2)
            ∧ w'.cell? ⟨g3.out.heap.size + 1, 2, none⟩ = some (.int .i64 (-1)) ∧ w'.cell? ⟨g3.out.heap.size + 1, 3, none⟩ = some (.int .i64 2) := fun w' hw => ⟨hw, bl_hold hw i1, bl_hold hw i2, bl_hold hw i3, bl_hold hw i4, bl_hold hw i7, bl_hold hw i8⟩
        go_region_held3 (fun w' => Below w0.heap.size w0 w' ∧ w'.cell? ⟨w.heap.size, 0, none⟩ = some (.int .i64 a) ∧ w'.cell? ⟨w.heap.size, 1, none⟩ = some (.int .i64 b) ∧ w'.cell? ⟨g3.out.heap.size, 0, none⟩ = some (.int .i64 t1) ∧ w'.cell? ⟨g3.out.heap.size, 1, none⟩ = some (.int .i64 t2)
            ∧ w'.cell? ⟨g3.out.heap.size + 1, 2, none⟩ = some (.int .i64 (-1)) ∧ w'.cell? ⟨g3.out.heap.size + 1, 3, none⟩ = some (.int .i64 2))
          (exact smk _ (by repeat (first | with_reducible exact Below.refl _ _ | with_reducible refine bl_alloc ?_ _ | with_reducible refine bl_drew ?_ | (with_reducible refine bl_set ?_ ?_ _; rotate_left; focus (first | (simp; done) | (simp; omega) | omega)) | with_reducible exact And.left (by assumption) | with_reducible refine below_step ?_ (by assumption))))
          (first
            | (go_at_call 19; refine (M.out _).mono ?_; rintro e w9 ⟨rfl, hb9⟩; obtain ⟨hcell, hfree⟩ := bcell hb9))
        all_goals (go_wp2_with fail; go_meet; exact ⟨_, rfl, by first | (simp [go_sem]; done) | (simp [go_sem, *]; done), by first | (simp [go_sem]; done) | (simp [go_sem, *]; done), by repeat (first | with_reducible exact Below.refl _ _ | with_reducible refine bl_alloc ?_ _ | with_reducible refine bl_drew ?_ | (with_reducible refine bl_set ?_ ?_ _; rotate_left; focus (first | (simp; done) | (simp; omega) | omega)) | with_reducible exact And.left (by assumption) | with_reducible refine below_step ?_ (by assumption))⟩)
      case rest =>
        obtain ⟨b1, rfl, e1, e2, hbx⟩ := hcut
        have hown1 := own_bl hown hbx
        have hV1 := below_step hb hbx
        clear hown hb hbx
        go_wp2_with (at_builtin; refine wpList_append_own _ rfl (.tmp 63) (.tmp 75) 40 rfl V4.heap.size 45 i0 (.agg #[.int .i64 0, .int .i64 0]) 2 16 Try.underlying40 hi hz0 hz1 hz2 rfl (by decide) _ _ _ rfl (hown1.alloc _) ⟨wc.heap.size, 0, none⟩ 1 1 [.int .i64 (52 * pa + 26 * pb), .int .i64 (45 * pb)] rfl rfl (news2 _ _ _ _) (ones2 _ _ _ _) (by decide) (by decide) (Nat.le_trans hV1.size (bl_alloc (Below.refl _ _) _).size) ?_)
        intro v' w2 hown2 hgrow _
        have hV2 := bl_grown (hown1.alloc _) (Nat.le_refl _) hgrow (bl_alloc hV1 _)
        rw [← HX.out, ← HY.out] at hown2
        clear hown1 hgrow hV1
        go_wp2_with fail
        go_roundw
        case rel => exact ⟨2, by omega, by go_num, hown2, hV2⟩
        case measure => simp [intOf]
    · have M0 := MM.out 2
      simp only [hkA, hkB] at M0
      have M := Lib.hid M0
      clear M0
      obtain ⟨d1, d2, d3, d4⟩ := BD.out 2
      have hX : cnX ma mb K 2 = 52 * crA ma mb K 2 + 26 * crB ma mb K 2 := rfl
      have hY : cnY ma mb K 2 = 45 * crB ma mb K 2 := rfl
      have HX := Lib.hid hX
      have HY := Lib.hid hY
      clear hX hY
      generalize crA ma mb K 2 = pa at *
      generalize crB ma mb K 2 = pb at *
      have wq1 : IntKind.i64.wrap (3 * a) = 3 * a := by rw [IntKind.wrap_i64]; omega
      have wq2 : IntKind.i64.wrap (3 * b) = 3 * b := by rw [IntKind.wrap_i64]; omega
      have wq3 : IntKind.i64.wrap (3 * a + (-2)) = 3 * a + (-2) := by rw [IntKind.wrap_i64]; omega
      have wq4 : IntKind.i64.wrap (3 * b + 1) = 3 * b + 1 := by rw [IntKind.wrap_i64]; omega
      go_upto_region 10 with fail
      go_cut [13, 14] from 37 to 76 (fun p t wx => ∃ b1 : Nat, p = .pointer (some ⟨b1, 0, none⟩) ∧ wx.cell? ⟨b1, 0, none⟩ = some (.int .i64 pa) ∧ wx.cell? ⟨b1, 1, none⟩ = some (.int .i64 pb) ∧ Below g.out.heap.size g.out wx)
      case first =>
        clear hown hb
        have i1 := q1 g
        have i2 := q2 g
        have i3 := q3 g
        have i4 := q4 g
        have i5 := q5 g
        have i6 := q6 g
        have i7 := q7 g
        have i8 := q8 g
        have i9 := q9 g
        have i10 := q10 g
        have i11 := q11 g
        have i12 := q12 g
        have i13 := q13 g
        have i14 := q14 g
        have i15 := q15 g
        have i16 := q16 g
        have hWi := below_step hWq (Bw.below g)
        clear q1 q2 q3 q4 q5 q6 q7 q8 q9 q10 q11 q12 q13 q14 q15 q16 qz1 qy1 qz3 qy3 qz5 qy5
        generalize Bw.out g = w0 at *
        clear hWi
        have smk : ∀ w' : World, Below w0.heap.size w0 w' → Below w0.heap.size w0 w' ∧ w'.cell? ⟨w.heap.size, 0, none⟩ = some (.int .i64 a) ∧ w'.cell? ⟨w.heap.size, 1, none⟩ = some (.int .i64 b) ∧ w'.cell? ⟨g3.out.heap.size, 0, none⟩ = some (.int .i64 t1) ∧ w'.cell? ⟨g3.out.heap.size, 1, none⟩ = some (.int .i64 t2)
            ∧ w'.cell? ⟨g3.out.heap.size + 1, 4, none⟩ = some (.int .i64 (-2)) ∧ w'.cell? ⟨g3.out.heap.size + 1, 5, none⟩ = some (.int .i64 1) := fun w' hw => ⟨hw, bl_hold hw i1, bl_hold hw i2, bl_hold hw i3, bl_hold hw i4, bl_hold hw i9, bl_hold hw i10⟩
        go_region_held3 (fun w' => Below w0.heap.size w0 w' ∧ w'.cell? ⟨w.heap.size, 0, none⟩ = some (.int .i64 a) ∧ w'.cell? ⟨w.heap.size, 1, none⟩ = some (.int .i64 b) ∧ w'.cell? ⟨g3.out.heap.size, 0, none⟩ = some (.int .i64 t1) ∧ w'.cell? ⟨g3.out.heap.size, 1, none⟩ = some (.int .i64 t2)
            ∧ w'.cell? ⟨g3.out.heap.size + 1, 4, none⟩ = some (.int .i64 (-2)) ∧ w'.cell? ⟨g3.out.heap.size + 1, 5, none⟩ = some (.int .i64 1))
          (exact smk _ (by repeat (first | with_reducible exact Below.refl _ _ | with_reducible refine bl_alloc ?_ _ | with_reducible refine bl_drew ?_ | (with_reducible refine bl_set ?_ ?_ _; rotate_left; focus (first | (simp; done) | (simp; omega) | omega)) | with_reducible exact And.left (by assumption) | with_reducible refine below_step ?_ (by assumption))))
          (first
            | (go_at_call 19; refine (M.out _).mono ?_; rintro e w9 ⟨rfl, hb9⟩; obtain ⟨hcell, hfree⟩ := bcell hb9))
        all_goals (go_wp2_with fail; go_meet; exact ⟨_, rfl, by first | (simp [go_sem]; done) | (simp [go_sem, *]; done), by first | (simp [go_sem]; done) | (simp [go_sem, *]; done), by repeat (first | with_reducible exact Below.refl _ _ | with_reducible refine bl_alloc ?_ _ | with_reducible refine bl_drew ?_ | (with_reducible refine bl_set ?_ ?_ _; rotate_left; focus (first | (simp; done) | (simp; omega) | omega)) | with_reducible exact And.left (by assumption) | with_reducible refine below_step ?_ (by assumption))⟩)
      case rest =>
        obtain ⟨b1, rfl, e1, e2, hbx⟩ := hcut
        have hown1 := own_bl hown hbx
        have hV1 := below_step hb hbx
        clear hown hb hbx
        go_wp2_with (at_builtin; refine wpList_append_own _ rfl (.tmp 63) (.tmp 75) 40 rfl V4.heap.size 45 i0 (.agg #[.int .i64 0, .int .i64 0]) 2 16 Try.underlying40 hi hz0 hz1 hz2 rfl (by decide) _ _ _ rfl (hown1.alloc _) ⟨wc.heap.size, 0, none⟩ 1 1 [.int .i64 (52 * pa + 26 * pb), .int .i64 (45 * pb)] rfl rfl (news2 _ _ _ _) (ones2 _ _ _ _) (by decide) (by decide) (Nat.le_trans hV1.size (bl_alloc (Below.refl _ _) _).size) ?_)
        intro v' w2 hown2 hgrow _
        have hV2 := bl_grown (hown1.alloc _) (Nat.le_refl _) hgrow (bl_alloc hV1 _)
        rw [← HX.out, ← HY.out] at hown2
        clear hown1 hgrow hV1
        go_wp2_with fail
        go_roundw
        case rel => exact ⟨3, by omega, by go_num, hown2, hV2⟩
        case measure => simp [intOf]
    · have M0 := MM.out 3
      simp only [hkA, hkB] at M0
      have M := Lib.hid M0
      clear M0
      obtain ⟨d1, d2, d3, d4⟩ := BD.out 3
      have hX : cnX ma mb K 3 = 52 * crA ma mb K 3 + 26 * crB ma mb K 3 := rfl
      have hY : cnY ma mb K 3 = 45 * crB ma mb K 3 := rfl
      have HX := Lib.hid hX
      have HY := Lib.hid hY
      clear hX hY
      generalize crA ma mb K 3 = pa at *
      generalize crB ma mb K 3 = pb at *
      have wq1 : IntKind.i64.wrap (3 * a) = 3 * a := by rw [IntKind.wrap_i64]; omega
      have wq2 : IntKind.i64.wrap (3 * b) = 3 * b := by rw [IntKind.wrap_i64]; omega
      have wq3 : IntKind.i64.wrap (3 * a + (-1)) = 3 * a + (-1) := by rw [IntKind.wrap_i64]; omega
      have wq4 : IntKind.i64.wrap (3 * b + (-1)) = 3 * b + (-1) := by rw [IntKind.wrap_i64]; omega
      go_upto_region 10 with fail
      go_cut [13, 14] from 37 to 76 (fun p t wx => ∃ b1 : Nat, p = .pointer (some ⟨b1, 0, none⟩) ∧ wx.cell? ⟨b1, 0, none⟩ = some (.int .i64 pa) ∧ wx.cell? ⟨b1, 1, none⟩ = some (.int .i64 pb) ∧ Below g.out.heap.size g.out wx)
      case first =>
        clear hown hb
        have i1 := q1 g
        have i2 := q2 g
        have i3 := q3 g
        have i4 := q4 g
        have i5 := q5 g
        have i6 := q6 g
        have i7 := q7 g
        have i8 := q8 g
        have i9 := q9 g
        have i10 := q10 g
        have i11 := q11 g
        have i12 := q12 g
        have i13 := q13 g
        have i14 := q14 g
        have i15 := q15 g
        have i16 := q16 g
        have hWi := below_step hWq (Bw.below g)
        clear q1 q2 q3 q4 q5 q6 q7 q8 q9 q10 q11 q12 q13 q14 q15 q16 qz1 qy1 qz3 qy3 qz5 qy5
        generalize Bw.out g = w0 at *
        clear hWi
        have smk : ∀ w' : World, Below w0.heap.size w0 w' → Below w0.heap.size w0 w' ∧ w'.cell? ⟨w.heap.size, 0, none⟩ = some (.int .i64 a) ∧ w'.cell? ⟨w.heap.size, 1, none⟩ = some (.int .i64 b) ∧ w'.cell? ⟨g3.out.heap.size, 0, none⟩ = some (.int .i64 t1) ∧ w'.cell? ⟨g3.out.heap.size, 1, none⟩ = some (.int .i64 t2)
            ∧ w'.cell? ⟨g3.out.heap.size + 1, 6, none⟩ = some (.int .i64 (-1)) ∧ w'.cell? ⟨g3.out.heap.size + 1, 7, none⟩ = some (.int .i64 (-1)) := fun w' hw => ⟨hw, bl_hold hw i1, bl_hold hw i2, bl_hold hw i3, bl_hold hw i4, bl_hold hw i11, bl_hold hw i12⟩
        go_region_held3 (fun w' => Below w0.heap.size w0 w' ∧ w'.cell? ⟨w.heap.size, 0, none⟩ = some (.int .i64 a) ∧ w'.cell? ⟨w.heap.size, 1, none⟩ = some (.int .i64 b) ∧ w'.cell? ⟨g3.out.heap.size, 0, none⟩ = some (.int .i64 t1) ∧ w'.cell? ⟨g3.out.heap.size, 1, none⟩ = some (.int .i64 t2)
            ∧ w'.cell? ⟨g3.out.heap.size + 1, 6, none⟩ = some (.int .i64 (-1)) ∧ w'.cell? ⟨g3.out.heap.size + 1, 7, none⟩ = some (.int .i64 (-1)))
          (exact smk _ (by repeat (first | with_reducible exact Below.refl _ _ | with_reducible refine bl_alloc ?_ _ | with_reducible refine bl_drew ?_ | (with_reducible refine bl_set ?_ ?_ _; rotate_left; focus (first | (simp; done) | (simp; omega) | omega)) | with_reducible exact And.left (by assumption) | with_reducible refine below_step ?_ (by assumption))))
          (first
            | (go_at_call 19; refine (M.out _).mono ?_; rintro e w9 ⟨rfl, hb9⟩; obtain ⟨hcell, hfree⟩ := bcell hb9))
        all_goals (go_wp2_with fail; go_meet; exact ⟨_, rfl, by first | (simp [go_sem]; done) | (simp [go_sem, *]; done), by first | (simp [go_sem]; done) | (simp [go_sem, *]; done), by repeat (first | with_reducible exact Below.refl _ _ | with_reducible refine bl_alloc ?_ _ | with_reducible refine bl_drew ?_ | (with_reducible refine bl_set ?_ ?_ _; rotate_left; focus (first | (simp; done) | (simp; omega) | omega)) | with_reducible exact And.left (by assumption) | with_reducible refine below_step ?_ (by assumption))⟩)
      case rest =>
        obtain ⟨b1, rfl, e1, e2, hbx⟩ := hcut
        have hown1 := own_bl hown hbx
        have hV1 := below_step hb hbx
        clear hown hb hbx
        go_wp2_with (at_builtin; refine wpList_append_own _ rfl (.tmp 63) (.tmp 75) 40 rfl V4.heap.size 45 i0 (.agg #[.int .i64 0, .int .i64 0]) 2 16 Try.underlying40 hi hz0 hz1 hz2 rfl (by decide) _ _ _ rfl (hown1.alloc _) ⟨wc.heap.size, 0, none⟩ 1 1 [.int .i64 (52 * pa + 26 * pb), .int .i64 (45 * pb)] rfl rfl (news2 _ _ _ _) (ones2 _ _ _ _) (by decide) (by decide) (Nat.le_trans hV1.size (bl_alloc (Below.refl _ _) _).size) ?_)
        intro v' w2 hown2 hgrow _
        have hV2 := bl_grown (hown1.alloc _) (Nat.le_refl _) hgrow (bl_alloc hV1 _)
        rw [← HX.out, ← HY.out] at hown2
        clear hown1 hgrow hV1
        go_wp2_with fail
        go_roundw
        case rel => exact ⟨4, by omega, by go_num, hown2, hV2⟩
        case measure => simp [intOf]
    · have M0 := MM.out 4
      simp only [hkA, hkB] at M0
      have M := Lib.hid M0
      clear M0
      obtain ⟨d1, d2, d3, d4⟩ := BD.out 4
      have hX : cnX ma mb K 4 = 52 * crA ma mb K 4 + 26 * crB ma mb K 4 := rfl
      have hY : cnY ma mb K 4 = 45 * crB ma mb K 4 := rfl
      have HX := Lib.hid hX
      have HY := Lib.hid hY
      clear hX hY
      generalize crA ma mb K 4 = pa at *
      generalize crB ma mb K 4 = pb at *
      have wq1 : IntKind.i64.wrap (3 * a) = 3 * a := by rw [IntKind.wrap_i64]; omega
      have wq2 : IntKind.i64.wrap (3 * b) = 3 * b := by rw [IntKind.wrap_i64]; omega
      have wq3 : IntKind.i64.wrap (3 * a + 1) = 3 * a + 1 := by rw [IntKind.wrap_i64]; omega
      have wq4 : IntKind.i64.wrap (3 * b + (-2)) = 3 * b + (-2) := by rw [IntKind.wrap_i64]; omega
      go_upto_region 10 with fail
      go_cut [13, 14] from 37 to 76 (fun p t wx => ∃ b1 : Nat, p = .pointer (some ⟨b1, 0, none⟩) ∧ wx.cell? ⟨b1, 0, none⟩ = some (.int .i64 pa) ∧ wx.cell? ⟨b1, 1, none⟩ = some (.int .i64 pb) ∧ Below g.out.heap.size g.out wx)
      case first =>
        clear hown hb
        have i1 := q1 g
        have i2 := q2 g
        have i3 := q3 g
        have i4 := q4 g
        have i5 := q5 g
        have i6 := q6 g
        have i7 := q7 g
        have i8 := q8 g
        have i9 := q9 g
        have i10 := q10 g
        have i11 := q11 g
        have i12 := q12 g
        have i13 := q13 g
        have i14 := q14 g
        have i15 := q15 g
        have i16 := q16 g
        have hWi := below_step hWq (Bw.below g)
        clear q1 q2 q3 q4 q5 q6 q7 q8 q9 q10 q11 q12 q13 q14 q15 q16 qz1 qy1 qz3 qy3 qz5 qy5
        generalize Bw.out g = w0 at *
        clear hWi
        have smk : ∀ w' : World, Below w0.heap.size w0 w' → Below w0.heap.size w0 w' ∧ w'.cell? ⟨w.heap.size, 0, none⟩ = some (.int .i64 a) ∧ w'.cell? ⟨w.heap.size, 1, none⟩ = some (.int .i64 b) ∧ w'.cell? ⟨g3.out.heap.size, 0, none⟩ = some (.int .i64 t1) ∧ w'.cell? ⟨g3.out.heap.size, 1, none⟩ = some (.int .i64 t2)
            ∧ w'.cell? ⟨g3.out.heap.size + 1, 8, none⟩ = some (.int .i64 1) ∧ w'.cell? ⟨g3.out.heap.size + 1, 9, none⟩ = some (.int .i64 (-2)) := fun w' hw => ⟨hw, bl_hold hw i1, bl_hold hw i2, bl_hold hw i3, bl_hold hw i4, bl_hold hw i13, bl_hold hw i14⟩
        go_region_held3 (fun w' => Below w0.heap.size w0 w' ∧ w'.cell? ⟨w.heap.size, 0, none⟩ = some (.int .i64 a) ∧ w'.cell? ⟨w.heap.size, 1, none⟩ = some (.int .i64 b) ∧ w'.cell? ⟨g3.out.heap.size, 0, none⟩ = some (.int .i64 t1) ∧ w'.cell? ⟨g3.out.heap.size, 1, none⟩ = some (.int .i64 t2)
            ∧ w'.cell? ⟨g3.out.heap.size + 1, 8, none⟩ = some (.int .i64 1) ∧ w'.cell? ⟨g3.out.heap.size + 1, 9, none⟩ = some (.int .i64 (-2)))
          (exact smk _ (by repeat (first | with_reducible exact Below.refl _ _ | with_reducible refine bl_alloc ?_ _ | with_reducible refine bl_drew ?_ | (with_reducible refine bl_set ?_ ?_ _; rotate_left; focus (first | (simp; done) | (simp; omega) | omega)) | with_reducible exact And.left (by assumption) | with_reducible refine below_step ?_ (by assumption))))
          (first
            | (go_at_call 19; refine (M.out _).mono ?_; rintro e w9 ⟨rfl, hb9⟩; obtain ⟨hcell, hfree⟩ := bcell hb9))
        all_goals (go_wp2_with fail; go_meet; exact ⟨_, rfl, by first | (simp [go_sem]; done) | (simp [go_sem, *]; done), by first | (simp [go_sem]; done) | (simp [go_sem, *]; done), by repeat (first | with_reducible exact Below.refl _ _ | with_reducible refine bl_alloc ?_ _ | with_reducible refine bl_drew ?_ | (with_reducible refine bl_set ?_ ?_ _; rotate_left; focus (first | (simp; done) | (simp; omega) | omega)) | with_reducible exact And.left (by assumption) | with_reducible refine below_step ?_ (by assumption))⟩)
      case rest =>
        obtain ⟨b1, rfl, e1, e2, hbx⟩ := hcut
        have hown1 := own_bl hown hbx
        have hV1 := below_step hb hbx
        clear hown hb hbx
        go_wp2_with (at_builtin; refine wpList_append_own _ rfl (.tmp 63) (.tmp 75) 40 rfl V4.heap.size 45 i0 (.agg #[.int .i64 0, .int .i64 0]) 2 16 Try.underlying40 hi hz0 hz1 hz2 rfl (by decide) _ _ _ rfl (hown1.alloc _) ⟨wc.heap.size, 0, none⟩ 1 1 [.int .i64 (52 * pa + 26 * pb), .int .i64 (45 * pb)] rfl rfl (news2 _ _ _ _) (ones2 _ _ _ _) (by decide) (by decide) (Nat.le_trans hV1.size (bl_alloc (Below.refl _ _) _).size) ?_)
        intro v' w2 hown2 hgrow _
        have hV2 := bl_grown (hown1.alloc _) (Nat.le_refl _) hgrow (bl_alloc hV1 _)
        rw [← HX.out, ← HY.out] at hown2
        clear hown1 hgrow hV1
        go_wp2_with fail
        go_roundw
        case rel => exact ⟨5, by omega, by go_num, hown2, hV2⟩
        case measure => simp [intOf]
    · have M0 := MM.out 5
      simp only [hkA, hkB] at M0
      have M := Lib.hid M0
      clear M0
      obtain ⟨d1, d2, d3, d4⟩ := BD.out 5
      have hX : cnX ma mb K 5 = 52 * crA ma mb K 5 + 26 * crB ma mb K 5 := rfl
      have hY : cnY ma mb K 5 = 45 * crB ma mb K 5 := rfl
      have HX := Lib.hid hX
      have HY := Lib.hid hY
      clear hX hY
      generalize crA ma mb K 5 = pa at *
      generalize crB ma mb K 5 = pb at *
      have wq1 : IntKind.i64.wrap (3 * a) = 3 * a := by rw [IntKind.wrap_i64]; omega
      have wq2 : IntKind.i64.wrap (3 * b) = 3 * b := by rw [IntKind.wrap_i64]; omega
      have wq3 : IntKind.i64.wrap (3 * a + 2) = 3 * a + 2 := by rw [IntKind.wrap_i64]; omega
      have wq4 : IntKind.i64.wrap (3 * b + (-1)) = 3 * b + (-1) := by rw [IntKind.wrap_i64]; omega
      go_upto_region 10 with fail
      go_cut [13, 14] from 37 to 76 (fun p t wx => ∃ b1 : Nat, p = .pointer (some ⟨b1, 0, none⟩) ∧ wx.cell? ⟨b1, 0, none⟩ = some (.int .i64 pa) ∧ wx.cell? ⟨b1, 1, none⟩ = some (.int .i64 pb) ∧ Below g.out.heap.size g.out wx)
      case first =>
        clear hown hb
        have i1 := q1 g
        have i2 := q2 g
        have i3 := q3 g
        have i4 := q4 g
        have i5 := q5 g
        have i6 := q6 g
        have i7 := q7 g
        have i8 := q8 g
        have i9 := q9 g
        have i10 := q10 g
        have i11 := q11 g
        have i12 := q12 g
        have i13 := q13 g
        have i14 := q14 g
        have i15 := q15 g
        have i16 := q16 g
        have hWi := below_step hWq (Bw.below g)
        clear q1 q2 q3 q4 q5 q6 q7 q8 q9 q10 q11 q12 q13 q14 q15 q16 qz1 qy1 qz3 qy3 qz5 qy5
        generalize Bw.out g = w0 at *
        clear hWi
        have smk : ∀ w' : World, Below w0.heap.size w0 w' → Below w0.heap.size w0 w' ∧ w'.cell? ⟨w.heap.size, 0, none⟩ = some (.int .i64 a) ∧ w'.cell? ⟨w.heap.size, 1, none⟩ = some (.int .i64 b) ∧ w'.cell? ⟨g3.out.heap.size, 0, none⟩ = some (.int .i64 t1) ∧ w'.cell? ⟨g3.out.heap.size, 1, none⟩ = some (.int .i64 t2)
            ∧ w'.cell? ⟨g3.out.heap.size + 1, 10, none⟩ = some (.int .i64 2) ∧ w'.cell? ⟨g3.out.heap.size + 1, 11, none⟩ = some (.int .i64 (-1)) := fun w' hw => ⟨hw, bl_hold hw i1, bl_hold hw i2, bl_hold hw i3, bl_hold hw i4, bl_hold hw i15, bl_hold hw i16⟩
        go_region_held3 (fun w' => Below w0.heap.size w0 w' ∧ w'.cell? ⟨w.heap.size, 0, none⟩ = some (.int .i64 a) ∧ w'.cell? ⟨w.heap.size, 1, none⟩ = some (.int .i64 b) ∧ w'.cell? ⟨g3.out.heap.size, 0, none⟩ = some (.int .i64 t1) ∧ w'.cell? ⟨g3.out.heap.size, 1, none⟩ = some (.int .i64 t2)
            ∧ w'.cell? ⟨g3.out.heap.size + 1, 10, none⟩ = some (.int .i64 2) ∧ w'.cell? ⟨g3.out.heap.size + 1, 11, none⟩ = some (.int .i64 (-1)))
          (exact smk _ (by repeat (first | with_reducible exact Below.refl _ _ | with_reducible refine bl_alloc ?_ _ | with_reducible refine bl_drew ?_ | (with_reducible refine bl_set ?_ ?_ _; rotate_left; focus (first | (simp; done) | (simp; omega) | omega)) | with_reducible exact And.left (by assumption) | with_reducible refine below_step ?_ (by assumption))))
          (first
            | (go_at_call 19; refine (M.out _).mono ?_; rintro e w9 ⟨rfl, hb9⟩; obtain ⟨hcell, hfree⟩ := bcell hb9))
        all_goals (go_wp2_with fail; go_meet; exact ⟨_, rfl, by first | (simp [go_sem]; done) | (simp [go_sem, *]; done), by first | (simp [go_sem]; done) | (simp [go_sem, *]; done), by repeat (first | with_reducible exact Below.refl _ _ | with_reducible refine bl_alloc ?_ _ | with_reducible refine bl_drew ?_ | (with_reducible refine bl_set ?_ ?_ _; rotate_left; focus (first | (simp; done) | (simp; omega) | omega)) | with_reducible exact And.left (by assumption) | with_reducible refine below_step ?_ (by assumption))⟩)
      case rest =>
        obtain ⟨b1, rfl, e1, e2, hbx⟩ := hcut
        have hown1 := own_bl hown hbx
        have hV1 := below_step hb hbx
        clear hown hb hbx
        go_wp2_with (at_builtin; refine wpList_append_own _ rfl (.tmp 63) (.tmp 75) 40 rfl V4.heap.size 45 i0 (.agg #[.int .i64 0, .int .i64 0]) 2 16 Try.underlying40 hi hz0 hz1 hz2 rfl (by decide) _ _ _ rfl (hown1.alloc _) ⟨wc.heap.size, 0, none⟩ 1 1 [.int .i64 (52 * pa + 26 * pb), .int .i64 (45 * pb)] rfl rfl (news2 _ _ _ _) (ones2 _ _ _ _) (by decide) (by decide) (Nat.le_trans hV1.size (bl_alloc (Below.refl _ _) _).size) ?_)
        intro v' w2 hown2 hgrow _
        have hV2 := bl_grown (hown1.alloc _) (Nat.le_refl _) hgrow (bl_alloc hV1 _)
        rw [← HX.out, ← HY.out] at hown2
        clear hown1 hgrow hV1
        go_wp2_with fail
        go_roundw
        case rel => exact ⟨6, by omega, by go_num, hown2, hV2⟩
        case measure => simp [intOf]
    · go_wp2_with fail
      refine bodyPost_ret (v := u11) (by simp [results, Try.results25, go_sem]) rfl ⟨u11, rfl, own_mono hown hWq.size, by repeat (first | with_reducible exact Below.refl _ _ | with_reducible refine bl_alloc ?_ _ | with_reducible refine bl_drewN ?_ _ | with_reducible refine bl_drew ?_ | (with_reducible refine bl_set ?_ ?_ _; rotate_left; focus (first | (simp; done) | (simp; omega) | omega)) | with_reducible refine below_step ?_ (Bw.below _) | with_reducible refine below_step ?_ (by assumption))⟩
end Go.Proofs.Ytccbcehpoohgpaa

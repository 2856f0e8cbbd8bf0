/- PlaneCorners: the corners of a hexagon lie about its centre. No condition. -/
import Derived.Test.YtccbcehpoohgpaaHolds
import Derived.Test.YtccbcehpoohgpaaEqA
namespace Go.Proofs.Ytccbcehpoohgpaa
open Go.RowKit
set_option linter.unusedSimpArgs false
set_option linter.unusedVariables false
theorem pl_turned (a b : Int) (K : Nat) : plA (-a) (-b) K = -plA a b K ∧ plB (-a) (-b) K = -plB a b K := by
  unfold plA plB
  constructor <;> grind
/-- Opposite corners lie about the centre. -/
theorem cn_opp (za zb : Int) (K : Nat) (n : Nat) (hn : n < 3) :
    cnX (3 * plA za zb K) (3 * plB za zb K) K n + cnX (3 * plA za zb K) (3 * plB za zb K) K (n + 3) = 6 * ceX za zb K ∧
    cnY (3 * plA za zb K) (3 * plB za zb K) K n + cnY (3 * plA za zb K) (3 * plB za zb K) K (n + 3) = 6 * ceY za zb K := by
  obtain ⟨e1, e2⟩ : hkA (n + 3) = -hkA n ∧ hkB (n + 3) = -hkB n := by
    rcases (show n = 0 ∨ n = 1 ∨ n = 2 by omega) with rfl | rfl | rfl <;> decide
  obtain ⟨f1, f2⟩ := pl_turned (hkA n) (hkB n) K
  unfold cnX cnY ceX ceY
  rw [e1, e2, f1, f2]
  omega
def sS (X : Nat → Int) : Nat → Int
  | 0 => 0
  | n + 1 => sS X n + X n
theorem sS_bd (X : Nat → Int) (M : Int) (hM : 0 ≤ M) (h : ∀ k, -M ≤ X k ∧ X k ≤ M) : ∀ n : Nat, n ≤ 6 → -(6 * M) ≤ sS X n ∧ sS X n ≤ 6 * M := by
  have h0 := h 0
  have h1 := h 1
  have h2 := h 2
  have h3 := h 3
  have h4 := h 4
  have h5 := h 5
  intro n hn
  rcases (show n = 0 ∨ n = 1 ∨ n = 2 ∨ n = 3 ∨ n = 4 ∨ n = 5 ∨ n = 6 by omega) with rfl | rfl | rfl | rfl | rfl | rfl | rfl <;> simp only [sS] <;> omega
set_option maxRecDepth 100000 in
set_option maxHeartbeats 4000000 in
theorem planecorners_walk (a b r : Int) (ha : -9223372036854775808 ≤ a) (ha' : a ≤ 9223372036854775807) (hb : -9223372036854775808 ≤ b) (hb' : b ≤ 9223372036854775807) (hr : -9223372036854775808 ≤ r) (hr' : r ≤ 9223372036854775807) (w : World) : Calls Try.prog 11 #[.agg #[.int .i64 a, .int .i64 b], .int .i64 r] w fun e w' => e = .returned (.bool true) ∧ Below w.heap.size w w' := by
  obtain ⟨K, hK, hr0⟩ := res_of r
  obtain ⟨t1, t2⟩ := tmod_bd r 13 (by omega)
  obtain ⟨m1, m2⟩ := tmod_bd a 4194304 (by omega)
  obtain ⟨m3, m4⟩ := tmod_bd b 4194304 (by omega)
  obtain ⟨R, hR⟩ : ∃ R : Int, R = 12 - (K : Int) := ⟨_, rfl⟩
  rw [← hR] at hr0
  have hk : 12 - R = (K : Int) := by omega
  clear hR
  generalize hA : a.tmod 4194304 = za at *
  generalize hB : b.tmod 4194304 = zb at *
  have CE := Lib.hid (plane_centre za zb R K hK (by omega) (decide_eq_true (by omega)))
  have HX := plane_hex za zb R K hK (by omega) (decide_eq_true (by omega))
  obtain ⟨l1, l2, l3, l4⟩ := pl_bd za zb K hK 4194304 (by omega) (by omega) (by omega) (by omega) (by omega)
  have h1 : -1000000000000000 ≤ ceX za zb K := by unfold ceX; omega
  have h2 : ceX za zb K ≤ 1000000000000000 := by unfold ceX; omega
  have h3 : -1000000000000000 ≤ ceY za zb K := by unfold ceY; omega
  have h4 : ceY za zb K ≤ 1000000000000000 := by unfold ceY; omega
  obtain ⟨e1, e2⟩ := pl_times za zb 3 K
  rw [e1, e2] at HX
  have HX := Lib.hid HX
  have hbd := cn_bd (3 * plA za zb K) (3 * plB za zb K) K hK (by omega) (by omega) (by omega) (by omega)
  have sbX := sS_bd (cnX (3 * plA za zb K) (3 * plB za zb K) K) 100000000000000000 (by omega) (fun k => ⟨(hbd k).1, (hbd k).2.1⟩)
  have sbY := sS_bd (cnY (3 * plA za zb K) (3 * plB za zb K) K) 100000000000000000 (by omega) (fun k => ⟨(hbd k).2.2.1, (hbd k).2.2.2⟩)
  obtain ⟨o1, o2⟩ := cn_opp za zb K 0 (by omega)
  obtain ⟨o3, o4⟩ := cn_opp za zb K 1 (by omega)
  obtain ⟨o5, o6⟩ := cn_opp za zb K 2 (by omega)
  simp only [Nat.reduceAdd] at o1 o2 o3 o4 o5 o6
  have sX : sS (cnX (3 * plA za zb K) (3 * plB za zb K) K) 6 = 18 * ceX za zb K := by simp only [sS]; omega
  have sY : sS (cnY (3 * plA za zb K) (3 * plB za zb K) K) 6 = 18 * ceY za zb K := by simp only [sS]; omega
  clear l1 l2 l3 l4 e1 e2
  generalize ceX za zb K = cx at *
  generalize ceY za zb K = cy at *
  generalize 3 * plA za zb K = ma at *
  generalize 3 * plB za zb K = mb at *
  have O1 := Lib.hid o1
  have O2 := Lib.hid o2
  have O3 := Lib.hid o3
  have O4 := Lib.hid o4
  have O5 := Lib.hid o5
  have O6 := Lib.hid o6
  have SX := Lib.hid sX
  have SY := Lib.hid sY
  have HBD := Lib.hid hbd
  have SBX := Lib.hid sbX
  have SBY := Lib.hid sbY
  clear o1 o2 o3 o4 o5 o6 sX sY hbd sbX sbY
  go_enter Try.func11, Try.ntmps11
  go_wp2_with fail
  refine calls_start (fun V => V.cell? ⟨w.heap.size, 0, none⟩ = some (.int .i64 za) ∧ V.cell? ⟨w.heap.size, 1, none⟩ = some (.int .i64 zb) ∧ Below w.heap.size w V) ⟨by first | with_reducible assumption | (simp [go_sem]; done), by first | with_reducible assumption | (simp [go_sem]; done), by repeat (first | with_reducible exact Below.refl _ _ | with_reducible refine bl_alloc ?_ _ | with_reducible refine bl_drewN ?_ _ | with_reducible refine bl_drew ?_ | (with_reducible refine bl_set ?_ ?_ _; rotate_left; focus (first | (simp; done) | (simp; omega) | omega)) | with_reducible refine below_step ?_ (Bw.below _) | with_reducible refine below_step ?_ (by assumption))⟩ ?_
  rintro V ⟨hc1, hc2, hWc⟩ gc
  have c1 := Bw.hold hc1
  have c2 := Bw.hold hc2
  have cz1 := fun g : Bw V => cell_lt (c1 g)
  have cy1 := fun g : Bw V => Nat.le_of_lt (cz1 g)
  clear hc1 hc2
  clear hA hB
  refine (CE.out _).mono ?_
  rintro e_g2 w_g2 ⟨rfl, hb_g2⟩
  obtain ⟨g2, rfl⟩ := gc.next hb_g2
  clear hb_g2
  go_wp2_with fail
  refine calls_start (fun V2 => V2.cell? ⟨w.heap.size, 0, none⟩ = some (.int .i64 za) ∧ V2.cell? ⟨w.heap.size, 1, none⟩ = some (.int .i64 zb) ∧ Below w.heap.size w V2) ⟨by first | with_reducible assumption | (simp [go_sem]; done) | with_reducible exact hold_al c1 _ _ | with_reducible exact hold_al c2 _ _ | (simp [go_sem, c1, c2, cz1, cy1]; done), by first | with_reducible assumption | (simp [go_sem]; done) | with_reducible exact hold_al c1 _ _ | with_reducible exact hold_al c2 _ _ | (simp [go_sem, c1, c2, cz1, cy1]; done), by repeat (first | with_reducible exact Below.refl _ _ | with_reducible refine bl_alloc ?_ _ | with_reducible refine bl_drewN ?_ _ | with_reducible refine bl_drew ?_ | (with_reducible refine bl_set ?_ ?_ _; rotate_left; focus (first | (simp; done) | (simp; omega) | omega)) | with_reducible refine below_step ?_ (Bw.below _) | with_reducible refine below_step ?_ (by assumption))⟩ ?_
  rintro V2 ⟨hd1, hd2, hWd⟩ gd
  have d1 := Bw.hold hd1
  have d2 := Bw.hold hd2
  have dz1 := fun g : Bw V2 => cell_lt (d1 g)
  have dy1 := fun g : Bw V2 => Nat.le_of_lt (dz1 g)
  clear hd1 hd2
  refine (HX.out _).mono ?_
  rintro e_h w_h ⟨v, rfl, own_h, hb_h⟩
  obtain ⟨g3, rfl⟩ := gd.next hb_h
  clear hb_h
  obtain ⟨hg, cap, rfl, hgb, k0, k1, k2, k3, k4, k5, k6, k7, k8, k9, k10, k11⟩ := own_hex own_h
  clear own_h
  generalize cnX ma mb K = X at *
  generalize cnY ma mb K = Y at *
  go_wp2_with fail
  refine wp_start (fun V4 => V4.cell? ⟨hg, 0, none⟩ = some (.int .i64 (X 0)) ∧ V4.cell? ⟨hg, 1, none⟩ = some (.int .i64 (Y 0)) ∧ V4.cell? ⟨hg, 2, none⟩ = some (.int .i64 (X 1)) ∧ V4.cell? ⟨hg, 3, none⟩ = some (.int .i64 (Y 1)) ∧ V4.cell? ⟨hg, 4, none⟩ = some (.int .i64 (X 2)) ∧ V4.cell? ⟨hg, 5, none⟩ = some (.int .i64 (Y 2)) ∧ V4.cell? ⟨hg, 6, none⟩ = some (.int .i64 (X 3)) ∧ V4.cell? ⟨hg, 7, none⟩ = some (.int .i64 (Y 3)) ∧ V4.cell? ⟨hg, 8, none⟩ = some (.int .i64 (X 4)) ∧ V4.cell? ⟨hg, 9, none⟩ = some (.int .i64 (Y 4)) ∧ V4.cell? ⟨hg, 10, none⟩ = some (.int .i64 (X 5)) ∧ V4.cell? ⟨hg, 11, none⟩ = some (.int .i64 (Y 5)) ∧ Below w.heap.size w V4) ⟨by first | with_reducible assumption | (simp [go_sem]; done) | with_reducible exact hold_al d1 _ _ | with_reducible exact hold_al d2 _ _ | (simp [go_sem, d1, d2, dz1, dy1]; done), by first | with_reducible assumption | (simp [go_sem]; done) | with_reducible exact hold_al d1 _ _ | with_reducible exact hold_al d2 _ _ | (simp [go_sem, d1, d2, dz1, dy1]; done), by first | with_reducible assumption | (simp [go_sem]; done) | with_reducible exact hold_al d1 _ _ | with_reducible exact hold_al d2 _ _ | (simp [go_sem, d1, d2, dz1, dy1]; done), by first | with_reducible assumption | (simp [go_sem]; done) | with_reducible exact hold_al d1 _ _ | with_reducible exact hold_al d2 _ _ | (simp [go_sem, d1, d2, dz1, dy1]; done), by first | with_reducible assumption | (simp [go_sem]; done) | with_reducible exact hold_al d1 _ _ | with_reducible exact hold_al d2 _ _ | (simp [go_sem, d1, d2, dz1, dy1]; done), by first | with_reducible assumption | (simp [go_sem]; done) | with_reducible exact hold_al d1 _ _ | with_reducible exact hold_al d2 _ _ | (simp [go_sem, d1, d2, dz1, dy1]; done), by first | with_reducible assumption | (simp [go_sem]; done) | with_reducible exact hold_al d1 _ _ | with_reducible exact hold_al d2 _ _ | (simp [go_sem, d1, d2, dz1, dy1]; done), by first | with_reducible assumption | (simp [go_sem]; done) | with_reducible exact hold_al d1 _ _ | with_reducible exact hold_al d2 _ _ | (simp [go_sem, d1, d2, dz1, dy1]; done), by first | with_reducible assumption | (simp [go_sem]; done) | with_reducible exact hold_al d1 _ _ | with_reducible exact hold_al d2 _ _ | (simp [go_sem, d1, d2, dz1, dy1]; done), by first | with_reducible assumption | (simp [go_sem]; done) | with_reducible exact hold_al d1 _ _ | with_reducible exact hold_al d2 _ _ | (simp [go_sem, d1, d2, dz1, dy1]; done), by first | with_reducible assumption | (simp [go_sem]; done) | with_reducible exact hold_al d1 _ _ | with_reducible exact hold_al d2 _ _ | (simp [go_sem, d1, d2, dz1, dy1]; done), by first | with_reducible assumption | (simp [go_sem]; done) | with_reducible exact hold_al d1 _ _ | with_reducible exact hold_al d2 _ _ | (simp [go_sem, d1, d2, dz1, dy1]; done), by repeat (first | with_reducible exact Below.refl _ _ | with_reducible refine bl_alloc ?_ _ | with_reducible refine bl_drewN ?_ _ | with_reducible refine bl_drew ?_ | (with_reducible refine bl_set ?_ ?_ _; rotate_left; focus (first | (simp; done) | (simp; omega) | omega)) | with_reducible refine below_step ?_ (Bw.below _) | with_reducible refine below_step ?_ (by assumption))⟩ ?_
  rintro V4 ⟨hq1, hq2, hq3, hq4, hq5, hq6, hq7, hq8, hq9, hq10, hq11, hq12, hWq⟩ gq
  have q1 := Bw.hold hq1
  have q2 := Bw.hold hq2
  have q3 := Bw.hold hq3
  have q4 := Bw.hold hq4
  have q5 := Bw.hold hq5
  have q6 := Bw.hold hq6
  have q7 := Bw.hold hq7
  have q8 := Bw.hold hq8
  have q9 := Bw.hold hq9
  have q10 := Bw.hold hq10
  have q11 := Bw.hold hq11
  have q12 := Bw.hold hq12
  have qz1 := fun g : Bw V4 => cell_lt (q1 g)
  have qy1 := fun g : Bw V4 => Nat.le_of_lt (qz1 g)
  clear hq1 hq2 hq3 hq4 hq5 hq6 hq7 hq8 hq9 hq10 hq11 hq12
  clear k0 k1 k2 k3 k4 k5 k6 k7 k8 k9 k10 k11
  clear c1 c2 cz1 cy1
  clear d1 d2 dz1 dy1
  clear HX CE
  have eqA := eq_A2
  have x0 : ∀ w : World, (Instr.index 45 (.agg #[.int .i64 cx, .int .i64 cy]) (.int .i64 0)).run Try.prog w = .ok (.int .i64 cx) w := fun _ => by kernel_rfl
  have x1 : ∀ w : World, (Instr.index 45 (.agg #[.int .i64 cx, .int .i64 cy]) (.int .i64 1)).run Try.prog w = .ok (.int .i64 cy) w := fun _ => by kernel_rfl
  go_loopw [10] (fun i W => ∃ n : Nat, n ≤ 3 ∧ i = .int .i64 n ∧ Below V4.heap.size V4 W) (fun i _ => 3 - (intOf i).toNat)
  case atStart => exact ⟨0, by omega, rfl, by repeat (first | with_reducible exact Below.refl _ _ | with_reducible refine bl_alloc ?_ _ | with_reducible refine bl_drewN ?_ _ | with_reducible refine bl_drew ?_ | (with_reducible refine bl_set ?_ ?_ _; rotate_left; focus (first | (simp; done) | (simp; omega) | omega)) | with_reducible refine below_step ?_ (Bw.below _) | with_reducible refine below_step ?_ (by assumption))⟩
  case round =>
    obtain ⟨n, hn, rfl, hb⟩ := hrel
    obtain ⟨g, rfl⟩ := bw_of hb
    rcases (show n = 0 ∨ n = 1 ∨ n = 2 ∨ n = 3 by omega) with rfl | rfl | rfl | rfl
    · go_wp2_with fail
      go_loopw [11] (fun i W => ∃ n : Int, 0 ≤ n ∧ n ≤ 2 ∧ i = .int .i64 n ∧ Below V4.heap.size V4 W) (fun i _ => 2 - (intOf i).toNat)
      case atStart => exact ⟨0, by omega, by omega, rfl, by repeat (first | with_reducible exact Below.refl _ _ | with_reducible refine bl_alloc ?_ _ | with_reducible refine bl_drewN ?_ _ | with_reducible refine bl_drew ?_ | (with_reducible refine bl_set ?_ ?_ _; rotate_left; focus (first | (simp; done) | (simp; omega) | omega)) | with_reducible refine below_step ?_ (Bw.below _) | with_reducible refine below_step ?_ (by assumption))⟩
      case round =>
        obtain ⟨m, hm0, hm, rfl, hb2⟩ := hrel
        obtain ⟨g2', rfl⟩ := bw_of hb2
        rcases (show m = 0 ∨ m = 1 ∨ m = 2 by omega) with rfl | rfl | rfl
        · have oo := O1.out
          have b1 := HBD.out 0
          have b2 := HBD.out 3
          go_wp2_with fail
          have hbg := g2'.below
          have i1 := q1 g2'
          have i2 := q2 g2'
          have i3 := q3 g2'
          have i4 := q4 g2'
          have i5 := q5 g2'
          have i6 := q6 g2'
          have i7 := q7 g2'
          have i8 := q8 g2'
          have i9 := q9 g2'
          have i10 := q10 g2'
          have i11 := q11 g2'
          have i12 := q12 g2'
          have hWi := below_step hWq (Bw.below g2')
          clear q1 q2 q3 q4 q5 q6 q7 q8 q9 q10 q11 q12 qz1 qy1
          generalize Bw.out g2' = w0 at *
          clear hWi
          go_region
          go_wp2_with fail
          go_roundw
          case rel => exact ⟨1, by omega, by omega, by go_num, by repeat (first | with_reducible exact Below.refl _ _ | with_reducible refine bl_alloc ?_ _ | with_reducible refine bl_drewN ?_ _ | with_reducible refine bl_drew ?_ | (with_reducible refine bl_set ?_ ?_ _; rotate_left; focus (first | (simp; done) | (simp; omega) | omega)) | with_reducible refine below_step ?_ (Bw.below _) | with_reducible refine below_step ?_ (by assumption))⟩
          case measure => simp [intOf]
        · have oo := O2.out
          have b1 := HBD.out 0
          have b2 := HBD.out 3
          go_wp2_with fail
          have hbg := g2'.below
          have i1 := q1 g2'
          have i2 := q2 g2'
          have i3 := q3 g2'
          have i4 := q4 g2'
          have i5 := q5 g2'
          have i6 := q6 g2'
          have i7 := q7 g2'
          have i8 := q8 g2'
          have i9 := q9 g2'
          have i10 := q10 g2'
          have i11 := q11 g2'
          have i12 := q12 g2'
          have hWi := below_step hWq (Bw.below g2')
          clear q1 q2 q3 q4 q5 q6 q7 q8 q9 q10 q11 q12 qz1 qy1
          generalize Bw.out g2' = w0 at *
          clear hWi
          go_region
          go_wp2_with fail
          go_roundw
          case rel => exact ⟨2, by omega, by omega, by go_num, by repeat (first | with_reducible exact Below.refl _ _ | with_reducible refine bl_alloc ?_ _ | with_reducible refine bl_drewN ?_ _ | with_reducible refine bl_drew ?_ | (with_reducible refine bl_set ?_ ?_ _; rotate_left; focus (first | (simp; done) | (simp; omega) | omega)) | with_reducible refine below_step ?_ (Bw.below _) | with_reducible refine below_step ?_ (by assumption))⟩
          case measure => simp [intOf]
        · go_wp2_with fail
          go_roundw
          case rel => exact ⟨1, by omega, by go_num, by repeat (first | with_reducible exact Below.refl _ _ | with_reducible refine bl_alloc ?_ _ | with_reducible refine bl_drewN ?_ _ | with_reducible refine bl_drew ?_ | (with_reducible refine bl_set ?_ ?_ _; rotate_left; focus (first | (simp; done) | (simp; omega) | omega)) | with_reducible refine below_step ?_ (Bw.below _) | with_reducible refine below_step ?_ (by assumption))⟩
          case measure => simp [intOf]
    · go_wp2_with fail
      go_loopw [11] (fun i W => ∃ n : Int, 0 ≤ n ∧ n ≤ 2 ∧ i = .int .i64 n ∧ Below V4.heap.size V4 W) (fun i _ => 2 - (intOf i).toNat)
      case atStart => exact ⟨0, by omega, by omega, rfl, by repeat (first | with_reducible exact Below.refl _ _ | with_reducible refine bl_alloc ?_ _ | with_reducible refine bl_drewN ?_ _ | with_reducible refine bl_drew ?_ | (with_reducible refine bl_set ?_ ?_ _; rotate_left; focus (first | (simp; done) | (simp; omega) | omega)) | with_reducible refine below_step ?_ (Bw.below _) | with_reducible refine below_step ?_ (by assumption))⟩
      case round =>
        obtain ⟨m, hm0, hm, rfl, hb2⟩ := hrel
        obtain ⟨g2', rfl⟩ := bw_of hb2
        rcases (show m = 0 ∨ m = 1 ∨ m = 2 by omega) with rfl | rfl | rfl
        · have oo := O3.out
          have b1 := HBD.out 1
          have b2 := HBD.out 4
          go_wp2_with fail
          have hbg := g2'.below
          have i1 := q1 g2'
          have i2 := q2 g2'
          have i3 := q3 g2'
          have i4 := q4 g2'
          have i5 := q5 g2'
          have i6 := q6 g2'
          have i7 := q7 g2'
          have i8 := q8 g2'
          have i9 := q9 g2'
          have i10 := q10 g2'
          have i11 := q11 g2'
          have i12 := q12 g2'
          have hWi := below_step hWq (Bw.below g2')
          clear q1 q2 q3 q4 q5 q6 q7 q8 q9 q10 q11 q12 qz1 qy1
          generalize Bw.out g2' = w0 at *
          clear hWi
          go_region
          go_wp2_with fail
          go_roundw
          case rel => exact ⟨1, by omega, by omega, by go_num, by repeat (first | with_reducible exact Below.refl _ _ | with_reducible refine bl_alloc ?_ _ | with_reducible refine bl_drewN ?_ _ | with_reducible refine bl_drew ?_ | (with_reducible refine bl_set ?_ ?_ _; rotate_left; focus (first | (simp; done) | (simp; omega) | omega)) | with_reducible refine below_step ?_ (Bw.below _) | with_reducible refine below_step ?_ (by assumption))⟩
          case measure => simp [intOf]
        · have oo := O4.out
          have b1 := HBD.out 1
          have b2 := HBD.out 4
          go_wp2_with fail
          have hbg := g2'.below
          have i1 := q1 g2'
          have i2 := q2 g2'
          have i3 := q3 g2'
          have i4 := q4 g2'
          have i5 := q5 g2'
          have i6 := q6 g2'
          have i7 := q7 g2'
          have i8 := q8 g2'
          have i9 := q9 g2'
          have i10 := q10 g2'
          have i11 := q11 g2'
          have i12 := q12 g2'
          have hWi := below_step hWq (Bw.below g2')
          clear q1 q2 q3 q4 q5 q6 q7 q8 q9 q10 q11 q12 qz1 qy1
          generalize Bw.out g2' = w0 at *
          clear hWi
          go_region
          go_wp2_with fail
          go_roundw
          case rel => exact ⟨2, by omega, by omega, by go_num, by repeat (first | with_reducible exact Below.refl _ _ | with_reducible refine bl_alloc ?_ _ | with_reducible refine bl_drewN ?_ _ | with_reducible refine bl_drew ?_ | (with_reducible refine bl_set ?_ ?_ _; rotate_left; focus (first | (simp; done) | (simp; omega) | omega)) | with_reducible refine below_step ?_ (Bw.below _) | with_reducible refine below_step ?_ (by assumption))⟩
          case measure => simp [intOf]
        · go_wp2_with fail
          go_roundw
          case rel => exact ⟨2, by omega, by go_num, by repeat (first | with_reducible exact Below.refl _ _ | with_reducible refine bl_alloc ?_ _ | with_reducible refine bl_drewN ?_ _ | with_reducible refine bl_drew ?_ | (with_reducible refine bl_set ?_ ?_ _; rotate_left; focus (first | (simp; done) | (simp; omega) | omega)) | with_reducible refine below_step ?_ (Bw.below _) | with_reducible refine below_step ?_ (by assumption))⟩
          case measure => simp [intOf]
    · go_wp2_with fail
      go_loopw [11] (fun i W => ∃ n : Int, 0 ≤ n ∧ n ≤ 2 ∧ i = .int .i64 n ∧ Below V4.heap.size V4 W) (fun i _ => 2 - (intOf i).toNat)
      case atStart => exact ⟨0, by omega, by omega, rfl, by repeat (first | with_reducible exact Below.refl _ _ | with_reducible refine bl_alloc ?_ _ | with_reducible refine bl_drewN ?_ _ | with_reducible refine bl_drew ?_ | (with_reducible refine bl_set ?_ ?_ _; rotate_left; focus (first | (simp; done) | (simp; omega) | omega)) | with_reducible refine below_step ?_ (Bw.below _) | with_reducible refine below_step ?_ (by assumption))⟩
      case round =>
        obtain ⟨m, hm0, hm, rfl, hb2⟩ := hrel
        obtain ⟨g2', rfl⟩ := bw_of hb2
        rcases (show m = 0 ∨ m = 1 ∨ m = 2 by omega) with rfl | rfl | rfl
        · have oo := O5.out
          have b1 := HBD.out 2
          have b2 := HBD.out 5
          go_wp2_with fail
          have hbg := g2'.below
          have i1 := q1 g2'
          have i2 := q2 g2'
          have i3 := q3 g2'
          have i4 := q4 g2'
          have i5 := q5 g2'
          have i6 := q6 g2'
          have i7 := q7 g2'
          have i8 := q8 g2'
          have i9 := q9 g2'
          have i10 := q10 g2'
          have i11 := q11 g2'
          have i12 := q12 g2'
          have hWi := below_step hWq (Bw.below g2')
          clear q1 q2 q3 q4 q5 q6 q7 q8 q9 q10 q11 q12 qz1 qy1
          generalize Bw.out g2' = w0 at *
          clear hWi
          go_region
          go_wp2_with fail
          go_roundw
          case rel => exact ⟨1, by omega, by omega, by go_num, by repeat (first | with_reducible exact Below.refl _ _ | with_reducible refine bl_alloc ?_ _ | with_reducible refine bl_drewN ?_ _ | with_reducible refine bl_drew ?_ | (with_reducible refine bl_set ?_ ?_ _; rotate_left; focus (first | (simp; done) | (simp; omega) | omega)) | with_reducible refine below_step ?_ (Bw.below _) | with_reducible refine below_step ?_ (by assumption))⟩
          case measure => simp [intOf]
        · have oo := O6.out
          have b1 := HBD.out 2
          have b2 := HBD.out 5
          go_wp2_with fail
          have hbg := g2'.below
          have i1 := q1 g2'
          have i2 := q2 g2'
          have i3 := q3 g2'
          have i4 := q4 g2'
          have i5 := q5 g2'
          have i6 := q6 g2'
          have i7 := q7 g2'
          have i8 := q8 g2'
          have i9 := q9 g2'
          have i10 := q10 g2'
          have i11 := q11 g2'
          have i12 := q12 g2'
          have hWi := below_step hWq (Bw.below g2')
          clear q1 q2 q3 q4 q5 q6 q7 q8 q9 q10 q11 q12 qz1 qy1
          generalize Bw.out g2' = w0 at *
          clear hWi
          go_region
          go_wp2_with fail
          go_roundw
          case rel => exact ⟨2, by omega, by omega, by go_num, by repeat (first | with_reducible exact Below.refl _ _ | with_reducible refine bl_alloc ?_ _ | with_reducible refine bl_drewN ?_ _ | with_reducible refine bl_drew ?_ | (with_reducible refine bl_set ?_ ?_ _; rotate_left; focus (first | (simp; done) | (simp; omega) | omega)) | with_reducible refine below_step ?_ (Bw.below _) | with_reducible refine below_step ?_ (by assumption))⟩
          case measure => simp [intOf]
        · go_wp2_with fail
          go_roundw
          case rel => exact ⟨3, by omega, by go_num, by repeat (first | with_reducible exact Below.refl _ _ | with_reducible refine bl_alloc ?_ _ | with_reducible refine bl_drewN ?_ _ | with_reducible refine bl_drew ?_ | (with_reducible refine bl_set ?_ ?_ _; rotate_left; focus (first | (simp; done) | (simp; omega) | omega)) | with_reducible refine below_step ?_ (Bw.below _) | with_reducible refine below_step ?_ (by assumption))⟩
          case measure => simp [intOf]
    · go_wp2_with fail
      go_loopw [13] (fun i W => ∃ n : Nat, n ≤ 6 ∧ i = .int .i64 n ∧ W.cell? ⟨g.out.heap.size, 0, none⟩ = some (.int .i64 (sS X n)) ∧ W.cell? ⟨g.out.heap.size, 1, none⟩ = some (.int .i64 (sS Y n))
        ∧ W.frozen? ⟨g.out.heap.size, 0, none⟩ = false ∧ W.frozen? ⟨g.out.heap.size, 1, none⟩ = false ∧ Below V4.heap.size V4 W) (fun i _ => 6 - (intOf i).toNat)
      case atStart => exact ⟨0, by omega, rfl, by simp [go_sem, sS], by simp [go_sem, sS], by simp [go_sem], by simp [go_sem], by repeat (first | with_reducible exact Below.refl _ _ | with_reducible refine bl_alloc ?_ _ | with_reducible refine bl_drewN ?_ _ | with_reducible refine bl_drew ?_ | (with_reducible refine bl_set ?_ ?_ _; rotate_left; focus (first | (simp; done) | (simp; omega) | omega)) | with_reducible refine below_step ?_ (Bw.below _) | with_reducible refine below_step ?_ (by assumption))⟩
      case round =>
        obtain ⟨n, hn, rfl, z1, z2, zf1, zf2, hb2⟩ := hrel
        obtain ⟨g2', rfl⟩ := bw_of hb2
        have hgV : V4.heap.size ≤ g.out.heap.size := g.below.size
        have hne : hg ≠ g.out.heap.size := by have := qz1 g; omega
        rcases (show n = 0 ∨ n = 1 ∨ n = 2 ∨ n = 3 ∨ n = 4 ∨ n = 5 ∨ n = 6 by omega) with rfl | rfl | rfl | rfl | rfl | rfl | rfl
        · have b1 := HBD.out 0
          have b2 := SBX.out 0 (by omega)
          have b3 := SBY.out 0 (by omega)
          go_wp2_with fail
          have hbg := g2'.below
          have i1 := q1 g2'
          have i2 := q2 g2'
          have i3 := q3 g2'
          have i4 := q4 g2'
          have i5 := q5 g2'
          have i6 := q6 g2'
          have i7 := q7 g2'
          have i8 := q8 g2'
          have i9 := q9 g2'
          have i10 := q10 g2'
          have i11 := q11 g2'
          have i12 := q12 g2'
          have hWi := below_step hWq (Bw.below g2')
          clear q1 q2 q3 q4 q5 q6 q7 q8 q9 q10 q11 q12 qz1 qy1
          generalize Bw.out g2' = w0 at *
          clear hWi
          go_region
          all_goals (go_wp2_with fail; go_roundw)
          all_goals first
            | exact ⟨1, by omega, by go_num, by simp [go_sem, sS, z1, z2], by simp [go_sem, sS, z1, z2], by simp [go_sem, zf1, zf2], by simp [go_sem, zf1, zf2], by repeat (first | with_reducible exact Below.refl _ _ | with_reducible refine bl_alloc ?_ _ | with_reducible refine bl_drewN ?_ _ | with_reducible refine bl_drew ?_ | (with_reducible refine bl_set ?_ ?_ _; rotate_left; focus (first | (simp; done) | (simp; omega) | omega)) | with_reducible refine below_step ?_ (Bw.below _) | with_reducible refine below_step ?_ (by assumption))⟩
            | (simp [intOf]; done)
        · have b1 := HBD.out 1
          have b2 := SBX.out 1 (by omega)
          have b3 := SBY.out 1 (by omega)
          go_wp2_with fail
          have hbg := g2'.below
          have i1 := q1 g2'
          have i2 := q2 g2'
          have i3 := q3 g2'
          have i4 := q4 g2'
          have i5 := q5 g2'
          have i6 := q6 g2'
          have i7 := q7 g2'
          have i8 := q8 g2'
          have i9 := q9 g2'
          have i10 := q10 g2'
          have i11 := q11 g2'
          have i12 := q12 g2'
          have hWi := below_step hWq (Bw.below g2')
          clear q1 q2 q3 q4 q5 q6 q7 q8 q9 q10 q11 q12 qz1 qy1
          generalize Bw.out g2' = w0 at *
          clear hWi
          go_region
          all_goals (go_wp2_with fail; go_roundw)
          all_goals first
            | exact ⟨2, by omega, by go_num, by simp [go_sem, sS, z1, z2], by simp [go_sem, sS, z1, z2], by simp [go_sem, zf1, zf2], by simp [go_sem, zf1, zf2], by repeat (first | with_reducible exact Below.refl _ _ | with_reducible refine bl_alloc ?_ _ | with_reducible refine bl_drewN ?_ _ | with_reducible refine bl_drew ?_ | (with_reducible refine bl_set ?_ ?_ _; rotate_left; focus (first | (simp; done) | (simp; omega) | omega)) | with_reducible refine below_step ?_ (Bw.below _) | with_reducible refine below_step ?_ (by assumption))⟩
            | (simp [intOf]; done)
        · have b1 := HBD.out 2
          have b2 := SBX.out 2 (by omega)
          have b3 := SBY.out 2 (by omega)
          go_wp2_with fail
          have hbg := g2'.below
          have i1 := q1 g2'
          have i2 := q2 g2'
          have i3 := q3 g2'
          have i4 := q4 g2'
          have i5 := q5 g2'
          have i6 := q6 g2'
          have i7 := q7 g2'
          have i8 := q8 g2'
          have i9 := q9 g2'
          have i10 := q10 g2'
          have i11 := q11 g2'
          have i12 := q12 g2'
          have hWi := below_step hWq (Bw.below g2')
          clear q1 q2 q3 q4 q5 q6 q7 q8 q9 q10 q11 q12 qz1 qy1
          generalize Bw.out g2' = w0 at *
          clear hWi
          go_region
          all_goals (go_wp2_with fail; go_roundw)
          all_goals first
            | exact ⟨3, by omega, by go_num, by simp [go_sem, sS, z1, z2], by simp [go_sem, sS, z1, z2], by simp [go_sem, zf1, zf2], by simp [go_sem, zf1, zf2], by repeat (first | with_reducible exact Below.refl _ _ | with_reducible refine bl_alloc ?_ _ | with_reducible refine bl_drewN ?_ _ | with_reducible refine bl_drew ?_ | (with_reducible refine bl_set ?_ ?_ _; rotate_left; focus (first | (simp; done) | (simp; omega) | omega)) | with_reducible refine below_step ?_ (Bw.below _) | with_reducible refine below_step ?_ (by assumption))⟩
            | (simp [intOf]; done)
        · have b1 := HBD.out 3
          have b2 := SBX.out 3 (by omega)
          have b3 := SBY.out 3 (by omega)
          go_wp2_with fail
          have hbg := g2'.below
          have i1 := q1 g2'
          have i2 := q2 g2'
          have i3 := q3 g2'
          have i4 := q4 g2'
          have i5 := q5 g2'
          have i6 := q6 g2'
          have i7 := q7 g2'
          have i8 := q8 g2'
          have i9 := q9 g2'
          have i10 := q10 g2'
          have i11 := q11 g2'
          have i12 := q12 g2'
          have hWi := below_step hWq (Bw.below g2')
          clear q1 q2 q3 q4 q5 q6 q7 q8 q9 q10 q11 q12 qz1 qy1
          generalize Bw.out g2' = w0 at *
          clear hWi
          go_region
          all_goals (go_wp2_with fail; go_roundw)
          all_goals first
            | exact ⟨4, by omega, by go_num, by simp [go_sem, sS, z1, z2], by simp [go_sem, sS, z1, z2], by simp [go_sem, zf1, zf2], by simp [go_sem, zf1, zf2], by repeat (first | with_reducible exact Below.refl _ _ | with_reducible refine bl_alloc ?_ _ | with_reducible refine bl_drewN ?_ _ | with_reducible refine bl_drew ?_ | (with_reducible refine bl_set ?_ ?_ _; rotate_left; focus (first | (simp; done) | (simp; omega) | omega)) | with_reducible refine below_step ?_ (Bw.below _) | with_reducible refine below_step ?_ (by assumption))⟩
            | (simp [intOf]; done)
        · have b1 := HBD.out 4
          have b2 := SBX.out 4 (by omega)
          have b3 := SBY.out 4 (by omega)
          go_wp2_with fail
          have hbg := g2'.below
          have i1 := q1 g2'
          have i2 := q2 g2'
          have i3 := q3 g2'
          have i4 := q4 g2'
          have i5 := q5 g2'
          have i6 := q6 g2'
          have i7 := q7 g2'
          have i8 := q8 g2'
          have i9 := q9 g2'
          have i10 := q10 g2'
          have i11 := q11 g2'
          have i12 := q12 g2'
          have hWi := below_step hWq (Bw.below g2')
          clear q1 q2 q3 q4 q5 q6 q7 q8 q9 q10 q11 q12 qz1 qy1
          generalize Bw.out g2' = w0 at *
          clear hWi
          go_region
          all_goals (go_wp2_with fail; go_roundw)
          all_goals first
            | exact ⟨5, by omega, by go_num, by simp [go_sem, sS, z1, z2], by simp [go_sem, sS, z1, z2], by simp [go_sem, zf1, zf2], by simp [go_sem, zf1, zf2], by repeat (first | with_reducible exact Below.refl _ _ | with_reducible refine bl_alloc ?_ _ | with_reducible refine bl_drewN ?_ _ | with_reducible refine bl_drew ?_ | (with_reducible refine bl_set ?_ ?_ _; rotate_left; focus (first | (simp; done) | (simp; omega) | omega)) | with_reducible refine below_step ?_ (Bw.below _) | with_reducible refine below_step ?_ (by assumption))⟩
            | (simp [intOf]; done)
        · have b1 := HBD.out 5
          have b2 := SBX.out 5 (by omega)
          have b3 := SBY.out 5 (by omega)
          go_wp2_with fail
          have hbg := g2'.below
          have i1 := q1 g2'
          have i2 := q2 g2'
          have i3 := q3 g2'
          have i4 := q4 g2'
          have i5 := q5 g2'
          have i6 := q6 g2'
          have i7 := q7 g2'
          have i8 := q8 g2'
          have i9 := q9 g2'
          have i10 := q10 g2'
          have i11 := q11 g2'
          have i12 := q12 g2'
          have hWi := below_step hWq (Bw.below g2')
          clear q1 q2 q3 q4 q5 q6 q7 q8 q9 q10 q11 q12 qz1 qy1
          generalize Bw.out g2' = w0 at *
          clear hWi
          go_region
          all_goals (go_wp2_with fail; go_roundw)
          all_goals first
            | exact ⟨6, by omega, by go_num, by simp [go_sem, sS, z1, z2], by simp [go_sem, sS, z1, z2], by simp [go_sem, zf1, zf2], by simp [go_sem, zf1, zf2], by repeat (first | with_reducible exact Below.refl _ _ | with_reducible refine bl_alloc ?_ _ | with_reducible refine bl_drewN ?_ _ | with_reducible refine bl_drew ?_ | (with_reducible refine bl_set ?_ ?_ _; rotate_left; focus (first | (simp; done) | (simp; omega) | omega)) | with_reducible refine below_step ?_ (Bw.below _) | with_reducible refine below_step ?_ (by assumption))⟩
            | (simp [intOf]; done)
        · rw [SX.out] at z1
          rw [SY.out] at z2
          go_wp2_with fail
          refine calls_start (fun V5 => Below V4.heap.size V4 V5) (by repeat (first | with_reducible exact Below.refl _ _ | with_reducible refine bl_alloc ?_ _ | with_reducible refine bl_drewN ?_ _ | with_reducible refine bl_drew ?_ | (with_reducible refine bl_set ?_ ?_ _; rotate_left; focus (first | (simp; done) | (simp; omega) | omega)) | with_reducible refine below_step ?_ (Bw.below _) | with_reducible refine below_step ?_ (by assumption))) ?_
          rintro V5 hWs gs
          refine (awake3 _).mono ?_
          rintro e_g6 w_g6 ⟨rfl, hb_g6⟩
          obtain ⟨g6, rfl⟩ := gs.next hb_g6
          clear hb_g6
          go_wp2_with fail
          go_ret
          exact ⟨rfl, by repeat (first | with_reducible exact Below.refl _ _ | with_reducible refine bl_alloc ?_ _ | with_reducible refine bl_drewN ?_ _ | with_reducible refine bl_drew ?_ | (with_reducible refine bl_set ?_ ?_ _; rotate_left; focus (first | (simp; done) | (simp; omega) | omega)) | with_reducible refine below_step ?_ (Bw.below _) | with_reducible refine below_step ?_ (by assumption))⟩
/-! THE STATEMENT PlaneCorners -/
section
open Go.ChangeShapes Go.WideShapes Go.ChangeAt Go.RowKit Go.Joins
set_option linter.unusedVariables false
set_option maxRecDepth 100000 in
theorem planeCorners_lifted (os : Os) (started : os.Started) (H : Type) (enc : TypeId × Value → H) :
    ReturnsInHanded {} Try.checked os 11 .any (Rows.planeCornersSpec.pre6 enc Try.prog Try.f11 Rows.planeCornersRow.domain false) (Rows.planeCornersSpec.post enc Try.prog Try.f11 false true false false) := by
  refine returnsInHanded_of_change (C := Try.checked) (show ownKnob Try.prog.godebug = none by kernel_rfl) started (by kernel_rfl) Try.func11
    (ChangeSpec.witness6 (enc := enc) (C := Try.checked) false ⟨#[], #[.agg #[.int .i64 0, .int .i64 0], .int .i64 0], []⟩ 8 (by kernel_rfl) (by kernel_rfl) (by kernel_rfl) (by kernel_rfl)) ?_
  intro W base args ds gs before hval0 hW hcnd _
  have hval : ∀ (j : Nat) t v, Try.f11.params[j]? = some t → args[j]? = some v → Value.okWide Try.prog W .any base t v := hval0
  have hW' := hW
  obtain ⟨p, q, hA0, hV, rfl, hfz, hnd⟩ := hW
  have hA : DataW.TrodAll enc Try.prog W 0 (fun _ => true) true Try.f11.params.toList args.toList ds p := hA0
  rw [Try.params11] at hA hval
  obtain ⟨v0, vs0, d0, ds0, p0, q0, hargs, rfl, rfl, h0, r0⟩ := trodAll_cons hA
  obtain ⟨v1, vs1, d1, ds1, p1, q1, rfl, rfl, rfl, h1, r1⟩ := trodAll_cons r0
  obtain ⟨rfl, rfl, rfl⟩ := trodAll_nil r1
  obtain rfl : args = #[v0, v1] := by cases args; simp_all
  obtain ⟨rfl, rfl⟩ := trodVars_none hV
  obtain ⟨c0_0, c0_1, y0_0, y0_1, m0, rfl, rfl, rfl, hy0_0, hy0_1⟩ := open_agg2 Try.underlying25 (by kernel_rfl) (show Try.prog.cellsOf 25 = 2 by kernel_rfl) (hval 0 25 v0 rfl rfl) h0
  obtain ⟨a, e0_0, rfl, wf_a⟩ := DataW.trod_int Try.underlying2 hy0_0
  obtain ⟨b, e0_1, rfl, wf_b⟩ := DataW.trod_int Try.underlying2 hy0_1
  simp at e0_0 e0_1
  subst e0_0 e0_1
  obtain ⟨r, rfl, rfl, rfl, wf_r⟩ := open_int Try.underlying3 (hval 1 3 v1 rfl rfl) h1
  clear hA0 hval0
  simp only [List.append_nil] at hW'
  refine (planecorners_walk a b r (wf_i64 wf_a).1 (wf_i64 wf_a).2 (wf_i64 wf_b).1 (wf_i64 wf_b).2 (wf_i64 wf_r).1 (wf_i64 wf_r).2 W).mono fun e W' ⟨he, hb⟩ => ?_
  subst he
  exact ⟨_, rfl, post_of_below (pa := []) (pv := []) hW' (fun _ _ _ => (trodAll_cons_mk (shut_bool Try.underlying4 _) trodAll_mk0)) (fun sp _ => (trodAll_cons_mk (shut_agg2 (y0 := (.lit (.int .i64 a), [])) (y1 := (.lit (.int .i64 b), [])) Try.underlying25 (by kernel_rfl) (show Try.prog.cellsOf 25 = 2 by kernel_rfl) ⟨1, by simp [DataW.trod, Try.underlying2, wf_a]⟩ ⟨1, by simp [DataW.trod, Try.underlying2, wf_b]⟩) (trodAll_cons_mk (shut_int Try.underlying3 wf_r) trodAll_mk0))) (fun _ _ => rfl) rfl hb
    (ok_one (by kernel_rfl) rfl (okWide_bool_mk Try.underlying4 _))⟩
theorem planeCorners_holds : Rows.PlaneCornersSaid :=
  OpenClaim.holds_of_wide 11 Try.f11 rfl rfl rfl rfl rfl rfl rfl ⟨rfl, rfl, rfl, rfl, rfl⟩ rfl rfl rfl rfl rfl (by kernel_rfl) Try.func11 (by kernel_rfl)
    (of_decide_eq_true (by kernel_rfl)) (by unfold Func.isWrapper; first | (rw [if_pos (by decide +kernel)]; kernel_rfl) | (rw [if_neg (by decide +kernel)]; exact ⟨rfl, rfl⟩))
    (fun os started H enc _ => planeCorners_lifted os started H enc)
end
#print axioms planeCorners_holds
end Go.Proofs.Ytccbcehpoohgpaa

/- The walk of plane's Hex: the six corners of what is nearest to a centre, in thirds. -/
import Derived.Test.YtccbcehpoohgpaaOwn
namespace Go.Proofs.Ytccbcehpoohgpaa
open Go.RowKit
set_option linter.unusedSimpArgs false
set_option linter.unusedVariables false
/-- Corner k, in thirds, as seen from the centre. -/
def hkA : Nat → Int | 0 => 1 | 1 => -1 | 2 => -2 | 3 => -1 | 4 => 1 | _ => 2
def hkB : Nat → Int | 0 => 1 | 1 => 2 | 2 => 1 | 3 => -1 | 4 => -2 | _ => -1
/-- Where corner k lies, in thirds; (ma, mb): three times the centre. -/
def cnX (ma mb : Int) (K k : Nat) : Int := 52 * (ma + plA (hkA k) (hkB k) K) + 26 * (mb + plB (hkA k) (hkB k) K)
def cnY (ma mb : Int) (K k : Nat) : Int := 45 * (mb + plB (hkA k) (hkB k) K)
/-- The first n corners, as cells. -/
def cnRow (ma mb : Int) (K : Nat) : Nat → List Value
  | 0 => []
  | n + 1 => cnRow ma mb K n ++ [.int .i64 (cnX ma mb K n), .int .i64 (cnY ma mb K n)]
theorem cnRow_length (ma mb : Int) (K n : Nat) : (cnRow ma mb K n).length = n * 2 := by
  induction n with
  | zero => rfl
  | succ n ih => simp [cnRow, ih]; omega
def hkV (k : Nat) : Value := .agg #[.int .i64 (hkA k), .int .i64 (hkB k)]
theorem corner_k (ma mb : Int) (K : Nat) (hK : K < 13) (h1 : -10000000000000000 ≤ ma) (h2 : ma ≤ 10000000000000000) (h3 : -10000000000000000 ≤ mb) (h4 : mb ≤ 10000000000000000) (k : Nat) (w : World) :
    Calls Try.prog 42 #[.agg #[.int .i64 ma, .int .i64 mb, .int .i64 (bt K).1, .int .i64 (bt K).2], hkV k] w fun e w' =>
      e = .returned (.agg #[.int .i64 (cnX ma mb K k), .int .i64 (cnY ma mb K k)]) ∧ Below w.heap.size w w' := by
  have hb : -2 ≤ hkA k ∧ hkA k ≤ 2 ∧ -2 ≤ hkB k ∧ hkB k ≤ 2 := by
    unfold hkA hkB
    split <;> decide
  exact plane_corner ma mb (hkA k) (hkB k) K hK h1 h2 h3 h4 hb.1 hb.2.1 hb.2.2.1 hb.2.2.2 w
theorem info_A2 : (Try.prog.info? 45).map (fun i => (i.zero, i.size, i.bytes)) = some (some (.agg #[.int .i64 0, .int .i64 0]), 2, 16) := by kernel_rfl
set_option maxRecDepth 100000 in
set_option maxHeartbeats 2000000 in
theorem plane_hex (a b r : Int) (K : Nat) (hK : K < 13) (hk : 12 - r = (K : Int)) (hz : zOk a b = true) (w : World) :
    Calls Try.prog 23 #[.agg #[.int .i64 a, .int .i64 b], .int .i64 r] w fun e w' =>
      ∃ v, e = .returned (.tuple #[v, .bool true]) ∧ w'.ownsRow w.heap.size 45 2 v 6 (cnRow (plA (3 * a) (3 * b) K) (plB (3 * a) (3 * b) K) K 6) ∧ Below w.heap.size w w' := by
  have hmf : ∀ (fn : Fn) (first cap : Array Value) (w : World), (Instr.makeFunc fn first cap).run Try.prog w = .ok (.func fn first cap) w := fun _ _ _ _ => rfl
  obtain ⟨z1, z2, z3, z4⟩ := zOk_true hz
  obtain ⟨l1, l2, l3, l4⟩ := pl_bd (3 * a) (3 * b) K hK 3221225472 (by omega) (by omega) (by omega) (by omega) (by omega)
  have PL := Lib.hid (plane_place a b r 3 K hK hk (by omega) (by omega) hz)
  have BT := Lib.hid (eis_beta K (by omega))
  have CO := Lib.hid (corner_k (plA (3 * a) (3 * b) K) (plB (3 * a) (3 * b) K) K hK (by omega) (by omega) (by omega) (by omega))
  obtain ⟨i0, hi, hz0, hz1, hz2⟩ := info_parts info_A2
  have r1 : 0 ≤ r := by omega
  have r2 : r ≤ 12 := by omega
  clear l1 l2 l3 l4 hz
  generalize (bt K).1 = t1 at *
  generalize (bt K).2 = t2 at *
  generalize plA (3 * a) (3 * b) K = ma at *
  generalize plB (3 * a) (3 * b) K = mb at *
  go_enter Try.func23, Try.ntmps23
  go_wp2_with fail
  refine calls_start (fun V => V.cell? ⟨w.heap.size, 0, none⟩ = some (.int .i64 a) ∧ V.cell? ⟨w.heap.size, 1, none⟩ = some (.int .i64 b) ∧ Below w.heap.size w V) ⟨by first | (simp [go_sem]; done), by first | (simp [go_sem]; done), by repeat (first | with_reducible exact Below.refl _ _ | with_reducible refine bl_alloc ?_ _ | with_reducible refine bl_drewN ?_ _ | with_reducible refine bl_drew ?_ | (with_reducible refine bl_set ?_ ?_ _; rotate_left; focus (first | (simp; done) | (simp; omega) | omega)) | with_reducible refine below_step ?_ (Bw.below _) | with_reducible refine below_step ?_ (by assumption))⟩ ?_
  rintro V ⟨hc1, hc2, hWc⟩ gc
  have c1 := Bw.hold hc1
  have c2 := Bw.hold hc2
  have cz1 := fun g : Bw V => cell_lt (c1 g)
  have cy1 := fun g : Bw V => Nat.le_of_lt (cz1 g)
  clear hc1 hc2
  refine (PL.out _).mono ?_
  rintro e_g2 w_g2 ⟨rfl, hb_g2⟩
  obtain ⟨g2, rfl⟩ := gc.next hb_g2
  clear hb_g2
  go_wp2_with fail
  refine calls_start (fun V2 => V2.cell? ⟨g2.out.heap.size, 0, none⟩ = some (.int .i64 ma) ∧ V2.cell? ⟨g2.out.heap.size, 1, none⟩ = some (.int .i64 mb) ∧ Below w.heap.size w V2) ⟨by first | (simp [go_sem]; done), by first | (simp [go_sem]; done), by repeat (first | with_reducible exact Below.refl _ _ | with_reducible refine bl_alloc ?_ _ | with_reducible refine bl_drewN ?_ _ | with_reducible refine bl_drew ?_ | (with_reducible refine bl_set ?_ ?_ _; rotate_left; focus (first | (simp; done) | (simp; omega) | omega)) | with_reducible refine below_step ?_ (Bw.below _) | with_reducible refine below_step ?_ (by assumption))⟩ ?_
  rintro V2 ⟨hd1, hd2, hWd⟩ gd
  have d1 := Bw.hold hd1
  have d2 := Bw.hold hd2
  have dz1 := fun g : Bw V2 => cell_lt (d1 g)
  have dy1 := fun g : Bw V2 => Nat.le_of_lt (dz1 g)
  clear hd1 hd2
  refine (BT.out _).mono ?_
  rintro e_g3 w_g3 ⟨rfl, hb_g3⟩
  obtain ⟨g3, rfl⟩ := gd.next hb_g3
  clear hb_g3
  go_wp2_with fail
  refine wp_start (fun V3 => V3.cell? ⟨g3.out.heap.size + 1, 0, none⟩ = some (.int .i64 1) ∧ V3.cell? ⟨g3.out.heap.size + 1, 1, none⟩ = some (.int .i64 1) ∧ V3.cell? ⟨g3.out.heap.size + 1, 2, none⟩ = some (.int .i64 (-1)) ∧ V3.cell? ⟨g3.out.heap.size + 1, 3, none⟩ = some (.int .i64 2) ∧ V3.cell? ⟨g3.out.heap.size + 1, 4, none⟩ = some (.int .i64 (-2)) ∧ V3.cell? ⟨g3.out.heap.size + 1, 5, none⟩ = some (.int .i64 1) ∧ V3.cell? ⟨g3.out.heap.size + 1, 6, none⟩ = some (.int .i64 (-1)) ∧ V3.cell? ⟨g3.out.heap.size + 1, 7, none⟩ = some (.int .i64 (-1)) ∧ V3.cell? ⟨g3.out.heap.size + 1, 8, none⟩ = some (.int .i64 1) ∧ V3.cell? ⟨g3.out.heap.size + 1, 9, none⟩ = some (.int .i64 (-2)) ∧ V3.cell? ⟨g3.out.heap.size + 1, 10, none⟩ = some (.int .i64 2) ∧ V3.cell? ⟨g3.out.heap.size + 1, 11, none⟩ = some (.int .i64 (-1)) ∧ Below w.heap.size w V3) ⟨by first | (simp [go_sem]; done) | with_reducible exact hold_al d1 _ _ | with_reducible exact hold_al d2 _ _ | (simp [go_sem, d1, d2, dz1, dy1]; done), by first | (simp [go_sem]; done) | with_reducible exact hold_al d1 _ _ | with_reducible exact hold_al d2 _ _ | (simp [go_sem, d1, d2, dz1, dy1]; done), by first | (simp [go_sem]; done) | with_reducible exact hold_al d1 _ _ | with_reducible exact hold_al d2 _ _ | (simp [go_sem, d1, d2, dz1, dy1]; done), by first | (simp [go_sem]; done) | with_reducible exact hold_al d1 _ _ | with_reducible exact hold_al d2 _ _ | (simp [go_sem, d1, d2, dz1, dy1]; done), by first | (simp [go_sem]; done) | with_reducible exact hold_al d1 _ _ | with_reducible exact hold_al d2 _ _ | (simp [go_sem, d1, d2, dz1, dy1]; done), by first | (simp [go_sem]; done) | with_reducible exact hold_al d1 _ _ | with_reducible exact hold_al d2 _ _ | (simp [go_sem, d1, d2, dz1, dy1]; done), by first | (simp [go_sem]; done) | with_reducible exact hold_al d1 _ _ | with_reducible exact hold_al d2 _ _ | (simp [go_sem, d1, d2, dz1, dy1]; done), by first | (simp [go_sem]; done) | with_reducible exact hold_al d1 _ _ | with_reducible exact hold_al d2 _ _ | (simp [go_sem, d1, d2, dz1, dy1]; done), by first | (simp [go_sem]; done) | with_reducible exact hold_al d1 _ _ | with_reducible exact hold_al d2 _ _ | (simp [go_sem, d1, d2, dz1, dy1]; done), by first | (simp [go_sem]; done) | with_reducible exact hold_al d1 _ _ | with_reducible exact hold_al d2 _ _ | (simp [go_sem, d1, d2, dz1, dy1]; done), by first | (simp [go_sem]; done) | with_reducible exact hold_al d1 _ _ | with_reducible exact hold_al d2 _ _ | (simp [go_sem, d1, d2, dz1, dy1]; done), by first | (simp [go_sem]; done) | with_reducible exact hold_al d1 _ _ | with_reducible exact hold_al d2 _ _ | (simp [go_sem, d1, d2, dz1, dy1]; done), by repeat (first | with_reducible exact Below.refl _ _ | with_reducible refine bl_alloc ?_ _ | with_reducible refine bl_drewN ?_ _ | with_reducible refine bl_drew ?_ | (with_reducible refine bl_set ?_ ?_ _; rotate_left; focus (first | (simp; done) | (simp; omega) | omega)) | with_reducible refine below_step ?_ (Bw.below _) | with_reducible refine below_step ?_ (by assumption))⟩ ?_
  rintro V3 ⟨hq1, hq2, hq3, hq4, hq5, hq6, hq7, hq8, hq9, hq10, hq11, hq12, hWq⟩ gq
  have q1 := Bw.hold hq1
  have q2 := Bw.hold hq2
  have q3 := Bw.hold hq3
  have q4 := Bw.hold hq4
  have q5 := Bw.hold hq5
  have q6 := Bw.hold hq6
  have q7 := Bw.hold hq7
  have q8 := Bw.hold hq8
  have q9 := Bw.hold hq9
  have q10 := Bw.hold hq10
  have q11 := Bw.hold hq11
  have q12 := Bw.hold hq12
  have qz1 := fun g : Bw V3 => cell_lt (q1 g)
  have qy1 := fun g : Bw V3 => Nat.le_of_lt (qz1 g)
  clear hq1 hq2 hq3 hq4 hq5 hq6 hq7 hq8 hq9 hq10 hq11 hq12
  clear d1 d2 dz1 dy1
  clear PL BT
  go_loopw [11, 40] (fun v i W => ∃ n : Nat, n ≤ 6 ∧ i = .int .i64 n ∧ W.ownsRow V3.heap.size 45 2 v n (cnRow ma mb K n) ∧ Below V3.heap.size V3 W) (fun _ i _ => 6 - (intOf i).toNat)
  case atStart => exact ⟨0, by omega, rfl, World.ownsRow_nil _ _ _ _, by repeat (first | with_reducible exact Below.refl _ _ | with_reducible refine bl_alloc ?_ _ | with_reducible refine bl_drewN ?_ _ | with_reducible refine bl_drew ?_ | (with_reducible refine bl_set ?_ ?_ _; rotate_left; focus (first | (simp; done) | (simp; omega) | omega)) | with_reducible refine below_step ?_ (Bw.below _) | with_reducible refine below_step ?_ (by assumption))⟩
  case round =>
    obtain ⟨n, hn, rfl, hown, hb⟩ := hrel
    obtain ⟨g, rfl⟩ := bw_of hb
    have hsz : w.heap.size ≤ g.out.heap.size := Nat.le_trans hWq.size g.below.size
    rcases (show n = 0 ∨ n = 1 ∨ n = 2 ∨ n = 3 ∨ n = 4 ∨ n = 5 ∨ n = 6 by omega) with rfl | rfl | rfl | rfl | rfl | rfl | rfl
    · go_wp2_with fail
      refine (CO.out 0 _).mono ?_
      rintro e w1 ⟨rfl, hb1⟩
      have hown1 := own_bl (hown.alloc _) hb1
      have hV1 : Below V3.heap.size V3 w1 := below_step (bl_alloc g.below _) hb1
      clear hown hb1
      go_wp2_with (at_builtin; refine wpList_append_own _ rfl (.tmp 44) (.tmp 48) 40 rfl V3.heap.size 45 i0 (.agg #[.int .i64 0, .int .i64 0]) 2 16 Try.underlying40 hi hz0 hz1 hz2 rfl (by decide) _ _ _ rfl (hown1.alloc _) ⟨w1.heap.size, 0, none⟩ 1 1 [.int .i64 (cnX ma mb K 0), .int .i64 (cnY ma mb K 0)] rfl rfl (news2 _ _ _ _) (ones2 _ _ _ _) (by decide) (by decide) (Nat.le_trans hV1.size (bl_alloc (Below.refl _ _) _).size) ?_)
      intro v' w2 hown2 hgrow _
      have hV2 := bl_grown (hown1.alloc _) (Nat.le_refl _) hgrow (bl_alloc hV1 _)
      clear hown1 hgrow hV1
      go_wp2_with fail
      go_roundw
      case rel => exact ⟨1, by omega, by go_num, hown2, hV2⟩
      case measure => simp [intOf]
    · go_wp2_with fail
      refine (CO.out 1 _).mono ?_
      rintro e w1 ⟨rfl, hb1⟩
      have hown1 := own_bl (hown.alloc _) hb1
      have hV1 : Below V3.heap.size V3 w1 := below_step (bl_alloc g.below _) hb1
      clear hown hb1
      go_wp2_with (at_builtin; refine wpList_append_own _ rfl (.tmp 44) (.tmp 48) 40 rfl V3.heap.size 45 i0 (.agg #[.int .i64 0, .int .i64 0]) 2 16 Try.underlying40 hi hz0 hz1 hz2 rfl (by decide) _ _ _ rfl (hown1.alloc _) ⟨w1.heap.size, 0, none⟩ 1 1 [.int .i64 (cnX ma mb K 1), .int .i64 (cnY ma mb K 1)] rfl rfl (news2 _ _ _ _) (ones2 _ _ _ _) (by decide) (by decide) (Nat.le_trans hV1.size (bl_alloc (Below.refl _ _) _).size) ?_)
      intro v' w2 hown2 hgrow _
      have hV2 := bl_grown (hown1.alloc _) (Nat.le_refl _) hgrow (bl_alloc hV1 _)
      clear hown1 hgrow hV1
      go_wp2_with fail
      go_roundw
      case rel => exact ⟨2, by omega, by go_num, hown2, hV2⟩
      case measure => simp [intOf]
    · go_wp2_with fail
      refine (CO.out 2 _).mono ?_
      rintro e w1 ⟨rfl, hb1⟩
      have hown1 := own_bl (hown.alloc _) hb1
      have hV1 : Below V3.heap.size V3 w1 := below_step (bl_alloc g.below _) hb1
      clear hown hb1
      go_wp2_with (at_builtin; refine wpList_append_own _ rfl (.tmp 44) (.tmp 48) 40 rfl V3.heap.size 45 i0 (.agg #[.int .i64 0, .int .i64 0]) 2 16 Try.underlying40 hi hz0 hz1 hz2 rfl (by decide) _ _ _ rfl (hown1.alloc _) ⟨w1.heap.size, 0, none⟩ 1 1 [.int .i64 (cnX ma mb K 2), .int .i64 (cnY ma mb K 2)] rfl rfl (news2 _ _ _ _) (ones2 _ _ _ _) (by decide) (by decide) (Nat.le_trans hV1.size (bl_alloc (Below.refl _ _) _).size) ?_)
      intro v' w2 hown2 hgrow _
      have hV2 := bl_grown (hown1.alloc _) (Nat.le_refl _) hgrow (bl_alloc hV1 _)
      clear hown1 hgrow hV1
      go_wp2_with fail
      go_roundw
      case rel => exact ⟨3, by omega, by go_num, hown2, hV2⟩
      case measure => simp [intOf]
    · go_wp2_with fail
      refine (CO.out 3 _).mono ?_
      rintro e w1 ⟨rfl, hb1⟩
      have hown1 := own_bl (hown.alloc _) hb1
      have hV1 : Below V3.heap.size V3 w1 := below_step (bl_alloc g.below _) hb1
      clear hown hb1
      go_wp2_with (at_builtin; refine wpList_append_own _ rfl (.tmp 44) (.tmp 48) 40 rfl V3.heap.size 45 i0 (.agg #[.int .i64 0, .int .i64 0]) 2 16 Try.underlying40 hi hz0 hz1 hz2 rfl (by decide) _ _ _ rfl (hown1.alloc _) ⟨w1.heap.size, 0, none⟩ 1 1 [.int .i64 (cnX ma mb K 3), .int .i64 (cnY ma mb K 3)] rfl rfl (news2 _ _ _ _) (ones2 _ _ _ _) (by decide) (by decide) (Nat.le_trans hV1.size (bl_alloc (Below.refl _ _) _).size) ?_)
      intro v' w2 hown2 hgrow _
      have hV2 := bl_grown (hown1.alloc _) (Nat.le_refl _) hgrow (bl_alloc hV1 _)
      clear hown1 hgrow hV1
      go_wp2_with fail
      go_roundw
      case rel => exact ⟨4, by omega, by go_num, hown2, hV2⟩
      case measure => simp [intOf]
    · go_wp2_with fail
      refine (CO.out 4 _).mono ?_
      rintro e w1 ⟨rfl, hb1⟩
      have hown1 := own_bl (hown.alloc _) hb1
      have hV1 : Below V3.heap.size V3 w1 := below_step (bl_alloc g.below _) hb1
      clear hown hb1
      go_wp2_with (at_builtin; refine wpList_append_own _ rfl (.tmp 44) (.tmp 48) 40 rfl V3.heap.size 45 i0 (.agg #[.int .i64 0, .int .i64 0]) 2 16 Try.underlying40 hi hz0 hz1 hz2 rfl (by decide) _ _ _ rfl (hown1.alloc _) ⟨w1.heap.size, 0, none⟩ 1 1 [.int .i64 (cnX ma mb K 4), .int .i64 (cnY ma mb K 4)] rfl rfl (news2 _ _ _ _) (ones2 _ _ _ _) (by decide) (by decide) (Nat.le_trans hV1.size (bl_alloc (Below.refl _ _) _).size) ?_)
      intro v' w2 hown2 hgrow _
      have hV2 := bl_grown (hown1.alloc _) (Nat.le_refl _) hgrow (bl_alloc hV1 _)
      clear hown1 hgrow hV1
      go_wp2_with fail
      go_roundw
      case rel => exact ⟨5, by omega, by go_num, hown2, hV2⟩
      case measure => simp [intOf]
    · go_wp2_with fail
      refine (CO.out 5 _).mono ?_
      rintro e w1 ⟨rfl, hb1⟩
      have hown1 := own_bl (hown.alloc _) hb1
      have hV1 : Below V3.heap.size V3 w1 := below_step (bl_alloc g.below _) hb1
      clear hown hb1
      go_wp2_with (at_builtin; refine wpList_append_own _ rfl (.tmp 44) (.tmp 48) 40 rfl V3.heap.size 45 i0 (.agg #[.int .i64 0, .int .i64 0]) 2 16 Try.underlying40 hi hz0 hz1 hz2 rfl (by decide) _ _ _ rfl (hown1.alloc _) ⟨w1.heap.size, 0, none⟩ 1 1 [.int .i64 (cnX ma mb K 5), .int .i64 (cnY ma mb K 5)] rfl rfl (news2 _ _ _ _) (ones2 _ _ _ _) (by decide) (by decide) (Nat.le_trans hV1.size (bl_alloc (Below.refl _ _) _).size) ?_)
      intro v' w2 hown2 hgrow _
      have hV2 := bl_grown (hown1.alloc _) (Nat.le_refl _) hgrow (bl_alloc hV1 _)
      clear hown1 hgrow hV1
      go_wp2_with fail
      go_roundw
      case rel => exact ⟨6, by omega, by go_num, hown2, hV2⟩
      case measure => simp [intOf]
    · go_wp2_with fail
      refine bodyPost_ret (v := .tuple #[u11, .bool true]) (by simp [results, Try.results23, go_sem]) rfl ⟨u11, rfl, own_mono hown hWq.size, by repeat (first | with_reducible exact Below.refl _ _ | with_reducible refine bl_alloc ?_ _ | with_reducible refine bl_drewN ?_ _ | with_reducible refine bl_drew ?_ | (with_reducible refine bl_set ?_ ?_ _; rotate_left; focus (first | (simp; done) | (simp; omega) | omega)) | with_reducible refine below_step ?_ (Bw.below _) | with_reducible refine below_step ?_ (by assumption))⟩
set_option maxHeartbeats 1000000 in
theorem plane_hex_no (a b r : Int) (h : rsB r = false ∨ zOk a b = false) (w : World) :
    Calls Try.prog 23 #[.agg #[.int .i64 a, .int .i64 b], .int .i64 r] w fun e w' => e = .returned (.tuple #[.slice none 0 0, .bool false]) ∧ Below w.heap.size w w' := by
  have PL := Lib.hid (plane_place_no a b r 3 h)
  clear h
  go_enter Try.func23, Try.ntmps23
  go_wp2_with fail
  refine calls_start (fun V => V.cell? ⟨w.heap.size, 0, none⟩ = some (.int .i64 a) ∧ V.cell? ⟨w.heap.size, 1, none⟩ = some (.int .i64 b) ∧ Below w.heap.size w V) ⟨by first | (simp [go_sem]; done), by first | (simp [go_sem]; done), by repeat (first | with_reducible exact Below.refl _ _ | with_reducible refine bl_alloc ?_ _ | with_reducible refine bl_drewN ?_ _ | with_reducible refine bl_drew ?_ | (with_reducible refine bl_set ?_ ?_ _; rotate_left; focus (first | (simp; done) | (simp; omega) | omega)) | with_reducible refine below_step ?_ (Bw.below _) | with_reducible refine below_step ?_ (by assumption))⟩ ?_
  rintro V ⟨hc1, hc2, hWc⟩ gc
  have c1 := Bw.hold hc1
  have c2 := Bw.hold hc2
  have cz1 := fun g : Bw V => cell_lt (c1 g)
  have cy1 := fun g : Bw V => Nat.le_of_lt (cz1 g)
  clear hc1 hc2
  refine (PL.out _).mono ?_
  rintro e_g2 w_g2 ⟨rfl, hb_g2⟩
  obtain ⟨g2, rfl⟩ := gc.next hb_g2
  clear hb_g2
  go_wp2_with fail
  refine bodyPost_ret (v := .tuple #[.slice none 0 0, .bool false]) (by simp [results, Try.results23, go_sem]) rfl ⟨rfl, by repeat (first | with_reducible exact Below.refl _ _ | with_reducible refine bl_alloc ?_ _ | with_reducible refine bl_drewN ?_ _ | with_reducible refine bl_drew ?_ | (with_reducible refine bl_set ?_ ?_ _; rotate_left; focus (first | (simp; done) | (simp; omega) | omega)) | with_reducible refine below_step ?_ (Bw.below _) | with_reducible refine below_step ?_ (by assumption))⟩
set_option maxRecDepth 100000 in
set_option maxHeartbeats 1000000 in
theorem ref_centre (a b r : Int) (K : Nat) (hK : K < 13) (hk : 12 - r = (K : Int)) (hz : zOk a b = true) (w : World) :
    Calls Try.prog 24 #[.agg #[.int .i64 a, .int .i64 b], .int .i64 r] w fun e w' => e = .returned (.tuple #[.int .i64 (ceX a b K), .int .i64 (ceY a b K), .bool true]) ∧ Below w.heap.size w w' := by
  obtain ⟨z1, z2, z3, z4⟩ := zOk_true hz
  have r1 : 0 ≤ r := by omega
  have r2 : r ≤ 12 := by omega
  obtain ⟨l1, l2, l3, l4⟩ := pl_bd a b K hK 1073741824 (by omega) z1 z2 z3 z4
  obtain ⟨b1, b2, b3, b4⟩ := bt_small K hK
  have BT := Lib.hid (ref_beta K (by omega))
  have ML := Lib.hid (ref_mul_fit a b (bt K).1 (bt K).2 (plA a b K) (plB a b K) (by omega) (by omega) (by omega) (by omega) (by omega) (by omega) (by omega) (by omega) (by omega) (by omega) (by omega) (by omega) (by unfold plA; grind) (by unfold plB; grind))
  have d1 : decide (r < 0) = false := decide_eq_false (by omega)
  have d2 : decide (12 < r) = false := decide_eq_false (by omega)
  have d3 : decide (a < -1073741824) = false := decide_eq_false (by omega)
  have d4 : decide (1073741824 < a) = false := decide_eq_false (by omega)
  have d5 : decide (b < -1073741824) = false := decide_eq_false (by omega)
  have d6 : decide (1073741824 < b) = false := decide_eq_false (by omega)
  rw [show ceX a b K = 52 * plA a b K + 26 * plB a b K from rfl, show ceY a b K = 45 * plB a b K from rfl]
  clear hz b1 b2 b3 b4
  generalize (bt K).1 = t1 at *
  generalize (bt K).2 = t2 at *
  generalize plA a b K = pa at *
  generalize plB a b K = pb at *
  go_enter Try.func24, Try.ntmps24
  go_wp2_with fail
  refine calls_start (fun V => V.cell? ⟨w.heap.size, 0, none⟩ = some (.int .i64 a) ∧ V.cell? ⟨w.heap.size, 1, none⟩ = some (.int .i64 b) ∧ Below w.heap.size w V) ⟨by first | (simp [go_sem]; done), by first | (simp [go_sem]; done), by repeat (first | with_reducible exact Below.refl _ _ | with_reducible refine bl_alloc ?_ _ | with_reducible refine bl_drewN ?_ _ | with_reducible refine bl_drew ?_ | (with_reducible refine bl_set ?_ ?_ _; rotate_left; focus (first | (simp; done) | (simp; omega) | omega)) | with_reducible refine below_step ?_ (Bw.below _) | with_reducible refine below_step ?_ (by assumption))⟩ ?_
  rintro V ⟨hc1, hc2, hWc⟩ gc
  have c1 := Bw.hold hc1
  have c2 := Bw.hold hc2
  have cz1 := fun g : Bw V => cell_lt (c1 g)
  have cy1 := fun g : Bw V => Nat.le_of_lt (cz1 g)
  clear hc1 hc2
  refine (BT.out _).mono ?_
  rintro e_g2 w_g2 ⟨rfl, hb_g2⟩
  obtain ⟨g2, rfl⟩ := gc.next hb_g2
  clear hb_g2
  go_wp2_with fail
  refine calls_start (fun V2 => V2.cell? ⟨w.heap.size, 0, none⟩ = some (.int .i64 a) ∧ V2.cell? ⟨w.heap.size, 1, none⟩ = some (.int .i64 b) ∧ V2.cell? ⟨g2.out.heap.size, 0, none⟩ = some (.int .i64 t1) ∧ V2.cell? ⟨g2.out.heap.size, 1, none⟩ = some (.int .i64 t2) ∧ Below w.heap.size w V2) ⟨by first | (simp [go_sem]; done) | with_reducible exact hold_al c1 _ _ | with_reducible exact hold_al c2 _ _ | (simp [go_sem, c1, c2, cz1, cy1]; done), by first | (simp [go_sem]; done) | with_reducible exact hold_al c1 _ _ | with_reducible exact hold_al c2 _ _ | (simp [go_sem, c1, c2, cz1, cy1]; done), by first | (simp [go_sem]; done) | with_reducible exact hold_al c1 _ _ | with_reducible exact hold_al c2 _ _ | (simp [go_sem, c1, c2, cz1, cy1]; done), by first | (simp [go_sem]; done) | with_reducible exact hold_al c1 _ _ | with_reducible exact hold_al c2 _ _ | (simp [go_sem, c1, c2, cz1, cy1]; done), by repeat (first | with_reducible exact Below.refl _ _ | with_reducible refine bl_alloc ?_ _ | with_reducible refine bl_drewN ?_ _ | with_reducible refine bl_drew ?_ | (with_reducible refine bl_set ?_ ?_ _; rotate_left; focus (first | (simp; done) | (simp; omega) | omega)) | with_reducible refine below_step ?_ (Bw.below _) | with_reducible refine below_step ?_ (by assumption))⟩ ?_
  rintro V2 ⟨hd1, hd2, hd3, hd4, hWd⟩ gd
  have d1 := Bw.hold hd1
  have d2 := Bw.hold hd2
  have d3 := Bw.hold hd3
  have d4 := Bw.hold hd4
  have dz1 := fun g : Bw V2 => cell_lt (d1 g)
  have dy1 := fun g : Bw V2 => Nat.le_of_lt (dz1 g)
  have dz3 := fun g : Bw V2 => cell_lt (d3 g)
  have dy3 := fun g : Bw V2 => Nat.le_of_lt (dz3 g)
  clear hd1 hd2 hd3 hd4
  clear c1 c2 cz1 cy1
  refine (ML.out _).mono ?_
  rintro e_g3 w_g3 ⟨rfl, hb_g3⟩
  obtain ⟨g3, rfl⟩ := gd.next hb_g3
  clear hb_g3
  go_wp2_with fail
  refine wp_start (fun V3 => V3.cell? ⟨g3.out.heap.size, 0, none⟩ = some (.int .i64 pa) ∧ V3.cell? ⟨g3.out.heap.size, 1, none⟩ = some (.int .i64 pb) ∧ Below w.heap.size w V3) ⟨by first | (simp [go_sem]; done) | with_reducible exact hold_al d1 _ _ | with_reducible exact hold_al d2 _ _ | with_reducible exact hold_al d3 _ _ | with_reducible exact hold_al d4 _ _ | (simp [go_sem, d1, d2, d3, d4, dz1, dy1, dz3, dy3]; done), by first | (simp [go_sem]; done) | with_reducible exact hold_al d1 _ _ | with_reducible exact hold_al d2 _ _ | with_reducible exact hold_al d3 _ _ | with_reducible exact hold_al d4 _ _ | (simp [go_sem, d1, d2, d3, d4, dz1, dy1, dz3, dy3]; done), by repeat (first | with_reducible exact Below.refl _ _ | with_reducible refine bl_alloc ?_ _ | with_reducible refine bl_drewN ?_ _ | with_reducible refine bl_drew ?_ | (with_reducible refine bl_set ?_ ?_ _; rotate_left; focus (first | (simp; done) | (simp; omega) | omega)) | with_reducible refine below_step ?_ (Bw.below _) | with_reducible refine below_step ?_ (by assumption))⟩ ?_
  rintro V3 ⟨hq1, hq2, hWq⟩ gq
  have q1 := Bw.hold hq1
  have q2 := Bw.hold hq2
  have qz1 := fun g : Bw V3 => cell_lt (q1 g)
  have qy1 := fun g : Bw V3 => Nat.le_of_lt (qz1 g)
  clear hq1 hq2
  clear d1 d2 d3 d4 dz1 dy1 dz3 dy3
  have q1' := q1 gq
  have q2' := q2 gq
  go_quiet (fail)
  go_wp2_with fail
  go_ret3
  exact ⟨rfl, by repeat (first | with_reducible exact Below.refl _ _ | with_reducible refine bl_alloc ?_ _ | with_reducible refine bl_drewN ?_ _ | with_reducible refine bl_drew ?_ | (with_reducible refine bl_set ?_ ?_ _; rotate_left; focus (first | (simp; done) | (simp; omega) | omega)) | with_reducible refine below_step ?_ (Bw.below _) | with_reducible refine below_step ?_ (by assumption))⟩
end Go.Proofs.Ytccbcehpoohgpaa

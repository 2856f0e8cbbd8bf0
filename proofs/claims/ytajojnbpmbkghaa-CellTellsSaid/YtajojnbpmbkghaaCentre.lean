/- The walks of plane's spot, place and Centre. -/
import Derived.Test.YtajojnbpmbkghaaPoint3
namespace Go.Proofs.Ytajojnbpmbkghaa
open Go.RowKit
set_option linter.unusedSimpArgs false
set_option linter.unusedVariables false
theorem plane_spot (a b : Int) (ha : -50000000000000000 ≤ a) (ha' : a ≤ 50000000000000000) (hb : -50000000000000000 ≤ b) (hb' : b ≤ 50000000000000000) (w : World) :
    Calls Try.prog 43 #[.agg #[.int .i64 a, .int .i64 b]] w fun e w' => e = .returned (.agg #[.int .i64 (52 * a + 26 * b), .int .i64 (45 * b)]) ∧ Below w.heap.size w w' := by
  go_enter Try.func43, Try.ntmps43
  go_wp2_with fail
  refine bodyPost_ret (v := .agg #[.int .i64 (52 * a + 26 * b), .int .i64 (45 * b)]) (by simp [results, Try.results43, go_sem]) rfl ⟨rfl, by repeat (first | with_reducible exact Below.refl _ _ | with_reducible refine bl_alloc ?_ _ | with_reducible refine bl_drewN ?_ _ | with_reducible refine bl_drew ?_ | (with_reducible refine bl_set ?_ ?_ _; rotate_left; focus (first | (simp; done) | (simp; omega) | omega)) | with_reducible refine below_step ?_ (Bw.below _) | with_reducible refine below_step ?_ (by assumption))⟩
/-- Is a centre's number in its bounds? -/
def zOk (a b : Int) : Bool := decide (-1073741824 ≤ a ∧ a ≤ 1073741824 ∧ -1073741824 ≤ b ∧ b ≤ 1073741824)
theorem zOk_true {a b : Int} (h : zOk a b = true) : -1073741824 ≤ a ∧ a ≤ 1073741824 ∧ -1073741824 ≤ b ∧ b ≤ 1073741824 := of_decide_eq_true h
/-- A centre's number in the finest lattice. -/
def plA (a b : Int) (k : Nat) : Int := (bt k).1 * a - (bt k).2 * b
def plB (a b : Int) (k : Nat) : Int := (bt k).1 * b + (bt k).2 * a + (bt k).2 * b
theorem pl_bd (a b : Int) (k : Nat) (hk : k < 13) (M : Int) (hM : 0 ≤ M) (h1 : -M ≤ a) (h2 : a ≤ M) (h3 : -M ≤ b) (h4 : b ≤ M) :
    -(1200000 * M) ≤ plA a b k ∧ plA a b k ≤ 1200000 * M ∧ -(1200000 * M) ≤ plB a b k ∧ plB a b k ≤ 1200000 * M := by
  obtain ⟨b1, b2, b3, b4⟩ := bt_small k hk
  have m1 := mul_bd (bt k).1 a 400000 M b1 b2 h1 h2
  have m2 := mul_bd (bt k).2 b 400000 M b3 b4 h3 h4
  have m3 := mul_bd (bt k).1 b 400000 M b1 b2 h3 h4
  have m4 := mul_bd (bt k).2 a 400000 M b3 b4 h1 h2
  unfold plA plB
  omega
theorem pl_times (a b c : Int) (k : Nat) : plA (c * a) (c * b) k = c * plA a b k ∧ plB (c * a) (c * b) k = c * plB a b k := by
  unfold plA plB
  constructor <;> grind
set_option maxRecDepth 100000 in
set_option maxHeartbeats 1000000 in
theorem plane_place (a b r c : Int) (K : Nat) (hK : K < 13) (hk : 12 - r = (K : Int)) (hc : 1 ≤ c) (hc' : c ≤ 3) (hz : zOk a b = true) (w : World) :
    Calls Try.prog 42 #[.agg #[.int .i64 a, .int .i64 b], .int .i64 r, .int .i64 c] w fun e w' => e = .returned (.tuple #[.agg #[.int .i64 (plA (c * a) (c * b) K), .int .i64 (plB (c * a) (c * b) K)], .bool true]) ∧ Below w.heap.size w w' := by
  obtain ⟨z1, z2, z3, z4⟩ := zOk_true hz
  have r1 : 0 ≤ r := by omega
  have r2 : r ≤ 12 := by omega
  obtain ⟨m1, m2⟩ := mul_bd c a 3 1073741824 (by omega) (by omega) z1 z2
  obtain ⟨m3, m4⟩ := mul_bd c b 3 1073741824 (by omega) (by omega) z3 z4
  obtain ⟨l1, l2, l3, l4⟩ := pl_bd (c * a) (c * b) K hK 3221225472 (by omega) (by omega) (by omega) (by omega) (by omega)
  obtain ⟨b1, b2, b3, b4⟩ := bt_small K hK
  have IR := plane_isres r
  rw [show rsB r = true from decide_eq_true ⟨r1, r2⟩] at IR
  have HI := Lib.hid IR
  have W1 := num_within a 1073741824 (by omega) (by omega)
  have W2 := num_within b 1073741824 (by omega) (by omega)
  rw [show withinB a 1073741824 = true from decide_eq_true ⟨z1, z2⟩] at W1
  rw [show withinB b 1073741824 = true from decide_eq_true ⟨z3, z4⟩] at W2
  have H1 := Lib.hid W1
  have H2 := Lib.hid W2
  have BT := Lib.hid (eis_beta K (by omega))
  have ML := Lib.hid (eis_mul_fit (bt K).1 (bt K).2 (c * a) (c * b) (plA (c * a) (c * b) K) (plB (c * a) (c * b) K) (by omega) (by omega) (by omega) (by omega) (by omega) (by omega) (by omega) (by omega) (by omega) (by omega) (by omega) (by omega) rfl rfl)
  clear IR W1 W2 hz b1 b2 b3 b4 l1 l2 l3 l4
  generalize (bt K).1 = t1 at *
  generalize (bt K).2 = t2 at *
  generalize plA (c * a) (c * b) K = pa at *
  generalize plB (c * a) (c * b) K = pb at *
  go_enter Try.func42, Try.ntmps42
  go_wp2_with fail
  refine calls_start (fun V => V.cell? ⟨w.heap.size, 0, none⟩ = some (.int .i64 a) ∧ V.cell? ⟨w.heap.size, 1, none⟩ = some (.int .i64 b) ∧ V.cell? ⟨w.heap.size + 1, 0, none⟩ = some (.int .i64 0) ∧ V.frozen? ⟨w.heap.size + 1, 0, none⟩ = false ∧ V.cell? ⟨w.heap.size + 1, 1, none⟩ = some (.int .i64 0) ∧ V.frozen? ⟨w.heap.size + 1, 1, none⟩ = false ∧ Below w.heap.size w V) ⟨by first | with_reducible assumption | (simp [go_sem]; done), by first | with_reducible assumption | (simp [go_sem]; done), by first | with_reducible assumption | (simp [go_sem]; done), by first | with_reducible assumption | (simp [go_sem]; done), by first | with_reducible assumption | (simp [go_sem]; done), by first | with_reducible assumption | (simp [go_sem]; done), by repeat (first | with_reducible exact Below.refl _ _ | with_reducible refine bl_alloc ?_ _ | with_reducible refine bl_drewN ?_ _ | with_reducible refine bl_drew ?_ | (with_reducible refine bl_set ?_ ?_ _; rotate_left; focus (first | (simp; done) | (simp; omega) | omega)) | with_reducible refine below_step ?_ (Bw.below _) | with_reducible refine below_step ?_ (by assumption))⟩ ?_
  rintro V ⟨hc1, hc2, hc3, fc3, hc4, fc4, hWc⟩ gc
  have c1 := Bw.hold hc1
  have c2 := Bw.hold hc2
  have c3 := Bw.hold hc3
  have cf3 := Bw.free hc3 fc3
  have c4 := Bw.hold hc4
  have cf4 := Bw.free hc4 fc4
  have cz1 := fun g : Bw V => cell_lt (c1 g)
  have cy1 := fun g : Bw V => Nat.le_of_lt (cz1 g)
  have cz3 := fun g : Bw V => cell_lt (c3 g)
  have cy3 := fun g : Bw V => Nat.le_of_lt (cz3 g)
  clear hc1 hc2 hc3 fc3 hc4 fc4
  refine (HI.out _).mono ?_
  rintro e w1 ⟨rfl, rfl⟩
  go_wp2_with fail
  refine (H1.out _).mono ?_
  rintro e w1 ⟨rfl, rfl⟩
  go_wp2_with fail
  refine (H2.out _).mono ?_
  rintro e w1 ⟨rfl, rfl⟩
  go_wp2_with fail
  refine (BT.out _).mono ?_
  rintro e_g2 w_g2 ⟨rfl, hb_g2⟩
  obtain ⟨g2, rfl⟩ := gc.next hb_g2
  clear hb_g2
  go_wp2_with fail
  refine calls_start (fun V2 => V2.cell? ⟨w.heap.size, 0, none⟩ = some (.int .i64 a) ∧ V2.cell? ⟨w.heap.size, 1, none⟩ = some (.int .i64 b) ∧ V2.cell? ⟨w.heap.size + 1, 0, none⟩ = some (.int .i64 0) ∧ V2.frozen? ⟨w.heap.size + 1, 0, none⟩ = false ∧ V2.cell? ⟨w.heap.size + 1, 1, none⟩ = some (.int .i64 0) ∧ V2.frozen? ⟨w.heap.size + 1, 1, none⟩ = false ∧ V2.cell? ⟨g2.out.heap.size, 0, none⟩ = some (.int .i64 t1) ∧ V2.cell? ⟨g2.out.heap.size, 1, none⟩ = some (.int .i64 t2) ∧ Below w.heap.size w V2) ⟨by first | with_reducible assumption | (simp [go_sem]; done) | with_reducible exact hold_al c1 _ _ | with_reducible exact hold_al c2 _ _ | with_reducible exact hold_al c3 _ _ | with_reducible exact hold_al c4 _ _ | (simp [go_sem, c1, c2, c3, cf3, c4, cf4, cz1, cy1, cz3, cy3]; done), by first | with_reducible assumption | (simp [go_sem]; done) | with_reducible exact hold_al c1 _ _ | with_reducible exact hold_al c2 _ _ | with_reducible exact hold_al c3 _ _ | with_reducible exact hold_al c4 _ _ | (simp [go_sem, c1, c2, c3, cf3, c4, cf4, cz1, cy1, cz3, cy3]; done), by first | with_reducible assumption | (simp [go_sem]; done) | with_reducible exact hold_al c1 _ _ | with_reducible exact hold_al c2 _ _ | with_reducible exact hold_al c3 _ _ | with_reducible exact hold_al c4 _ _ | (simp [go_sem, c1, c2, c3, cf3, c4, cf4, cz1, cy1, cz3, cy3]; done), by first | with_reducible assumption | (simp [go_sem]; done) | with_reducible exact hold_alF c3 cf3 _ _ | with_reducible exact hold_alF c4 cf4 _ _ | (simp [go_sem, c1, c2, c3, cf3, c4, cf4, cz1, cy1, cz3, cy3]; done), by first | with_reducible assumption | (simp [go_sem]; done) | with_reducible exact hold_al c1 _ _ | with_reducible exact hold_al c2 _ _ | with_reducible exact hold_al c3 _ _ | with_reducible exact hold_al c4 _ _ | (simp [go_sem, c1, c2, c3, cf3, c4, cf4, cz1, cy1, cz3, cy3]; done), by first | with_reducible assumption | (simp [go_sem]; done) | with_reducible exact hold_alF c3 cf3 _ _ | with_reducible exact hold_alF c4 cf4 _ _ | (simp [go_sem, c1, c2, c3, cf3, c4, cf4, cz1, cy1, cz3, cy3]; done), by first | with_reducible assumption | (simp [go_sem]; done) | with_reducible exact hold_al c1 _ _ | with_reducible exact hold_al c2 _ _ | with_reducible exact hold_al c3 _ _ | with_reducible exact hold_al c4 _ _ | (simp [go_sem, c1, c2, c3, cf3, c4, cf4, cz1, cy1, cz3, cy3]; done), by first | with_reducible assumption | (simp [go_sem]; done) | with_reducible exact hold_al c1 _ _ | with_reducible exact hold_al c2 _ _ | with_reducible exact hold_al c3 _ _ | with_reducible exact hold_al c4 _ _ | (simp [go_sem, c1, c2, c3, cf3, c4, cf4, cz1, cy1, cz3, cy3]; done), by repeat (first | with_reducible exact Below.refl _ _ | with_reducible refine bl_alloc ?_ _ | with_reducible refine bl_drewN ?_ _ | with_reducible refine bl_drew ?_ | (with_reducible refine bl_set ?_ ?_ _; rotate_left; focus (first | (simp; done) | (simp; omega) | omega)) | with_reducible refine below_step ?_ (Bw.below _) | with_reducible refine below_step ?_ (by assumption))⟩ ?_
  rintro V2 ⟨hd1, hd2, hd3, fd3, hd4, fd4, hd5, hd6, hWd⟩ gd
  have d1 := Bw.hold hd1
  have d2 := Bw.hold hd2
  have d3 := Bw.hold hd3
  have df3 := Bw.free hd3 fd3
  have d4 := Bw.hold hd4
  have df4 := Bw.free hd4 fd4
  have d5 := Bw.hold hd5
  have d6 := Bw.hold hd6
  have dz1 := fun g : Bw V2 => cell_lt (d1 g)
  have dy1 := fun g : Bw V2 => Nat.le_of_lt (dz1 g)
  have dz3 := fun g : Bw V2 => cell_lt (d3 g)
  have dy3 := fun g : Bw V2 => Nat.le_of_lt (dz3 g)
  have dz5 := fun g : Bw V2 => cell_lt (d5 g)
  have dy5 := fun g : Bw V2 => Nat.le_of_lt (dz5 g)
  clear hd1 hd2 hd3 fd3 hd4 fd4 hd5 hd6
  clear c1 c2 c3 cf3 c4 cf4 cz1 cy1 cz3 cy3
  refine (ML.out _).mono ?_
  rintro e_g3 w_g3 ⟨rfl, hb_g3⟩
  obtain ⟨g3, rfl⟩ := gd.next hb_g3
  clear hb_g3
  go_wp2_with fail
  refine bodyPost_ret (v := .tuple #[.agg #[.int .i64 pa, .int .i64 pb], .bool true]) (by simp [results, Try.results42, go_sem, d1, d2, d3, d4]) rfl ⟨rfl, by repeat (first | with_reducible exact Below.refl _ _ | with_reducible refine bl_alloc ?_ _ | with_reducible refine bl_drewN ?_ _ | with_reducible refine bl_drew ?_ | (with_reducible refine bl_set ?_ ?_ _; rotate_left; focus (first | (simp; done) | (simp; omega) | omega)) | with_reducible refine below_step ?_ (Bw.below _) | with_reducible refine below_step ?_ (by assumption))⟩
set_option maxHeartbeats 1000000 in
theorem plane_place_no (a b r c : Int) (h : rsB r = false ∨ zOk a b = false) (w : World) :
    Calls Try.prog 42 #[.agg #[.int .i64 a, .int .i64 b], .int .i64 r, .int .i64 c] w fun e w' => e = .returned (.tuple #[.agg #[.int .i64 0, .int .i64 0], .bool false]) ∧ Below w.heap.size w w' := by
  have IR := plane_isres r
  have W1 := num_within a 1073741824 (by omega) (by omega)
  have W2 := num_within b 1073741824 (by omega) (by omega)
  rcases hr : rsB r with _ | _
  · rw [hr] at IR
    have HI := Lib.hid IR
    clear IR h hr W1 W2
    go_enter Try.func42, Try.ntmps42
    go_wp2_with fail
    refine calls_start (fun V => V.cell? ⟨w.heap.size, 0, none⟩ = some (.int .i64 a) ∧ V.cell? ⟨w.heap.size, 1, none⟩ = some (.int .i64 b) ∧ V.cell? ⟨w.heap.size + 1, 0, none⟩ = some (.int .i64 0) ∧ V.frozen? ⟨w.heap.size + 1, 0, none⟩ = false ∧ V.cell? ⟨w.heap.size + 1, 1, none⟩ = some (.int .i64 0) ∧ V.frozen? ⟨w.heap.size + 1, 1, none⟩ = false ∧ Below w.heap.size w V) ⟨by first | with_reducible assumption | (simp [go_sem]; done), by first | with_reducible assumption | (simp [go_sem]; done), by first | with_reducible assumption | (simp [go_sem]; done), by first | with_reducible assumption | (simp [go_sem]; done), by first | with_reducible assumption | (simp [go_sem]; done), by first | with_reducible assumption | (simp [go_sem]; done), by repeat (first | with_reducible exact Below.refl _ _ | with_reducible refine bl_alloc ?_ _ | with_reducible refine bl_drewN ?_ _ | with_reducible refine bl_drew ?_ | (with_reducible refine bl_set ?_ ?_ _; rotate_left; focus (first | (simp; done) | (simp; omega) | omega)) | with_reducible refine below_step ?_ (Bw.below _) | with_reducible refine below_step ?_ (by assumption))⟩ ?_
    rintro V ⟨hc1, hc2, hc3, fc3, hc4, fc4, hWc⟩ gc
    have c1 := Bw.hold hc1
    have c2 := Bw.hold hc2
    have c3 := Bw.hold hc3
    have cf3 := Bw.free hc3 fc3
    have c4 := Bw.hold hc4
    have cf4 := Bw.free hc4 fc4
    have cz1 := fun g : Bw V => cell_lt (c1 g)
    have cy1 := fun g : Bw V => Nat.le_of_lt (cz1 g)
    have cz3 := fun g : Bw V => cell_lt (c3 g)
    have cy3 := fun g : Bw V => Nat.le_of_lt (cz3 g)
    clear hc1 hc2 hc3 fc3 hc4 fc4
    refine (HI.out _).mono ?_
    rintro e w1 ⟨rfl, rfl⟩
    go_wp2_with fail
    refine bodyPost_ret (v := .tuple #[.agg #[.int .i64 0, .int .i64 0], .bool false]) (by simp [results, Try.results42, go_sem, c1, c2, c3, c4, cz1, cz3]) rfl ⟨rfl, by repeat (first | with_reducible exact Below.refl _ _ | with_reducible refine bl_alloc ?_ _ | with_reducible refine bl_drewN ?_ _ | with_reducible refine bl_drew ?_ | (with_reducible refine bl_set ?_ ?_ _; rotate_left; focus (first | (simp; done) | (simp; omega) | omega)) | with_reducible refine below_step ?_ (Bw.below _) | with_reducible refine below_step ?_ (by assumption))⟩
  · rw [hr] at IR
    have HI := Lib.hid IR
    rcases ha : withinB a 1073741824 with _ | _
    · rw [ha] at W1
      have H1 := Lib.hid W1
      clear IR h hr W1 W2 ha
      go_enter Try.func42, Try.ntmps42
      go_wp2_with fail
      refine calls_start (fun V => V.cell? ⟨w.heap.size, 0, none⟩ = some (.int .i64 a) ∧ V.cell? ⟨w.heap.size, 1, none⟩ = some (.int .i64 b) ∧ V.cell? ⟨w.heap.size + 1, 0, none⟩ = some (.int .i64 0) ∧ V.frozen? ⟨w.heap.size + 1, 0, none⟩ = false ∧ V.cell? ⟨w.heap.size + 1, 1, none⟩ = some (.int .i64 0) ∧ V.frozen? ⟨w.heap.size + 1, 1, none⟩ = false ∧ Below w.heap.size w V) ⟨by first | with_reducible assumption | (simp [go_sem]; done), by first | with_reducible assumption | (simp [go_sem]; done), by first | with_reducible assumption | (simp [go_sem]; done), by first | with_reducible assumption | (simp [go_sem]; done), by first | with_reducible assumption | (simp [go_sem]; done), by first | with_reducible assumption | (simp [go_sem]; done), by repeat (first | with_reducible exact Below.refl _ _ | with_reducible refine bl_alloc ?_ _ | with_reducible refine bl_drewN ?_ _ | with_reducible refine bl_drew ?_ | (with_reducible refine bl_set ?_ ?_ _; rotate_left; focus (first | (simp; done) | (simp; omega) | omega)) | with_reducible refine below_step ?_ (Bw.below _) | with_reducible refine below_step ?_ (by assumption))⟩ ?_
      rintro V ⟨hc1, hc2, hc3, fc3, hc4, fc4, hWc⟩ gc
      have c1 := Bw.hold hc1
      have c2 := Bw.hold hc2
      have c3 := Bw.hold hc3
      have cf3 := Bw.free hc3 fc3
      have c4 := Bw.hold hc4
      have cf4 := Bw.free hc4 fc4
      have cz1 := fun g : Bw V => cell_lt (c1 g)
      have cy1 := fun g : Bw V => Nat.le_of_lt (cz1 g)
      have cz3 := fun g : Bw V => cell_lt (c3 g)
      have cy3 := fun g : Bw V => Nat.le_of_lt (cz3 g)
      clear hc1 hc2 hc3 fc3 hc4 fc4
      refine (HI.out _).mono ?_
      rintro e w1 ⟨rfl, rfl⟩
      go_wp2_with fail
      refine (H1.out _).mono ?_
      rintro e w1 ⟨rfl, rfl⟩
      go_wp2_with fail
      refine bodyPost_ret (v := .tuple #[.agg #[.int .i64 0, .int .i64 0], .bool false]) (by simp [results, Try.results42, go_sem, c1, c2, c3, c4, cz1, cz3]) rfl ⟨rfl, by repeat (first | with_reducible exact Below.refl _ _ | with_reducible refine bl_alloc ?_ _ | with_reducible refine bl_drewN ?_ _ | with_reducible refine bl_drew ?_ | (with_reducible refine bl_set ?_ ?_ _; rotate_left; focus (first | (simp; done) | (simp; omega) | omega)) | with_reducible refine below_step ?_ (Bw.below _) | with_reducible refine below_step ?_ (by assumption))⟩
    · have hbb : withinB b 1073741824 = false := by
        rcases h with h | h
        · rw [hr] at h; cases h
        · have h1 := of_decide_eq_true ha
          have h2 := of_decide_eq_false h
          exact decide_eq_false (by omega)
      rw [ha] at W1
      rw [hbb] at W2
      have H1 := Lib.hid W1
      have H2 := Lib.hid W2
      clear IR h hr W1 W2 ha hbb
      go_enter Try.func42, Try.ntmps42
      go_wp2_with fail
      refine calls_start (fun V => V.cell? ⟨w.heap.size, 0, none⟩ = some (.int .i64 a) ∧ V.cell? ⟨w.heap.size, 1, none⟩ = some (.int .i64 b) ∧ V.cell? ⟨w.heap.size + 1, 0, none⟩ = some (.int .i64 0) ∧ V.frozen? ⟨w.heap.size + 1, 0, none⟩ = false ∧ V.cell? ⟨w.heap.size + 1, 1, none⟩ = some (.int .i64 0) ∧ V.frozen? ⟨w.heap.size + 1, 1, none⟩ = false ∧ Below w.heap.size w V) ⟨by first | with_reducible assumption | (simp [go_sem]; done), by first | with_reducible assumption | (simp [go_sem]; done), by first | with_reducible assumption | (simp [go_sem]; done), by first | with_reducible assumption | (simp [go_sem]; done), by first | with_reducible assumption | (simp [go_sem]; done), by first | with_reducible assumption | (simp [go_sem]; done), by repeat (first | with_reducible exact Below.refl _ _ | with_reducible refine bl_alloc ?_ _ | with_reducible refine bl_drewN ?_ _ | with_reducible refine bl_drew ?_ | (with_reducible refine bl_set ?_ ?_ _; rotate_left; focus (first | (simp; done) | (simp; omega) | omega)) | with_reducible refine below_step ?_ (Bw.below _) | with_reducible refine below_step ?_ (by assumption))⟩ ?_
      rintro V ⟨hc1, hc2, hc3, fc3, hc4, fc4, hWc⟩ gc
      have c1 := Bw.hold hc1
      have c2 := Bw.hold hc2
      have c3 := Bw.hold hc3
      have cf3 := Bw.free hc3 fc3
      have c4 := Bw.hold hc4
      have cf4 := Bw.free hc4 fc4
      have cz1 := fun g : Bw V => cell_lt (c1 g)
      have cy1 := fun g : Bw V => Nat.le_of_lt (cz1 g)
      have cz3 := fun g : Bw V => cell_lt (c3 g)
      have cy3 := fun g : Bw V => Nat.le_of_lt (cz3 g)
      clear hc1 hc2 hc3 fc3 hc4 fc4
      refine (HI.out _).mono ?_
      rintro e w1 ⟨rfl, rfl⟩
      go_wp2_with fail
      refine (H1.out _).mono ?_
      rintro e w1 ⟨rfl, rfl⟩
      go_wp2_with fail
      refine (H2.out _).mono ?_
      rintro e w1 ⟨rfl, rfl⟩
      go_wp2_with fail
      refine bodyPost_ret (v := .tuple #[.agg #[.int .i64 0, .int .i64 0], .bool false]) (by simp [results, Try.results42, go_sem, c1, c2, c3, c4, cz1, cz3]) rfl ⟨rfl, by repeat (first | with_reducible exact Below.refl _ _ | with_reducible refine bl_alloc ?_ _ | with_reducible refine bl_drewN ?_ _ | with_reducible refine bl_drew ?_ | (with_reducible refine bl_set ?_ ?_ _; rotate_left; focus (first | (simp; done) | (simp; omega) | omega)) | with_reducible refine below_step ?_ (Bw.below _) | with_reducible refine below_step ?_ (by assumption))⟩
/-- Where a centre lies. -/
def ceX (a b : Int) (k : Nat) : Int := 52 * plA a b k + 26 * plB a b k
def ceY (a b : Int) (k : Nat) : Int := 45 * plB a b k
set_option maxHeartbeats 1000000 in
theorem plane_centre (a b r : Int) (K : Nat) (hK : K < 13) (hk : 12 - r = (K : Int)) (hz : zOk a b = true) (w : World) :
    Calls Try.prog 27 #[.agg #[.int .i64 a, .int .i64 b], .int .i64 r] w fun e w' => e = .returned (.tuple #[.int .i64 (ceX a b K), .int .i64 (ceY a b K), .bool true]) ∧ Below w.heap.size w w' := by
  obtain ⟨z1, z2, z3, z4⟩ := zOk_true hz
  obtain ⟨l1, l2, l3, l4⟩ := pl_bd a b K hK 1073741824 (by omega) (by omega) (by omega) (by omega) (by omega)
  have PQ := plane_place a b r 1 K hK hk (by omega) (by omega) hz
  rw [Int.one_mul, Int.one_mul] at PQ
  have PL := Lib.hid PQ
  have SP := Lib.hid (plane_spot (plA a b K) (plB a b K) (by omega) (by omega) (by omega) (by omega))
  have E1 : Hid (52 * plA a b K + 26 * plB a b K = ceX a b K) := Lib.hid rfl
  have E2 : Hid (45 * plB a b K = ceY a b K) := Lib.hid rfl
  generalize ceX a b K = X at *
  generalize ceY a b K = Y at *
  generalize plA a b K = pa at *
  generalize plB a b K = pb at *
  rw [E1.out, E2.out] at SP
  clear PQ hz
  go_enter Try.func27, Try.ntmps27
  go_wp2_with fail
  refine calls_start (fun V => Below w.heap.size w V) (by repeat (first | with_reducible exact Below.refl _ _ | with_reducible refine bl_alloc ?_ _ | with_reducible refine bl_drewN ?_ _ | with_reducible refine bl_drew ?_ | (with_reducible refine bl_set ?_ ?_ _; rotate_left; focus (first | (simp; done) | (simp; omega) | omega)) | with_reducible refine below_step ?_ (Bw.below _) | with_reducible refine below_step ?_ (by assumption))) ?_
  rintro V hWc gc
  refine (PL.out _).mono ?_
  rintro e_g2 w_g2 ⟨rfl, hb_g2⟩
  obtain ⟨g2, rfl⟩ := gc.next hb_g2
  clear hb_g2
  go_wp2_with fail
  refine calls_start (fun V2 => V2.cell? ⟨g2.out.heap.size, 0, none⟩ = some (.int .i64 pa) ∧ V2.cell? ⟨g2.out.heap.size, 1, none⟩ = some (.int .i64 pb) ∧ Below w.heap.size w V2) ⟨by first | with_reducible assumption | (simp [go_sem]; done), by first | with_reducible assumption | (simp [go_sem]; done), by repeat (first | with_reducible exact Below.refl _ _ | with_reducible refine bl_alloc ?_ _ | with_reducible refine bl_drewN ?_ _ | with_reducible refine bl_drew ?_ | (with_reducible refine bl_set ?_ ?_ _; rotate_left; focus (first | (simp; done) | (simp; omega) | omega)) | with_reducible refine below_step ?_ (Bw.below _) | with_reducible refine below_step ?_ (by assumption))⟩ ?_
  rintro V2 ⟨hd1, hd2, hWd⟩ gd
  have d1 := Bw.hold hd1
  have d2 := Bw.hold hd2
  have dz1 := fun g : Bw V2 => cell_lt (d1 g)
  have dy1 := fun g : Bw V2 => Nat.le_of_lt (dz1 g)
  clear hd1 hd2
  refine (SP.out _).mono ?_
  rintro e_g3 w_g3 ⟨rfl, hb_g3⟩
  obtain ⟨g3, rfl⟩ := gd.next hb_g3
  clear hb_g3
  go_wp2_with fail
  refine wp_start (fun w0 => w0.cell? ⟨g3.out.heap.size, 0, none⟩ = some (.int .i64 X) ∧ w0.cell? ⟨g3.out.heap.size, 1, none⟩ = some (.int .i64 Y) ∧ Below w.heap.size w w0) ⟨by first | with_reducible assumption | (simp [go_sem]; done) | with_reducible exact hold_al d1 _ _ | with_reducible exact hold_al d2 _ _ | (simp [go_sem, d1, d2, dz1, dy1]; done), by first | with_reducible assumption | (simp [go_sem]; done) | with_reducible exact hold_al d1 _ _ | with_reducible exact hold_al d2 _ _ | (simp [go_sem, d1, d2, dz1, dy1]; done), by repeat (first | with_reducible exact Below.refl _ _ | with_reducible refine bl_alloc ?_ _ | with_reducible refine bl_drewN ?_ _ | with_reducible refine bl_drew ?_ | (with_reducible refine bl_set ?_ ?_ _; rotate_left; focus (first | (simp; done) | (simp; omega) | omega)) | with_reducible refine below_step ?_ (Bw.below _) | with_reducible refine below_step ?_ (by assumption))⟩ ?_
  rintro w0 ⟨hq1, hq2, hWq⟩ gq
  have q1 := Bw.hold hq1
  have q2 := Bw.hold hq2
  have qz1 := fun g : Bw w0 => cell_lt (q1 g)
  have qy1 := fun g : Bw w0 => Nat.le_of_lt (qz1 g)
  clear hq1 hq2
  have i1 := q1 gq
  have i2 := q2 gq
  have hWi := below_step hWq (Bw.below gq)
  clear q1 q2 qz1 qy1
  generalize Bw.out gq = w1 at *
  go_quiet (fail)
  go_wp2_with fail
  go_ret3
  exact ⟨rfl, by repeat (first | with_reducible exact Below.refl _ _ | with_reducible refine bl_alloc ?_ _ | with_reducible refine bl_drewN ?_ _ | with_reducible refine bl_drew ?_ | (with_reducible refine bl_set ?_ ?_ _; rotate_left; focus (first | (simp; done) | (simp; omega) | omega)) | with_reducible refine below_step ?_ (Bw.below _) | with_reducible refine below_step ?_ (by assumption))⟩
set_option maxHeartbeats 1000000 in
theorem plane_centre_no (a b r : Int) (h : rsB r = false ∨ zOk a b = false) (w : World) :
    Calls Try.prog 27 #[.agg #[.int .i64 a, .int .i64 b], .int .i64 r] w fun e w' => e = .returned (.tuple #[.int .i64 0, .int .i64 0, .bool false]) ∧ Below w.heap.size w w' := by
  have PL := Lib.hid (plane_place_no a b r 1 h)
  clear h
  go_enter Try.func27, Try.ntmps27
  go_wp2_with fail
  refine calls_start (fun V => Below w.heap.size w V) (by repeat (first | with_reducible exact Below.refl _ _ | with_reducible refine bl_alloc ?_ _ | with_reducible refine bl_drewN ?_ _ | with_reducible refine bl_drew ?_ | (with_reducible refine bl_set ?_ ?_ _; rotate_left; focus (first | (simp; done) | (simp; omega) | omega)) | with_reducible refine below_step ?_ (Bw.below _) | with_reducible refine below_step ?_ (by assumption))) ?_
  rintro V hWc gc
  refine (PL.out _).mono ?_
  rintro e_g2 w_g2 ⟨rfl, hb_g2⟩
  obtain ⟨g2, rfl⟩ := gc.next hb_g2
  clear hb_g2
  go_wp2_with fail
  go_ret3
  exact ⟨rfl, by repeat (first | with_reducible exact Below.refl _ _ | with_reducible refine bl_alloc ?_ _ | with_reducible refine bl_drewN ?_ _ | with_reducible refine bl_drew ?_ | (with_reducible refine bl_set ?_ ?_ _; rotate_left; focus (first | (simp; done) | (simp; omega) | omega)) | with_reducible refine below_step ?_ (Bw.below _) | with_reducible refine below_step ?_ (by assumption))⟩
end Go.Proofs.Ytajojnbpmbkghaa


/- The lattice's way up and down, in plain numbers; the walks of cell's split, shape, step, climb, digit. -/
import Derived.Test.YtmipkloleklnkaaBack
import Derived.Test.YtmipkloleklnkaaRow
import Derived.Deep.RegionHeld3
import Derived.Deep.CutRange
import Derived.Deep.LoopGhost
import Derived.BigRegion
namespace Go.Proofs.Ytmipkloleklnkaa
open Go.RowKit
set_option linter.unusedSimpArgs false
set_option linter.unusedVariables false
theorem bw_of {V W : World} (h : Below V.heap.size V W) : ∃ g : Bw V, g.out = W := ⟨⟨W, h⟩, rfl⟩
/-- The number that one is Beta times of, and what is left. -/
def upA (a b : Int) : Int := rdA (3 * a + b) (2 * b - a) 7
def upB (a b : Int) : Int := rdB (3 * a + b) (2 * b - a) 7
def lfA (a b : Int) : Int := a - (2 * upA a b - upB a b)
def lfB (a b : Int) : Int := b - (upA a b + 3 * upB a b)
theorem up_hexa (a b : Int) : Hexa (3 * a + b - 7 * upA a b) (2 * b - a - 7 * upB a b) 7 := rd_hexa (3 * a + b) (2 * b - a) 7 (by omega)
theorem up_bd (a b M : Int) (hM : 3 ≤ M) (h1 : -M ≤ a) (h2 : a ≤ M) (h3 : -M ≤ b) (h4 : b ≤ M) : -M ≤ upA a b ∧ upA a b ≤ M ∧ -M ≤ upB a b ∧ upB a b ≤ M := by
  obtain ⟨a1, a2, b1, b2, c1, c2⟩ := up_hexa a b
  omega
theorem lf_cases (a b : Int) : (lfA a b = 0 ∧ lfB a b = 0) ∨ (lfA a b = 1 ∧ lfB a b = 0) ∨ (lfA a b = 0 ∧ lfB a b = 1) ∨ (lfA a b = -1 ∧ lfB a b = 1) ∨ (lfA a b = -1 ∧ lfB a b = 0) ∨ (lfA a b = 0 ∧ lfB a b = -1) ∨ (lfA a b = 1 ∧ lfB a b = -1) := by
  obtain ⟨a1, a2, b1, b2, c1, c2⟩ := up_hexa a b
  unfold lfA lfB
  omega
/-- So many steps up. -/
def zz (a b : Int) : Nat → Int × Int
  | 0 => (a, b)
  | n + 1 => (upA (zz a b n).1 (zz a b n).2, upB (zz a b n).1 (zz a b n).2)
theorem zz_bd (a b M : Int) (hM : 3 ≤ M) (h1 : -M ≤ a) (h2 : a ≤ M) (h3 : -M ≤ b) (h4 : b ≤ M) (n : Nat) : -M ≤ (zz a b n).1 ∧ (zz a b n).1 ≤ M ∧ -M ≤ (zz a b n).2 ∧ (zz a b n).2 ≤ M := by
  induction n with
  | zero => exact ⟨h1, h2, h3, h4⟩
  | succ n ih => exact up_bd _ _ M hM ih.1 ih.2.1 ih.2.2.1 ih.2.2.2
theorem zz_add (a b : Int) (m n : Nat) : zz (zz a b m).1 (zz a b m).2 n = zz a b (m + n) := by
  induction n with
  | zero => rfl
  | succ n ih => show (upA _ _, upB _ _) = (upA _ _, upB _ _); rw [ih]; rfl
/-- Which of its parent's a cell is. -/
def dgF (p q : Int) : Nat → Nat → Int
  | 0, _ => 0
  | f + 1, k => if uA k = p ∧ uB k = q then (k : Int) + 1 else dgF p q f (k + 1)
def dgt (p q : Int) : Int := dgF p q 6 0
def dgz (a b : Int) : Int := dgt (lfA a b) (lfB a b)
set_option maxRecDepth 100000 in
set_option maxHeartbeats 1000000 in
theorem cell_split (a b : Int) (h1 : -1073741824 ≤ a) (h2 : a ≤ 1073741824) (h3 : -1073741824 ≤ b) (h4 : b ≤ 1073741824) (w : World) :
    Calls Try.prog 65 #[.agg #[.int .i64 a, .int .i64 b]] w fun e w' => e = .returned (.tuple #[.agg #[.int .i64 (upA a b), .int .i64 (upB a b)], .agg #[.int .i64 (lfA a b), .int .i64 (lfB a b)]]) ∧ Below w.heap.size w w' := by
  obtain ⟨u1, u2, u3, u4⟩ := up_bd a b 1073741824 (by omega) h1 h2 h3 h4
  have CJ := Lib.hid (eis_conj_fit 2 1 3 (-1) (by decide) (by decide) (by decide) (by decide) (by decide) (by decide) (by decide) (by decide) (by decide) (by decide))
  have M1 := Lib.hid (eis_mul_fit a b 3 (-1) (3 * a + b) (2 * b - a) (by omega) (by omega) (by omega) (by omega) (by decide) (by decide) (by decide) (by decide) (by omega) (by omega) (by omega) (by omega) (by omega) (by omega))
  have RD := eis_round (3 * a + b) (2 * b - a) 7 (by omega) (by omega) (by omega) (by omega) (by decide) (by decide)
  rw [show rdA (3 * a + b) (2 * b - a) 7 = upA a b from rfl, show rdB (3 * a + b) (2 * b - a) 7 = upB a b from rfl] at RD
  have RD := Lib.hid RD
  have M2 := Lib.hid (eis_mul_fit (upA a b) (upB a b) 2 1 (2 * upA a b - upB a b) (upA a b + 3 * upB a b) (by omega) (by omega) (by omega) (by omega) (by decide) (by decide) (by decide) (by decide) (by omega) (by omega) (by omega) (by omega) (by omega) (by omega))
  have SB := eis_sub_fit a b (2 * upA a b - upB a b) (upA a b + 3 * upB a b) (lfA a b) (lfB a b) (by omega) (by omega) (by omega) (by omega) (by omega) (by omega) (by omega) (by omega) (by unfold lfA; omega) (by unfold lfA; omega) (by unfold lfB; omega) (by unfold lfB; omega) rfl rfl
  have SB := Lib.hid SB
  generalize lfA a b = la at *
  generalize lfB a b = lb at *
  generalize 3 * a + b = p at *
  generalize 2 * b - a = s at *
  generalize upA a b = ua at *
  generalize upB a b = ub at *
  generalize 2 * ua - ub = da at *
  generalize ua + 3 * ub = db at *
  go_enter Try.func65, Try.ntmps65
  go_wp2_with fail
  refine calls_start (fun V => V.cell? ⟨w.heap.size, 0, none⟩ = some (.int .i64 a) ∧ V.cell? ⟨w.heap.size, 1, none⟩ = some (.int .i64 b) ∧ V.cell? ⟨w.heap.size + 1, 0, none⟩ = some (.int .i64 0) ∧ V.frozen? ⟨w.heap.size + 1, 0, none⟩ = false ∧ V.cell? ⟨w.heap.size + 1, 1, none⟩ = some (.int .i64 0) ∧ V.frozen? ⟨w.heap.size + 1, 1, none⟩ = false ∧ V.cell? ⟨w.heap.size + 1 + 1, 0, none⟩ = some (.int .i64 0) ∧ V.frozen? ⟨w.heap.size + 1 + 1, 0, none⟩ = false ∧ V.cell? ⟨w.heap.size + 1 + 1, 1, none⟩ = some (.int .i64 0) ∧ V.frozen? ⟨w.heap.size + 1 + 1, 1, none⟩ = false ∧ Below w.heap.size w V) ⟨by first | with_reducible assumption | (simp [go_sem]; done), by first | with_reducible assumption | (simp [go_sem]; done), by first | with_reducible assumption | (simp [go_sem]; done), by first | with_reducible assumption | (simp [go_sem]; done), by first | with_reducible assumption | (simp [go_sem]; done), by first | with_reducible assumption | (simp [go_sem]; done), by first | with_reducible assumption | (simp [go_sem]; done), by first | with_reducible assumption | (simp [go_sem]; done), by first | with_reducible assumption | (simp [go_sem]; done), by first | with_reducible assumption | (simp [go_sem]; done), by repeat (first | with_reducible exact Below.refl _ _ | with_reducible refine bl_alloc ?_ _ | with_reducible refine bl_drewN ?_ _ | with_reducible refine bl_drew ?_ | (with_reducible refine bl_set ?_ ?_ _; rotate_left; focus (first | (simp; done) | (simp; omega) | omega)) | with_reducible refine below_step ?_ (Bw.below _) | with_reducible refine below_step ?_ (by assumption))⟩ ?_
  rintro V ⟨hc1, hc2, hc3, fc3, hc4, fc4, hc5, fc5, hc6, fc6, hWc⟩ gc
  have c1 := Bw.hold hc1
  have c2 := Bw.hold hc2
  have c3 := Bw.hold hc3
  have cf3 := Bw.free hc3 fc3
  have c4 := Bw.hold hc4
  have cf4 := Bw.free hc4 fc4
  have c5 := Bw.hold hc5
  have cf5 := Bw.free hc5 fc5
  have c6 := Bw.hold hc6
  have cf6 := Bw.free hc6 fc6
  have cz1 := fun g : Bw V => cell_lt (c1 g)
  have cy1 := fun g : Bw V => Nat.le_of_lt (cz1 g)
  have cz3 := fun g : Bw V => cell_lt (c3 g)
  have cy3 := fun g : Bw V => Nat.le_of_lt (cz3 g)
  have cz5 := fun g : Bw V => cell_lt (c5 g)
  have cy5 := fun g : Bw V => Nat.le_of_lt (cz5 g)
  clear hc1 hc2 hc3 fc3 hc4 fc4 hc5 fc5 hc6 fc6
  refine (CJ.out _).mono ?_
  rintro e_g2 w_g2 ⟨rfl, hb_g2⟩
  obtain ⟨g2, rfl⟩ := gc.next hb_g2
  clear hb_g2
  go_wp2_with fail
  refine calls_start (fun V2 => V2.cell? ⟨w.heap.size, 0, none⟩ = some (.int .i64 a) ∧ V2.cell? ⟨w.heap.size, 1, none⟩ = some (.int .i64 b) ∧ V2.cell? ⟨w.heap.size + 1, 0, none⟩ = some (.int .i64 0) ∧ V2.frozen? ⟨w.heap.size + 1, 0, none⟩ = false ∧ V2.cell? ⟨w.heap.size + 1, 1, none⟩ = some (.int .i64 0) ∧ V2.frozen? ⟨w.heap.size + 1, 1, none⟩ = false ∧ V2.cell? ⟨w.heap.size + 1 + 1, 0, none⟩ = some (.int .i64 0) ∧ V2.frozen? ⟨w.heap.size + 1 + 1, 0, none⟩ = false ∧ V2.cell? ⟨w.heap.size + 1 + 1, 1, none⟩ = some (.int .i64 0) ∧ V2.frozen? ⟨w.heap.size + 1 + 1, 1, none⟩ = false ∧ V2.cell? ⟨g2.out.heap.size, 0, none⟩ = some (.int .i64 3) ∧ V2.cell? ⟨g2.out.heap.size, 1, none⟩ = some (.int .i64 (-1)) ∧ Below w.heap.size w V2) ⟨by first | with_reducible assumption | (simp [go_sem]; done) | with_reducible exact hold_al c1 _ _ | with_reducible exact hold_al c2 _ _ | with_reducible exact hold_al c3 _ _ | with_reducible exact hold_al c4 _ _ | with_reducible exact hold_al c5 _ _ | with_reducible exact hold_al c6 _ _ | (simp [go_sem, c1, c2, c3, cf3, c4, cf4, c5, cf5, c6, cf6, cz1, cy1, cz3, cy3, cz5, cy5]; done), by first | with_reducible assumption | (simp [go_sem]; done) | with_reducible exact hold_al c1 _ _ | with_reducible exact hold_al c2 _ _ | with_reducible exact hold_al c3 _ _ | with_reducible exact hold_al c4 _ _ | with_reducible exact hold_al c5 _ _ | with_reducible exact hold_al c6 _ _ | (simp [go_sem, c1, c2, c3, cf3, c4, cf4, c5, cf5, c6, cf6, cz1, cy1, cz3, cy3, cz5, cy5]; done), by first | with_reducible assumption | (simp [go_sem]; done) | with_reducible exact hold_al c1 _ _ | with_reducible exact hold_al c2 _ _ | with_reducible exact hold_al c3 _ _ | with_reducible exact hold_al c4 _ _ | with_reducible exact hold_al c5 _ _ | with_reducible exact hold_al c6 _ _ | (simp [go_sem, c1, c2, c3, cf3, c4, cf4, c5, cf5, c6, cf6, cz1, cy1, cz3, cy3, cz5, cy5]; done), by first | with_reducible assumption | (simp [go_sem]; done) | with_reducible exact hold_alF c3 cf3 _ _ | with_reducible exact hold_alF c4 cf4 _ _ | with_reducible exact hold_alF c5 cf5 _ _ | with_reducible exact hold_alF c6 cf6 _ _ | (simp [go_sem, c1, c2, c3, cf3, c4, cf4, c5, cf5, c6, cf6, cz1, cy1, cz3, cy3, cz5, cy5]; done), by first | with_reducible assumption | (simp [go_sem]; done) | with_reducible exact hold_al c1 _ _ | with_reducible exact hold_al c2 _ _ | with_reducible exact hold_al c3 _ _ | with_reducible exact hold_al c4 _ _ | with_reducible exact hold_al c5 _ _ | with_reducible exact hold_al c6 _ _ | (simp [go_sem, c1, c2, c3, cf3, c4, cf4, c5, cf5, c6, cf6, cz1, cy1, cz3, cy3, cz5, cy5]; done), by first | with_reducible assumption | (simp [go_sem]; done) | with_reducible exact hold_alF c3 cf3 _ _ | with_reducible exact hold_alF c4 cf4 _ _ | with_reducible exact hold_alF c5 cf5 _ _ | with_reducible exact hold_alF c6 cf6 _ _ | (simp [go_sem, c1, c2, c3, cf3, c4, cf4, c5, cf5, c6, cf6, cz1, cy1, cz3, cy3, cz5, cy5]; done), by first | with_reducible assumption | (simp [go_sem]; done) | with_reducible exact hold_al c1 _ _ | with_reducible exact hold_al c2 _ _ | with_reducible exact hold_al c3 _ _ | with_reducible exact hold_al c4 _ _ | with_reducible exact hold_al c5 _ _ | with_reducible exact hold_al c6 _ _ | (simp [go_sem, c1, c2, c3, cf3, c4, cf4, c5, cf5, c6, cf6, cz1, cy1, cz3, cy3, cz5, cy5]; done), by first | with_reducible assumption | (simp [go_sem]; done) | with_reducible exact hold_alF c3 cf3 _ _ | with_reducible exact hold_alF c4 cf4 _ _ | with_reducible exact hold_alF c5 cf5 _ _ | with_reducible exact hold_alF c6 cf6 _ _ | (simp [go_sem, c1, c2, c3, cf3, c4, cf4, c5, cf5, c6, cf6, cz1, cy1, cz3, cy3, cz5, cy5]; done), by first | with_reducible assumption | (simp [go_sem]; done) | with_reducible exact hold_al c1 _ _ | with_reducible exact hold_al c2 _ _ | with_reducible exact hold_al c3 _ _ | with_reducible exact hold_al c4 _ _ | with_reducible exact hold_al c5 _ _ | with_reducible exact hold_al c6 _ _ | (simp [go_sem, c1, c2, c3, cf3, c4, cf4, c5, cf5, c6, cf6, cz1, cy1, cz3, cy3, cz5, cy5]; done), by first | with_reducible assumption | (simp [go_sem]; done) | with_reducible exact hold_alF c3 cf3 _ _ | with_reducible exact hold_alF c4 cf4 _ _ | with_reducible exact hold_alF c5 cf5 _ _ | with_reducible exact hold_alF c6 cf6 _ _ | (simp [go_sem, c1, c2, c3, cf3, c4, cf4, c5, cf5, c6, cf6, cz1, cy1, cz3, cy3, cz5, cy5]; done), by first | with_reducible assumption | (simp [go_sem]; done) | with_reducible exact hold_al c1 _ _ | with_reducible exact hold_al c2 _ _ | with_reducible exact hold_al c3 _ _ | with_reducible exact hold_al c4 _ _ | with_reducible exact hold_al c5 _ _ | with_reducible exact hold_al c6 _ _ | (simp [go_sem, c1, c2, c3, cf3, c4, cf4, c5, cf5, c6, cf6, cz1, cy1, cz3, cy3, cz5, cy5]; done), by first | with_reducible assumption | (simp [go_sem]; done) | with_reducible exact hold_al c1 _ _ | with_reducible exact hold_al c2 _ _ | with_reducible exact hold_al c3 _ _ | with_reducible exact hold_al c4 _ _ | with_reducible exact hold_al c5 _ _ | with_reducible exact hold_al c6 _ _ | (simp [go_sem, c1, c2, c3, cf3, c4, cf4, c5, cf5, c6, cf6, cz1, cy1, cz3, cy3, cz5, cy5]; done), by repeat (first | with_reducible exact Below.refl _ _ | with_reducible refine bl_alloc ?_ _ | with_reducible refine bl_drewN ?_ _ | with_reducible refine bl_drew ?_ | (with_reducible refine bl_set ?_ ?_ _; rotate_left; focus (first | (simp; done) | (simp; omega) | omega)) | with_reducible refine below_step ?_ (Bw.below _) | with_reducible refine below_step ?_ (by assumption))⟩ ?_
  rintro V2 ⟨hd1, hd2, hd3, fd3, hd4, fd4, hd5, fd5, hd6, fd6, hd7, hd8, hWd⟩ gd
  have d1 := Bw.hold hd1
  have d2 := Bw.hold hd2
  have d3 := Bw.hold hd3
  have df3 := Bw.free hd3 fd3
  have d4 := Bw.hold hd4
  have df4 := Bw.free hd4 fd4
  have d5 := Bw.hold hd5
  have df5 := Bw.free hd5 fd5
  have d6 := Bw.hold hd6
  have df6 := Bw.free hd6 fd6
  have d7 := Bw.hold hd7
  have d8 := Bw.hold hd8
  have dz1 := fun g : Bw V2 => cell_lt (d1 g)
  have dy1 := fun g : Bw V2 => Nat.le_of_lt (dz1 g)
  have dz3 := fun g : Bw V2 => cell_lt (d3 g)
  have dy3 := fun g : Bw V2 => Nat.le_of_lt (dz3 g)
  have dz5 := fun g : Bw V2 => cell_lt (d5 g)
  have dy5 := fun g : Bw V2 => Nat.le_of_lt (dz5 g)
  have dz7 := fun g : Bw V2 => cell_lt (d7 g)
  have dy7 := fun g : Bw V2 => Nat.le_of_lt (dz7 g)
  clear hd1 hd2 hd3 fd3 hd4 fd4 hd5 fd5 hd6 fd6 hd7 hd8
  clear c1 c2 c3 cf3 c4 cf4 c5 cf5 c6 cf6 cz1 cy1 cz3 cy3 cz5 cy5
  refine (M1.out _).mono ?_
  rintro e_g3 w_g3 ⟨rfl, hb_g3⟩
  obtain ⟨g3, rfl⟩ := gd.next hb_g3
  clear hb_g3
  go_wp2_with fail
  refine calls_start (fun V3 => V3.cell? ⟨w.heap.size, 0, none⟩ = some (.int .i64 a) ∧ V3.cell? ⟨w.heap.size, 1, none⟩ = some (.int .i64 b) ∧ V3.cell? ⟨w.heap.size + 1, 0, none⟩ = some (.int .i64 0) ∧ V3.frozen? ⟨w.heap.size + 1, 0, none⟩ = false ∧ V3.cell? ⟨w.heap.size + 1, 1, none⟩ = some (.int .i64 0) ∧ V3.frozen? ⟨w.heap.size + 1, 1, none⟩ = false ∧ V3.cell? ⟨w.heap.size + 1 + 1, 0, none⟩ = some (.int .i64 0) ∧ V3.frozen? ⟨w.heap.size + 1 + 1, 0, none⟩ = false ∧ V3.cell? ⟨w.heap.size + 1 + 1, 1, none⟩ = some (.int .i64 0) ∧ V3.frozen? ⟨w.heap.size + 1 + 1, 1, none⟩ = false ∧ V3.cell? ⟨g2.out.heap.size, 0, none⟩ = some (.int .i64 3) ∧ V3.cell? ⟨g2.out.heap.size, 1, none⟩ = some (.int .i64 (-1)) ∧ V3.cell? ⟨g3.out.heap.size, 0, none⟩ = some (.int .i64 p) ∧ V3.cell? ⟨g3.out.heap.size, 1, none⟩ = some (.int .i64 s) ∧ Below w.heap.size w V3) ⟨by first | with_reducible assumption | (simp [go_sem]; done) | with_reducible exact hold_al d1 _ _ | with_reducible exact hold_al d2 _ _ | with_reducible exact hold_al d3 _ _ | with_reducible exact hold_al d4 _ _ | with_reducible exact hold_al d5 _ _ | with_reducible exact hold_al d6 _ _ | with_reducible exact hold_al d7 _ _ | with_reducible exact hold_al d8 _ _ | (simp [go_sem, d1, d2, d3, df3, d4, df4, d5, df5, d6, df6, d7, d8, dz1, dy1, dz3, dy3, dz5, dy5, dz7, dy7]; done), by first | with_reducible assumption | (simp [go_sem]; done) | with_reducible exact hold_al d1 _ _ | with_reducible exact hold_al d2 _ _ | with_reducible exact hold_al d3 _ _ | with_reducible exact hold_al d4 _ _ | with_reducible exact hold_al d5 _ _ | with_reducible exact hold_al d6 _ _ | with_reducible exact hold_al d7 _ _ | with_reducible exact hold_al d8 _ _ | (simp [go_sem, d1, d2, d3, df3, d4, df4, d5, df5, d6, df6, d7, d8, dz1, dy1, dz3, dy3, dz5, dy5, dz7, dy7]; done), by first | with_reducible assumption | (simp [go_sem]; done) | with_reducible exact hold_al d1 _ _ | with_reducible exact hold_al d2 _ _ | with_reducible exact hold_al d3 _ _ | with_reducible exact hold_al d4 _ _ | with_reducible exact hold_al d5 _ _ | with_reducible exact hold_al d6 _ _ | with_reducible exact hold_al d7 _ _ | with_reducible exact hold_al d8 _ _ | (simp [go_sem, d1, d2, d3, df3, d4, df4, d5, df5, d6, df6, d7, d8, dz1, dy1, dz3, dy3, dz5, dy5, dz7, dy7]; done), by first | with_reducible assumption | (simp [go_sem]; done) | with_reducible exact hold_alF d3 df3 _ _ | with_reducible exact hold_alF d4 df4 _ _ | with_reducible exact hold_alF d5 df5 _ _ | with_reducible exact hold_alF d6 df6 _ _ | (simp [go_sem, d1, d2, d3, df3, d4, df4, d5, df5, d6, df6, d7, d8, dz1, dy1, dz3, dy3, dz5, dy5, dz7, dy7]; done), by first | with_reducible assumption | (simp [go_sem]; done) | with_reducible exact hold_al d1 _ _ | with_reducible exact hold_al d2 _ _ | with_reducible exact hold_al d3 _ _ | with_reducible exact hold_al d4 _ _ | with_reducible exact hold_al d5 _ _ | with_reducible exact hold_al d6 _ _ | with_reducible exact hold_al d7 _ _ | with_reducible exact hold_al d8 _ _ | (simp [go_sem, d1, d2, d3, df3, d4, df4, d5, df5, d6, df6, d7, d8, dz1, dy1, dz3, dy3, dz5, dy5, dz7, dy7]; done), by first | with_reducible assumption | (simp [go_sem]; done) | with_reducible exact hold_alF d3 df3 _ _ | with_reducible exact hold_alF d4 df4 _ _ | with_reducible exact hold_alF d5 df5 _ _ | with_reducible exact hold_alF d6 df6 _ _ | (simp [go_sem, d1, d2, d3, df3, d4, df4, d5, df5, d6, df6, d7, d8, dz1, dy1, dz3, dy3, dz5, dy5, dz7, dy7]; done), by first | with_reducible assumption | (simp [go_sem]; done) | with_reducible exact hold_al d1 _ _ | with_reducible exact hold_al d2 _ _ | with_reducible exact hold_al d3 _ _ | with_reducible exact hold_al d4 _ _ | with_reducible exact hold_al d5 _ _ | with_reducible exact hold_al d6 _ _ | with_reducible exact hold_al d7 _ _ | with_reducible exact hold_al d8 _ _ | (simp [go_sem, d1, d2, d3, df3, d4, df4, d5, df5, d6, df6, d7, d8, dz1, dy1, dz3, dy3, dz5, dy5, dz7, dy7]; done), by first | with_reducible assumption | (simp [go_sem]; done) | with_reducible exact hold_alF d3 df3 _ _ | with_reducible exact hold_alF d4 df4 _ _ | with_reducible exact hold_alF d5 df5 _ _ | with_reducible exact hold_alF d6 df6 _ _ | (simp [go_sem, d1, d2, d3, df3, d4, df4, d5, df5, d6, df6, d7, d8, dz1, dy1, dz3, dy3, dz5, dy5, dz7, dy7]; done), by first | with_reducible assumption | (simp [go_sem]; done) | with_reducible exact hold_al d1 _ _ | with_reducible exact hold_al d2 _ _ | with_reducible exact hold_al d3 _ _ | with_reducible exact hold_al d4 _ _ | with_reducible exact hold_al d5 _ _ | with_reducible exact hold_al d6 _ _ | with_reducible exact hold_al d7 _ _ | with_reducible exact hold_al d8 _ _ | (simp [go_sem, d1, d2, d3, df3, d4, df4, d5, df5, d6, df6, d7, d8, dz1, dy1, dz3, dy3, dz5, dy5, dz7, dy7]; done), by first | with_reducible assumption | (simp [go_sem]; done) | with_reducible exact hold_alF d3 df3 _ _ | with_reducible exact hold_alF d4 df4 _ _ | with_reducible exact hold_alF d5 df5 _ _ | with_reducible exact hold_alF d6 df6 _ _ | (simp [go_sem, d1, d2, d3, df3, d4, df4, d5, df5, d6, df6, d7, d8, dz1, dy1, dz3, dy3, dz5, dy5, dz7, dy7]; done), by first | with_reducible assumption | (simp [go_sem]; done) | with_reducible exact hold_al d1 _ _ | with_reducible exact hold_al d2 _ _ | with_reducible exact hold_al d3 _ _ | with_reducible exact hold_al d4 _ _ | with_reducible exact hold_al d5 _ _ | with_reducible exact hold_al d6 _ _ | with_reducible exact hold_al d7 _ _ | with_reducible exact hold_al d8 _ _ | (simp [go_sem, d1, d2, d3, df3, d4, df4, d5, df5, d6, df6, d7, d8, dz1, dy1, dz3, dy3, dz5, dy5, dz7, dy7]; done), by first | with_reducible assumption | (simp [go_sem]; done) | with_reducible exact hold_al d1 _ _ | with_reducible exact hold_al d2 _ _ | with_reducible exact hold_al d3 _ _ | with_reducible exact hold_al d4 _ _ | with_reducible exact hold_al d5 _ _ | with_reducible exact hold_al d6 _ _ | with_reducible exact hold_al d7 _ _ | with_reducible exact hold_al d8 _ _ | (simp [go_sem, d1, d2, d3, df3, d4, df4, d5, df5, d6, df6, d7, d8, dz1, dy1, dz3, dy3, dz5, dy5, dz7, dy7]; done), by first | with_reducible assumption | (simp [go_sem]; done) | with_reducible exact hold_al d1 _ _ | with_reducible exact hold_al d2 _ _ | with_reducible exact hold_al d3 _ _ | with_reducible exact hold_al d4 _ _ | with_reducible exact hold_al d5 _ _ | with_reducible exact hold_al d6 _ _ | with_reducible exact hold_al d7 _ _ | with_reducible exact hold_al d8 _ _ | (simp [go_sem, d1, d2, d3, df3, d4, df4, d5, df5, d6, df6, d7, d8, dz1, dy1, dz3, dy3, dz5, dy5, dz7, dy7]; done), by first | with_reducible assumption | (simp [go_sem]; done) | with_reducible exact hold_al d1 _ _ | with_reducible exact hold_al d2 _ _ | with_reducible exact hold_al d3 _ _ | with_reducible exact hold_al d4 _ _ | with_reducible exact hold_al d5 _ _ | with_reducible exact hold_al d6 _ _ | with_reducible exact hold_al d7 _ _ | with_reducible exact hold_al d8 _ _ | (simp [go_sem, d1, d2, d3, df3, d4, df4, d5, df5, d6, df6, d7, d8, dz1, dy1, dz3, dy3, dz5, dy5, dz7, dy7]; done), by repeat (first | with_reducible exact Below.refl _ _ | with_reducible refine bl_alloc ?_ _ | with_reducible refine bl_drewN ?_ _ | with_reducible refine bl_drew ?_ | (with_reducible refine bl_set ?_ ?_ _; rotate_left; focus (first | (simp; done) | (simp; omega) | omega)) | with_reducible refine below_step ?_ (Bw.below _) | with_reducible refine below_step ?_ (by assumption))⟩ ?_
  rintro V3 ⟨hq1, hq2, hq3, fq3, hq4, fq4, hq5, fq5, hq6, fq6, hq7, hq8, hq9, hq10, hWq⟩ gq
  have q1 := Bw.hold hq1
  have q2 := Bw.hold hq2
  have q3 := Bw.hold hq3
  have qf3 := Bw.free hq3 fq3
  have q4 := Bw.hold hq4
  have qf4 := Bw.free hq4 fq4
  have q5 := Bw.hold hq5
  have qf5 := Bw.free hq5 fq5
  have q6 := Bw.hold hq6
  have qf6 := Bw.free hq6 fq6
  have q7 := Bw.hold hq7
  have q8 := Bw.hold hq8
  have q9 := Bw.hold hq9
  have q10 := Bw.hold hq10
  have qz1 := fun g : Bw V3 => cell_lt (q1 g)
  have qy1 := fun g : Bw V3 => Nat.le_of_lt (qz1 g)
  have qz3 := fun g : Bw V3 => cell_lt (q3 g)
  have qy3 := fun g : Bw V3 => Nat.le_of_lt (qz3 g)
  have qz5 := fun g : Bw V3 => cell_lt (q5 g)
  have qy5 := fun g : Bw V3 => Nat.le_of_lt (qz5 g)
  have qz7 := fun g : Bw V3 => cell_lt (q7 g)
  have qy7 := fun g : Bw V3 => Nat.le_of_lt (qz7 g)
  have qz9 := fun g : Bw V3 => cell_lt (q9 g)
  have qy9 := fun g : Bw V3 => Nat.le_of_lt (qz9 g)
  clear hq1 hq2 hq3 fq3 hq4 fq4 hq5 fq5 hq6 fq6 hq7 hq8 hq9 hq10
  clear d1 d2 d3 df3 d4 df4 d5 df5 d6 df6 d7 d8 dz1 dy1 dz3 dy3 dz5 dy5 dz7 dy7
  refine (RD.out _).mono ?_
  rintro e_g4 w_g4 ⟨rfl, hb_g4⟩
  obtain ⟨g4, rfl⟩ := gq.next hb_g4
  clear hb_g4
  go_wp2_with fail
  refine calls_start (fun V4 => V4.cell? ⟨w.heap.size, 0, none⟩ = some (.int .i64 a) ∧ V4.cell? ⟨w.heap.size, 1, none⟩ = some (.int .i64 b) ∧ V4.cell? ⟨w.heap.size + 1, 0, none⟩ = some (.int .i64 ua) ∧ V4.frozen? ⟨w.heap.size + 1, 0, none⟩ = false ∧ V4.cell? ⟨w.heap.size + 1, 1, none⟩ = some (.int .i64 ub) ∧ V4.frozen? ⟨w.heap.size + 1, 1, none⟩ = false ∧ V4.cell? ⟨w.heap.size + 1 + 1, 0, none⟩ = some (.int .i64 0) ∧ V4.frozen? ⟨w.heap.size + 1 + 1, 0, none⟩ = false ∧ V4.cell? ⟨w.heap.size + 1 + 1, 1, none⟩ = some (.int .i64 0) ∧ V4.frozen? ⟨w.heap.size + 1 + 1, 1, none⟩ = false ∧ Below w.heap.size w V4) ⟨by first | with_reducible assumption | (simp [go_sem]; done) | with_reducible exact hold_al q1 _ _ | with_reducible exact hold_al q2 _ _ | with_reducible exact hold_al q3 _ _ | with_reducible exact hold_al q4 _ _ | with_reducible exact hold_al q5 _ _ | with_reducible exact hold_al q6 _ _ | with_reducible exact hold_al q7 _ _ | with_reducible exact hold_al q8 _ _ | with_reducible exact hold_al q9 _ _ | with_reducible exact hold_al q10 _ _ | (simp [go_sem, q1, q2, q3, qf3, q4, qf4, q5, qf5, q6, qf6, q7, q8, q9, q10, qz1, qy1, qz3, qy3, qz5, qy5, qz7, qy7, qz9, qy9]; done), by first | with_reducible assumption | (simp [go_sem]; done) | with_reducible exact hold_al q1 _ _ | with_reducible exact hold_al q2 _ _ | with_reducible exact hold_al q3 _ _ | with_reducible exact hold_al q4 _ _ | with_reducible exact hold_al q5 _ _ | with_reducible exact hold_al q6 _ _ | with_reducible exact hold_al q7 _ _ | with_reducible exact hold_al q8 _ _ | with_reducible exact hold_al q9 _ _ | with_reducible exact hold_al q10 _ _ | (simp [go_sem, q1, q2, q3, qf3, q4, qf4, q5, qf5, q6, qf6, q7, q8, q9, q10, qz1, qy1, qz3, qy3, qz5, qy5, qz7, qy7, qz9, qy9]; done), by first | with_reducible assumption | (simp [go_sem]; done) | with_reducible exact hold_al q1 _ _ | with_reducible exact hold_al q2 _ _ | with_reducible exact hold_al q3 _ _ | with_reducible exact hold_al q4 _ _ | with_reducible exact hold_al q5 _ _ | with_reducible exact hold_al q6 _ _ | with_reducible exact hold_al q7 _ _ | with_reducible exact hold_al q8 _ _ | with_reducible exact hold_al q9 _ _ | with_reducible exact hold_al q10 _ _ | (simp [go_sem, q1, q2, q3, qf3, q4, qf4, q5, qf5, q6, qf6, q7, q8, q9, q10, qz1, qy1, qz3, qy3, qz5, qy5, qz7, qy7, qz9, qy9]; done), by first | with_reducible assumption | (simp [go_sem]; done) | with_reducible exact hold_alF q3 qf3 _ _ | with_reducible exact hold_alF q4 qf4 _ _ | with_reducible exact hold_alF q5 qf5 _ _ | with_reducible exact hold_alF q6 qf6 _ _ | (simp [go_sem, q1, q2, q3, qf3, q4, qf4, q5, qf5, q6, qf6, q7, q8, q9, q10, qz1, qy1, qz3, qy3, qz5, qy5, qz7, qy7, qz9, qy9]; done), by first | with_reducible assumption | (simp [go_sem]; done) | with_reducible exact hold_al q1 _ _ | with_reducible exact hold_al q2 _ _ | with_reducible exact hold_al q3 _ _ | with_reducible exact hold_al q4 _ _ | with_reducible exact hold_al q5 _ _ | with_reducible exact hold_al q6 _ _ | with_reducible exact hold_al q7 _ _ | with_reducible exact hold_al q8 _ _ | with_reducible exact hold_al q9 _ _ | with_reducible exact hold_al q10 _ _ | (simp [go_sem, q1, q2, q3, qf3, q4, qf4, q5, qf5, q6, qf6, q7, q8, q9, q10, qz1, qy1, qz3, qy3, qz5, qy5, qz7, qy7, qz9, qy9]; done), by first | with_reducible assumption | (simp [go_sem]; done) | with_reducible exact hold_alF q3 qf3 _ _ | with_reducible exact hold_alF q4 qf4 _ _ | with_reducible exact hold_alF q5 qf5 _ _ | with_reducible exact hold_alF q6 qf6 _ _ | (simp [go_sem, q1, q2, q3, qf3, q4, qf4, q5, qf5, q6, qf6, q7, q8, q9, q10, qz1, qy1, qz3, qy3, qz5, qy5, qz7, qy7, qz9, qy9]; done), by first | with_reducible assumption | (simp [go_sem]; done) | with_reducible exact hold_al q1 _ _ | with_reducible exact hold_al q2 _ _ | with_reducible exact hold_al q3 _ _ | with_reducible exact hold_al q4 _ _ | with_reducible exact hold_al q5 _ _ | with_reducible exact hold_al q6 _ _ | with_reducible exact hold_al q7 _ _ | with_reducible exact hold_al q8 _ _ | with_reducible exact hold_al q9 _ _ | with_reducible exact hold_al q10 _ _ | (simp [go_sem, q1, q2, q3, qf3, q4, qf4, q5, qf5, q6, qf6, q7, q8, q9, q10, qz1, qy1, qz3, qy3, qz5, qy5, qz7, qy7, qz9, qy9]; done), by first | with_reducible assumption | (simp [go_sem]; done) | with_reducible exact hold_alF q3 qf3 _ _ | with_reducible exact hold_alF q4 qf4 _ _ | with_reducible exact hold_alF q5 qf5 _ _ | with_reducible exact hold_alF q6 qf6 _ _ | (simp [go_sem, q1, q2, q3, qf3, q4, qf4, q5, qf5, q6, qf6, q7, q8, q9, q10, qz1, qy1, qz3, qy3, qz5, qy5, qz7, qy7, qz9, qy9]; done), by first | with_reducible assumption | (simp [go_sem]; done) | with_reducible exact hold_al q1 _ _ | with_reducible exact hold_al q2 _ _ | with_reducible exact hold_al q3 _ _ | with_reducible exact hold_al q4 _ _ | with_reducible exact hold_al q5 _ _ | with_reducible exact hold_al q6 _ _ | with_reducible exact hold_al q7 _ _ | with_reducible exact hold_al q8 _ _ | with_reducible exact hold_al q9 _ _ | with_reducible exact hold_al q10 _ _ | (simp [go_sem, q1, q2, q3, qf3, q4, qf4, q5, qf5, q6, qf6, q7, q8, q9, q10, qz1, qy1, qz3, qy3, qz5, qy5, qz7, qy7, qz9, qy9]; done), by first | with_reducible assumption | (simp [go_sem]; done) | with_reducible exact hold_alF q3 qf3 _ _ | with_reducible exact hold_alF q4 qf4 _ _ | with_reducible exact hold_alF q5 qf5 _ _ | with_reducible exact hold_alF q6 qf6 _ _ | (simp [go_sem, q1, q2, q3, qf3, q4, qf4, q5, qf5, q6, qf6, q7, q8, q9, q10, qz1, qy1, qz3, qy3, qz5, qy5, qz7, qy7, qz9, qy9]; done), by repeat (first | with_reducible exact Below.refl _ _ | with_reducible refine bl_alloc ?_ _ | with_reducible refine bl_drewN ?_ _ | with_reducible refine bl_drew ?_ | (with_reducible refine bl_set ?_ ?_ _; rotate_left; focus (first | (simp; done) | (simp; omega) | omega)) | with_reducible refine below_step ?_ (Bw.below _) | with_reducible refine below_step ?_ (by assumption))⟩ ?_
  rintro V4 ⟨hl1, hl2, hl3, fl3, hl4, fl4, hl5, fl5, hl6, fl6, hWl⟩ gl
  have l1 := Bw.hold hl1
  have l2 := Bw.hold hl2
  have l3 := Bw.hold hl3
  have lf3 := Bw.free hl3 fl3
  have l4 := Bw.hold hl4
  have lf4 := Bw.free hl4 fl4
  have l5 := Bw.hold hl5
  have lf5 := Bw.free hl5 fl5
  have l6 := Bw.hold hl6
  have lf6 := Bw.free hl6 fl6
  have lz1 := fun g : Bw V4 => cell_lt (l1 g)
  have ly1 := fun g : Bw V4 => Nat.le_of_lt (lz1 g)
  have lz3 := fun g : Bw V4 => cell_lt (l3 g)
  have ly3 := fun g : Bw V4 => Nat.le_of_lt (lz3 g)
  have lz5 := fun g : Bw V4 => cell_lt (l5 g)
  have ly5 := fun g : Bw V4 => Nat.le_of_lt (lz5 g)
  clear hl1 hl2 hl3 fl3 hl4 fl4 hl5 fl5 hl6 fl6
  clear q1 q2 q3 qf3 q4 qf4 q5 qf5 q6 qf6 q7 q8 q9 q10 qz1 qy1 qz3 qy3 qz5 qy5 qz7 qy7 qz9 qy9
  refine (M2.out _).mono ?_
  rintro e_g5 w_g5 ⟨rfl, hb_g5⟩
  obtain ⟨g5, rfl⟩ := gl.next hb_g5
  clear hb_g5
  go_wp2_with fail
  refine calls_start (fun V5 => V5.cell? ⟨w.heap.size, 0, none⟩ = some (.int .i64 a) ∧ V5.cell? ⟨w.heap.size, 1, none⟩ = some (.int .i64 b) ∧ V5.cell? ⟨w.heap.size + 1, 0, none⟩ = some (.int .i64 ua) ∧ V5.frozen? ⟨w.heap.size + 1, 0, none⟩ = false ∧ V5.cell? ⟨w.heap.size + 1, 1, none⟩ = some (.int .i64 ub) ∧ V5.frozen? ⟨w.heap.size + 1, 1, none⟩ = false ∧ V5.cell? ⟨w.heap.size + 1 + 1, 0, none⟩ = some (.int .i64 0) ∧ V5.frozen? ⟨w.heap.size + 1 + 1, 0, none⟩ = false ∧ V5.cell? ⟨w.heap.size + 1 + 1, 1, none⟩ = some (.int .i64 0) ∧ V5.frozen? ⟨w.heap.size + 1 + 1, 1, none⟩ = false ∧ V5.cell? ⟨g5.out.heap.size, 0, none⟩ = some (.int .i64 da) ∧ V5.cell? ⟨g5.out.heap.size, 1, none⟩ = some (.int .i64 db) ∧ Below w.heap.size w V5) ⟨by first | with_reducible assumption | (simp [go_sem]; done) | with_reducible exact hold_al l1 _ _ | with_reducible exact hold_al l2 _ _ | with_reducible exact hold_al l3 _ _ | with_reducible exact hold_al l4 _ _ | with_reducible exact hold_al l5 _ _ | with_reducible exact hold_al l6 _ _ | (simp [go_sem, l1, l2, l3, lf3, l4, lf4, l5, lf5, l6, lf6, lz1, ly1, lz3, ly3, lz5, ly5]; done), by first | with_reducible assumption | (simp [go_sem]; done) | with_reducible exact hold_al l1 _ _ | with_reducible exact hold_al l2 _ _ | with_reducible exact hold_al l3 _ _ | with_reducible exact hold_al l4 _ _ | with_reducible exact hold_al l5 _ _ | with_reducible exact hold_al l6 _ _ | (simp [go_sem, l1, l2, l3, lf3, l4, lf4, l5, lf5, l6, lf6, lz1, ly1, lz3, ly3, lz5, ly5]; done), by first | with_reducible assumption | (simp [go_sem]; done) | with_reducible exact hold_al l1 _ _ | with_reducible exact hold_al l2 _ _ | with_reducible exact hold_al l3 _ _ | with_reducible exact hold_al l4 _ _ | with_reducible exact hold_al l5 _ _ | with_reducible exact hold_al l6 _ _ | (simp [go_sem, l1, l2, l3, lf3, l4, lf4, l5, lf5, l6, lf6, lz1, ly1, lz3, ly3, lz5, ly5]; done), by first | with_reducible assumption | (simp [go_sem]; done) | with_reducible exact hold_alF l3 lf3 _ _ | with_reducible exact hold_alF l4 lf4 _ _ | with_reducible exact hold_alF l5 lf5 _ _ | with_reducible exact hold_alF l6 lf6 _ _ | (simp [go_sem, l1, l2, l3, lf3, l4, lf4, l5, lf5, l6, lf6, lz1, ly1, lz3, ly3, lz5, ly5]; done), by first | with_reducible assumption | (simp [go_sem]; done) | with_reducible exact hold_al l1 _ _ | with_reducible exact hold_al l2 _ _ | with_reducible exact hold_al l3 _ _ | with_reducible exact hold_al l4 _ _ | with_reducible exact hold_al l5 _ _ | with_reducible exact hold_al l6 _ _ | (simp [go_sem, l1, l2, l3, lf3, l4, lf4, l5, lf5, l6, lf6, lz1, ly1, lz3, ly3, lz5, ly5]; done), by first | with_reducible assumption | (simp [go_sem]; done) | with_reducible exact hold_alF l3 lf3 _ _ | with_reducible exact hold_alF l4 lf4 _ _ | with_reducible exact hold_alF l5 lf5 _ _ | with_reducible exact hold_alF l6 lf6 _ _ | (simp [go_sem, l1, l2, l3, lf3, l4, lf4, l5, lf5, l6, lf6, lz1, ly1, lz3, ly3, lz5, ly5]; done), by first | with_reducible assumption | (simp [go_sem]; done) | with_reducible exact hold_al l1 _ _ | with_reducible exact hold_al l2 _ _ | with_reducible exact hold_al l3 _ _ | with_reducible exact hold_al l4 _ _ | with_reducible exact hold_al l5 _ _ | with_reducible exact hold_al l6 _ _ | (simp [go_sem, l1, l2, l3, lf3, l4, lf4, l5, lf5, l6, lf6, lz1, ly1, lz3, ly3, lz5, ly5]; done), by first | with_reducible assumption | (simp [go_sem]; done) | with_reducible exact hold_alF l3 lf3 _ _ | with_reducible exact hold_alF l4 lf4 _ _ | with_reducible exact hold_alF l5 lf5 _ _ | with_reducible exact hold_alF l6 lf6 _ _ | (simp [go_sem, l1, l2, l3, lf3, l4, lf4, l5, lf5, l6, lf6, lz1, ly1, lz3, ly3, lz5, ly5]; done), by first | with_reducible assumption | (simp [go_sem]; done) | with_reducible exact hold_al l1 _ _ | with_reducible exact hold_al l2 _ _ | with_reducible exact hold_al l3 _ _ | with_reducible exact hold_al l4 _ _ | with_reducible exact hold_al l5 _ _ | with_reducible exact hold_al l6 _ _ | (simp [go_sem, l1, l2, l3, lf3, l4, lf4, l5, lf5, l6, lf6, lz1, ly1, lz3, ly3, lz5, ly5]; done), by first | with_reducible assumption | (simp [go_sem]; done) | with_reducible exact hold_alF l3 lf3 _ _ | with_reducible exact hold_alF l4 lf4 _ _ | with_reducible exact hold_alF l5 lf5 _ _ | with_reducible exact hold_alF l6 lf6 _ _ | (simp [go_sem, l1, l2, l3, lf3, l4, lf4, l5, lf5, l6, lf6, lz1, ly1, lz3, ly3, lz5, ly5]; done), by first | with_reducible assumption | (simp [go_sem]; done) | with_reducible exact hold_al l1 _ _ | with_reducible exact hold_al l2 _ _ | with_reducible exact hold_al l3 _ _ | with_reducible exact hold_al l4 _ _ | with_reducible exact hold_al l5 _ _ | with_reducible exact hold_al l6 _ _ | (simp [go_sem, l1, l2, l3, lf3, l4, lf4, l5, lf5, l6, lf6, lz1, ly1, lz3, ly3, lz5, ly5]; done), by first | with_reducible assumption | (simp [go_sem]; done) | with_reducible exact hold_al l1 _ _ | with_reducible exact hold_al l2 _ _ | with_reducible exact hold_al l3 _ _ | with_reducible exact hold_al l4 _ _ | with_reducible exact hold_al l5 _ _ | with_reducible exact hold_al l6 _ _ | (simp [go_sem, l1, l2, l3, lf3, l4, lf4, l5, lf5, l6, lf6, lz1, ly1, lz3, ly3, lz5, ly5]; done), by repeat (first | with_reducible exact Below.refl _ _ | with_reducible refine bl_alloc ?_ _ | with_reducible refine bl_drewN ?_ _ | with_reducible refine bl_drew ?_ | (with_reducible refine bl_set ?_ ?_ _; rotate_left; focus (first | (simp; done) | (simp; omega) | omega)) | with_reducible refine below_step ?_ (Bw.below _) | with_reducible refine below_step ?_ (by assumption))⟩ ?_
  rintro V5 ⟨hm1, hm2, hm3, fm3, hm4, fm4, hm5, fm5, hm6, fm6, hm7, hm8, hWm⟩ gm
  have m1 := Bw.hold hm1
  have m2 := Bw.hold hm2
  have m3 := Bw.hold hm3
  have mf3 := Bw.free hm3 fm3
  have m4 := Bw.hold hm4
  have mf4 := Bw.free hm4 fm4
  have m5 := Bw.hold hm5
  have mf5 := Bw.free hm5 fm5
  have m6 := Bw.hold hm6
  have mf6 := Bw.free hm6 fm6
  have m7 := Bw.hold hm7
  have m8 := Bw.hold hm8
  have mz1 := fun g : Bw V5 => cell_lt (m1 g)
  have my1 := fun g : Bw V5 => Nat.le_of_lt (mz1 g)
  have mz3 := fun g : Bw V5 => cell_lt (m3 g)
  have my3 := fun g : Bw V5 => Nat.le_of_lt (mz3 g)
  have mz5 := fun g : Bw V5 => cell_lt (m5 g)
  have my5 := fun g : Bw V5 => Nat.le_of_lt (mz5 g)
  have mz7 := fun g : Bw V5 => cell_lt (m7 g)
  have my7 := fun g : Bw V5 => Nat.le_of_lt (mz7 g)
  clear hm1 hm2 hm3 fm3 hm4 fm4 hm5 fm5 hm6 fm6 hm7 hm8
  clear l1 l2 l3 lf3 l4 lf4 l5 lf5 l6 lf6 lz1 ly1 lz3 ly3 lz5 ly5
  refine (SB.out _).mono ?_
  rintro e_g6 w_g6 ⟨rfl, hb_g6⟩
  obtain ⟨g6, rfl⟩ := gm.next hb_g6
  clear hb_g6
  go_wp2_with fail
  refine wp_start (fun V6 => V6.cell? ⟨w.heap.size + 1, 0, none⟩ = some (.int .i64 ua) ∧ V6.frozen? ⟨w.heap.size + 1, 0, none⟩ = false ∧ V6.cell? ⟨w.heap.size + 1, 1, none⟩ = some (.int .i64 ub) ∧ V6.frozen? ⟨w.heap.size + 1, 1, none⟩ = false ∧ V6.cell? ⟨w.heap.size + 1 + 1, 0, none⟩ = some (.int .i64 la) ∧ V6.frozen? ⟨w.heap.size + 1 + 1, 0, none⟩ = false ∧ V6.cell? ⟨w.heap.size + 1 + 1, 1, none⟩ = some (.int .i64 lb) ∧ V6.frozen? ⟨w.heap.size + 1 + 1, 1, none⟩ = false ∧ Below w.heap.size w V6) ⟨by first | with_reducible assumption | (simp [go_sem]; done) | with_reducible exact hold_al m1 _ _ | with_reducible exact hold_al m2 _ _ | with_reducible exact hold_al m3 _ _ | with_reducible exact hold_al m4 _ _ | with_reducible exact hold_al m5 _ _ | with_reducible exact hold_al m6 _ _ | with_reducible exact hold_al m7 _ _ | with_reducible exact hold_al m8 _ _ | (simp [go_sem, m1, m2, m3, mf3, m4, mf4, m5, mf5, m6, mf6, m7, m8, mz1, my1, mz3, my3, mz5, my5, mz7, my7]; done), by first | with_reducible assumption | (simp [go_sem]; done) | with_reducible exact hold_alF m3 mf3 _ _ | with_reducible exact hold_alF m4 mf4 _ _ | with_reducible exact hold_alF m5 mf5 _ _ | with_reducible exact hold_alF m6 mf6 _ _ | (simp [go_sem, m1, m2, m3, mf3, m4, mf4, m5, mf5, m6, mf6, m7, m8, mz1, my1, mz3, my3, mz5, my5, mz7, my7]; done), by first | with_reducible assumption | (simp [go_sem]; done) | with_reducible exact hold_al m1 _ _ | with_reducible exact hold_al m2 _ _ | with_reducible exact hold_al m3 _ _ | with_reducible exact hold_al m4 _ _ | with_reducible exact hold_al m5 _ _ | with_reducible exact hold_al m6 _ _ | with_reducible exact hold_al m7 _ _ | with_reducible exact hold_al m8 _ _ | (simp [go_sem, m1, m2, m3, mf3, m4, mf4, m5, mf5, m6, mf6, m7, m8, mz1, my1, mz3, my3, mz5, my5, mz7, my7]; done), by first | with_reducible assumption | (simp [go_sem]; done) | with_reducible exact hold_alF m3 mf3 _ _ | with_reducible exact hold_alF m4 mf4 _ _ | with_reducible exact hold_alF m5 mf5 _ _ | with_reducible exact hold_alF m6 mf6 _ _ | (simp [go_sem, m1, m2, m3, mf3, m4, mf4, m5, mf5, m6, mf6, m7, m8, mz1, my1, mz3, my3, mz5, my5, mz7, my7]; done), by first | with_reducible assumption | (simp [go_sem]; done) | with_reducible exact hold_al m1 _ _ | with_reducible exact hold_al m2 _ _ | with_reducible exact hold_al m3 _ _ | with_reducible exact hold_al m4 _ _ | with_reducible exact hold_al m5 _ _ | with_reducible exact hold_al m6 _ _ | with_reducible exact hold_al m7 _ _ | with_reducible exact hold_al m8 _ _ | (simp [go_sem, m1, m2, m3, mf3, m4, mf4, m5, mf5, m6, mf6, m7, m8, mz1, my1, mz3, my3, mz5, my5, mz7, my7]; done), by first | with_reducible assumption | (simp [go_sem]; done) | with_reducible exact hold_alF m3 mf3 _ _ | with_reducible exact hold_alF m4 mf4 _ _ | with_reducible exact hold_alF m5 mf5 _ _ | with_reducible exact hold_alF m6 mf6 _ _ | (simp [go_sem, m1, m2, m3, mf3, m4, mf4, m5, mf5, m6, mf6, m7, m8, mz1, my1, mz3, my3, mz5, my5, mz7, my7]; done), by first | with_reducible assumption | (simp [go_sem]; done) | with_reducible exact hold_al m1 _ _ | with_reducible exact hold_al m2 _ _ | with_reducible exact hold_al m3 _ _ | with_reducible exact hold_al m4 _ _ | with_reducible exact hold_al m5 _ _ | with_reducible exact hold_al m6 _ _ | with_reducible exact hold_al m7 _ _ | with_reducible exact hold_al m8 _ _ | (simp [go_sem, m1, m2, m3, mf3, m4, mf4, m5, mf5, m6, mf6, m7, m8, mz1, my1, mz3, my3, mz5, my5, mz7, my7]; done), by first | with_reducible assumption | (simp [go_sem]; done) | with_reducible exact hold_alF m3 mf3 _ _ | with_reducible exact hold_alF m4 mf4 _ _ | with_reducible exact hold_alF m5 mf5 _ _ | with_reducible exact hold_alF m6 mf6 _ _ | (simp [go_sem, m1, m2, m3, mf3, m4, mf4, m5, mf5, m6, mf6, m7, m8, mz1, my1, mz3, my3, mz5, my5, mz7, my7]; done), by repeat (first | with_reducible exact Below.refl _ _ | with_reducible refine bl_alloc ?_ _ | with_reducible refine bl_drewN ?_ _ | with_reducible refine bl_drew ?_ | (with_reducible refine bl_set ?_ ?_ _; rotate_left; focus (first | (simp; done) | (simp; omega) | omega)) | with_reducible refine below_step ?_ (Bw.below _) | with_reducible refine below_step ?_ (by assumption))⟩ ?_
  rintro V6 ⟨hn1, fn1, hn2, fn2, hn3, fn3, hn4, fn4, hWn⟩ gn
  have n1 := Bw.hold hn1
  have nf1 := Bw.free hn1 fn1
  have n2 := Bw.hold hn2
  have nf2 := Bw.free hn2 fn2
  have n3 := Bw.hold hn3
  have nf3 := Bw.free hn3 fn3
  have n4 := Bw.hold hn4
  have nf4 := Bw.free hn4 fn4
  have nz1 := fun g : Bw V6 => cell_lt (n1 g)
  have ny1 := fun g : Bw V6 => Nat.le_of_lt (nz1 g)
  have nz3 := fun g : Bw V6 => cell_lt (n3 g)
  have ny3 := fun g : Bw V6 => Nat.le_of_lt (nz3 g)
  clear hn1 fn1 hn2 fn2 hn3 fn3 hn4 fn4
  clear m1 m2 m3 mf3 m4 mf4 m5 mf5 m6 mf6 m7 m8 mz1 my1 mz3 my3 mz5 my5 mz7 my7
  have i1 := n1 gn
  have if1 := nf1 gn
  have i2 := n2 gn
  have if2 := nf2 gn
  have i3 := n3 gn
  have if3 := nf3 gn
  have i4 := n4 gn
  have if4 := nf4 gn
  have hWi := below_step hWn (Bw.below gn)
  clear n1 nf1 n2 nf2 n3 nf3 n4 nf4 nz1 ny1 nz3 ny3
  generalize Bw.out gn = w0 at *
  go_region
  all_goals go_wp2_with fail
  all_goals refine bodyPost_ret (v := .tuple #[.agg #[.int .i64 ua, .int .i64 ub], .agg #[.int .i64 la, .int .i64 lb]]) (by simp [results, Try.results65, go_sem, i1, i2, i3, i4]) rfl ⟨rfl, by repeat (first | with_reducible exact Below.refl _ _ | with_reducible refine bl_alloc ?_ _ | with_reducible refine bl_drewN ?_ _ | with_reducible refine bl_drew ?_ | (with_reducible refine bl_set ?_ ?_ _; rotate_left; focus (first | (simp; done) | (simp; omega) | omega)) | with_reducible refine below_step ?_ (Bw.below _) | with_reducible refine below_step ?_ (by assumption))⟩
set_option maxHeartbeats 1000000 in
theorem cell_shape (r a b : Int) (w : World) :
    Calls Try.prog 64 #[.agg #[.int .i64 r, .int .i64 a, .int .i64 b]] w fun e w' => e = .returned (.bool (rsB r && zOk a b)) ∧ Below w.heap.size w w' := by
  have W1 := num_within a 1073741824 (by omega) (by omega)
  have W2 := num_within b 1073741824 (by omega) (by omega)
  by_cases h1 : 0 ≤ r
  · by_cases h2 : r ≤ 12
    · rw [show rsB r = true from decide_eq_true ⟨h1, h2⟩, Bool.true_and]
      by_cases h3 : -1073741824 ≤ a ∧ a ≤ 1073741824
      · rw [show withinB a 1073741824 = true from decide_eq_true h3] at W1
        have H1 := Lib.hid W1
        rw [show zOk a b = withinB b 1073741824 from decide_eq_decide.2 (by omega)]
        generalize withinB b 1073741824 = bo at *
        have H2 := Lib.hid W2
        clear W1 W2
        go_enter Try.func64, Try.ntmps64
        go_wp2_with fail
        refine calls_start (fun V => V.cell? ⟨w.heap.size, 0, none⟩ = some (.int .i64 r) ∧ V.cell? ⟨w.heap.size, 1, none⟩ = some (.int .i64 a) ∧ V.cell? ⟨w.heap.size, 2, none⟩ = some (.int .i64 b) ∧ Below w.heap.size w V) ⟨by first | with_reducible assumption | (simp [go_sem]; done), by first | with_reducible assumption | (simp [go_sem]; done), by first | with_reducible assumption | (simp [go_sem]; done), by repeat (first | with_reducible exact Below.refl _ _ | with_reducible refine bl_alloc ?_ _ | with_reducible refine bl_drewN ?_ _ | with_reducible refine bl_drew ?_ | (with_reducible refine bl_set ?_ ?_ _; rotate_left; focus (first | (simp; done) | (simp; omega) | omega)) | with_reducible refine below_step ?_ (Bw.below _) | with_reducible refine below_step ?_ (by assumption))⟩ ?_
        rintro V ⟨hc1, hc2, hc3, hWc⟩ gc
        have c1 := Bw.hold hc1
        have c2 := Bw.hold hc2
        have c3 := Bw.hold hc3
        have cz1 := fun g : Bw V => cell_lt (c1 g)
        have cy1 := fun g : Bw V => Nat.le_of_lt (cz1 g)
        clear hc1 hc2 hc3
        refine (H1.out _).mono ?_
        rintro e w1 ⟨rfl, rfl⟩
        go_wp2_with fail
        refine (H2.out _).mono ?_
        rintro e w1 ⟨rfl, rfl⟩
        go_wp2_with fail
        go_ret
        exact ⟨rfl, by repeat (first | with_reducible exact Below.refl _ _ | with_reducible refine bl_alloc ?_ _ | with_reducible refine bl_drewN ?_ _ | with_reducible refine bl_drew ?_ | (with_reducible refine bl_set ?_ ?_ _; rotate_left; focus (first | (simp; done) | (simp; omega) | omega)) | with_reducible refine below_step ?_ (Bw.below _) | with_reducible refine below_step ?_ (by assumption))⟩
      · rw [show withinB a 1073741824 = false from decide_eq_false h3] at W1
        have H1 := Lib.hid W1
        rw [show zOk a b = false from decide_eq_false (by omega)]
        clear W1 W2
        go_enter Try.func64, Try.ntmps64
        go_wp2_with fail
        refine calls_start (fun V => V.cell? ⟨w.heap.size, 0, none⟩ = some (.int .i64 r) ∧ V.cell? ⟨w.heap.size, 1, none⟩ = some (.int .i64 a) ∧ V.cell? ⟨w.heap.size, 2, none⟩ = some (.int .i64 b) ∧ Below w.heap.size w V) ⟨by first | with_reducible assumption | (simp [go_sem]; done), by first | with_reducible assumption | (simp [go_sem]; done), by first | with_reducible assumption | (simp [go_sem]; done), by repeat (first | with_reducible exact Below.refl _ _ | with_reducible refine bl_alloc ?_ _ | with_reducible refine bl_drewN ?_ _ | with_reducible refine bl_drew ?_ | (with_reducible refine bl_set ?_ ?_ _; rotate_left; focus (first | (simp; done) | (simp; omega) | omega)) | with_reducible refine below_step ?_ (Bw.below _) | with_reducible refine below_step ?_ (by assumption))⟩ ?_
        rintro V ⟨hc1, hc2, hc3, hWc⟩ gc
        have c1 := Bw.hold hc1
        have c2 := Bw.hold hc2
        have c3 := Bw.hold hc3
        have cz1 := fun g : Bw V => cell_lt (c1 g)
        have cy1 := fun g : Bw V => Nat.le_of_lt (cz1 g)
        clear hc1 hc2 hc3
        refine (H1.out _).mono ?_
        rintro e w1 ⟨rfl, rfl⟩
        go_wp2_with fail
        go_ret
        exact ⟨rfl, by repeat (first | with_reducible exact Below.refl _ _ | with_reducible refine bl_alloc ?_ _ | with_reducible refine bl_drewN ?_ _ | with_reducible refine bl_drew ?_ | (with_reducible refine bl_set ?_ ?_ _; rotate_left; focus (first | (simp; done) | (simp; omega) | omega)) | with_reducible refine below_step ?_ (Bw.below _) | with_reducible refine below_step ?_ (by assumption))⟩
    · rw [show rsB r = false from decide_eq_false (by omega), Bool.false_and]
      go_enter Try.func64, Try.ntmps64
      go_wp2_with fail
      go_ret
      exact ⟨rfl, by repeat (first | with_reducible exact Below.refl _ _ | with_reducible refine bl_alloc ?_ _ | with_reducible refine bl_drewN ?_ _ | with_reducible refine bl_drew ?_ | (with_reducible refine bl_set ?_ ?_ _; rotate_left; focus (first | (simp; done) | (simp; omega) | omega)) | with_reducible refine below_step ?_ (Bw.below _) | with_reducible refine below_step ?_ (by assumption))⟩
  · rw [show rsB r = false from decide_eq_false (by omega), Bool.false_and]
    go_enter Try.func64, Try.ntmps64
    go_wp2_with fail
    go_ret
    exact ⟨rfl, by repeat (first | with_reducible exact Below.refl _ _ | with_reducible refine bl_alloc ?_ _ | with_reducible refine bl_drewN ?_ _ | with_reducible refine bl_drew ?_ | (with_reducible refine bl_set ?_ ?_ _; rotate_left; focus (first | (simp; done) | (simp; omega) | omega)) | with_reducible refine below_step ?_ (Bw.below _) | with_reducible refine below_step ?_ (by assumption))⟩
set_option maxHeartbeats 1000000 in
theorem cell_step (r a b : Int) (hr : -1000 ≤ r) (hr' : r ≤ 1000) (h1 : -1073741824 ≤ a) (h2 : a ≤ 1073741824) (h3 : -1073741824 ≤ b) (h4 : b ≤ 1073741824) (w : World) :
    Calls Try.prog 72 #[.agg #[.int .i64 r, .int .i64 a, .int .i64 b]] w fun e w' => e = .returned (.agg #[.int .i64 (r - 1), .int .i64 (upA a b), .int .i64 (upB a b)]) ∧ Below w.heap.size w w' := by
  have SP := Lib.hid (cell_split a b h1 h2 h3 h4)
  generalize upA a b = ua at *
  generalize upB a b = ub at *
  generalize lfA a b = la at *
  generalize lfB a b = lb at *
  go_enter Try.func72, Try.ntmps72
  go_wp2_with fail
  refine calls_start (fun V => V.cell? ⟨w.heap.size, 0, none⟩ = some (.int .i64 r) ∧ V.cell? ⟨w.heap.size, 1, none⟩ = some (.int .i64 a) ∧ V.cell? ⟨w.heap.size, 2, none⟩ = some (.int .i64 b) ∧ V.cell? ⟨w.heap.size + 1, 0, none⟩ = some (.int .i64 0) ∧ V.frozen? ⟨w.heap.size + 1, 0, none⟩ = false ∧ V.cell? ⟨w.heap.size + 1, 1, none⟩ = some (.int .i64 0) ∧ V.frozen? ⟨w.heap.size + 1, 1, none⟩ = false ∧ V.cell? ⟨w.heap.size + 1, 2, none⟩ = some (.int .i64 0) ∧ V.frozen? ⟨w.heap.size + 1, 2, none⟩ = false ∧ Below w.heap.size w V) ⟨by first | with_reducible assumption | (simp [go_sem]; done), by first | with_reducible assumption | (simp [go_sem]; done), by first | with_reducible assumption | (simp [go_sem]; done), by first | with_reducible assumption | (simp [go_sem]; done), by first | with_reducible assumption | (simp [go_sem]; done), by first | with_reducible assumption | (simp [go_sem]; done), by first | with_reducible assumption | (simp [go_sem]; done), by first | with_reducible assumption | (simp [go_sem]; done), by first | with_reducible assumption | (simp [go_sem]; done), by repeat (first | with_reducible exact Below.refl _ _ | with_reducible refine bl_alloc ?_ _ | with_reducible refine bl_drewN ?_ _ | with_reducible refine bl_drew ?_ | (with_reducible refine bl_set ?_ ?_ _; rotate_left; focus (first | (simp; done) | (simp; omega) | omega)) | with_reducible refine below_step ?_ (Bw.below _) | with_reducible refine below_step ?_ (by assumption))⟩ ?_
  rintro V ⟨hc1, hc2, hc3, hc4, fc4, hc5, fc5, hc6, fc6, hWc⟩ gc
  have c1 := Bw.hold hc1
  have c2 := Bw.hold hc2
  have c3 := Bw.hold hc3
  have c4 := Bw.hold hc4
  have cf4 := Bw.free hc4 fc4
  have c5 := Bw.hold hc5
  have cf5 := Bw.free hc5 fc5
  have c6 := Bw.hold hc6
  have cf6 := Bw.free hc6 fc6
  have cz1 := fun g : Bw V => cell_lt (c1 g)
  have cy1 := fun g : Bw V => Nat.le_of_lt (cz1 g)
  have cz4 := fun g : Bw V => cell_lt (c4 g)
  have cy4 := fun g : Bw V => Nat.le_of_lt (cz4 g)
  clear hc1 hc2 hc3 hc4 fc4 hc5 fc5 hc6 fc6
  refine (SP.out _).mono ?_
  rintro e_g2 w_g2 ⟨rfl, hb_g2⟩
  obtain ⟨g2, rfl⟩ := gc.next hb_g2
  clear hb_g2
  go_wp2_with fail
  refine bodyPost_ret (v := .agg #[.int .i64 (r - 1), .int .i64 ua, .int .i64 ub]) (by simp [results, Try.results72, go_sem, c1, c2, c3, c4, c5, c6, cz1, cz4, cy1, cy4]) rfl ⟨rfl, by repeat (first | with_reducible exact Below.refl _ _ | with_reducible refine bl_alloc ?_ _ | with_reducible refine bl_drewN ?_ _ | with_reducible refine bl_drew ?_ | (with_reducible refine bl_set ?_ ?_ _; rotate_left; focus (first | (simp; done) | (simp; omega) | omega)) | with_reducible refine below_step ?_ (Bw.below _) | with_reducible refine below_step ?_ (by assumption))⟩
theorem unit_is (n : Nat) (hn : n < 6) (x y : Int) (hx : uA n = x) (hy : uB n = y) (w : World) :
    Calls Try.prog 34 #[.int .i64 (n : Int)] w fun e w' => e = .returned (.agg #[.int .i64 x, .int .i64 y]) ∧ Below w.heap.size w w' := by
  have h := eis_unit (n : Int) w
  rw [show (n : Int) % 6 = n by omega, hx, hy] at h
  exact h
set_option maxRecDepth 100000 in
set_option maxHeartbeats 2000000 in
theorem cell_digit (p q : Int) (w : World) :
    Calls Try.prog 66 #[.agg #[.int .i64 p, .int .i64 q]] w fun e w' => e = .returned (.int .i64 (dgt p q)) ∧ Below w.heap.size w w' := by
  go_enter Try.func66, Try.ntmps66
  go_wp2_with fail
  refine wp_start (fun V => V.cell? ⟨w.heap.size, 0, none⟩ = some (.int .i64 p) ∧ V.cell? ⟨w.heap.size, 1, none⟩ = some (.int .i64 q) ∧ Below w.heap.size w V) ⟨by first | with_reducible assumption | (simp [go_sem]; done), by first | with_reducible assumption | (simp [go_sem]; done), by repeat (first | with_reducible exact Below.refl _ _ | with_reducible refine bl_alloc ?_ _ | with_reducible refine bl_drewN ?_ _ | with_reducible refine bl_drew ?_ | (with_reducible refine bl_set ?_ ?_ _; rotate_left; focus (first | (simp; done) | (simp; omega) | omega)) | with_reducible refine below_step ?_ (Bw.below _) | with_reducible refine below_step ?_ (by assumption))⟩ ?_
  rintro V ⟨hc1, hc2, hWc⟩ gc
  have c1 := Bw.hold hc1
  have c2 := Bw.hold hc2
  have cz1 := fun g : Bw V => cell_lt (c1 g)
  have cy1 := fun g : Bw V => Nat.le_of_lt (cz1 g)
  clear hc1 hc2
  go_loopw [4] (fun k W => ∃ n : Nat, n ≤ 6 ∧ k = .int .i64 n ∧ dgt p q = dgF p q (6 - n) n ∧ Below V.heap.size V W) (fun k _ => 6 - (intOf k).toNat)
  case atStart => exact ⟨0, by omega, rfl, rfl, by repeat (first | with_reducible exact Below.refl _ _ | with_reducible refine bl_alloc ?_ _ | with_reducible refine bl_drewN ?_ _ | with_reducible refine bl_drew ?_ | (with_reducible refine bl_set ?_ ?_ _; rotate_left; focus (first | (simp; done) | (simp; omega) | omega)) | with_reducible refine below_step ?_ (Bw.below _) | with_reducible refine below_step ?_ (by assumption))⟩
  case round =>
    obtain ⟨n, hn, rfl, hd, hb⟩ := hrel
    obtain ⟨g, rfl⟩ := bw_of hb
    by_cases hlt : n < 6
    · rw [show 6 - n = (6 - (n + 1)) + 1 by omega] at hd
      unfold dgF at hd
      have UN := unit_is n hlt _ _ rfl rfl
      have HU := Lib.hid UN
      clear UN
      generalize uA (n : Int) = x at *
      generalize uB (n : Int) = y at *
      by_cases hx : x = p
      · by_cases hy : y = q
        · subst hx hy
          rw [if_pos ⟨rfl, rfl⟩] at hd
          have HD := Lib.hid hd
          clear hd
          go_wp2_with fail
          refine wp_region_bw (by kernel_rfl) (by kernel_rfl) g ?_
          repeat (go_big_quiet_step ((first
            | (go_at_call 34; with_reducible exact bw_call (HU.out _)))))
          refine wpQuiet_nil ?_
          rintro _ ⟨g3, rfl⟩
          go_wp2_with fail
          go_ret
          exact ⟨ret_i HD.out.symm, by repeat (first | with_reducible exact Below.refl _ _ | with_reducible refine bl_alloc ?_ _ | with_reducible refine bl_drewN ?_ _ | with_reducible refine bl_drew ?_ | (with_reducible refine bl_set ?_ ?_ _; rotate_left; focus (first | (simp; done) | (simp; omega) | omega)) | with_reducible refine below_step ?_ (Bw.below _) | with_reducible refine below_step ?_ (by assumption))⟩
        · rw [if_neg (by omega)] at hd
          have hyf : (y == q) = false := by simp [hy]
          have HD := Lib.hid hd
          clear hd
          go_wp2_with fail
          refine wp_region_bw (by kernel_rfl) (by kernel_rfl) g ?_
          repeat (go_big_quiet_step ((first
            | (go_at_call 34; with_reducible exact bw_call (HU.out _)))))
          refine wpQuiet_nil ?_
          rintro _ ⟨g3, rfl⟩
          go_wp2_with fail
          go_roundw
          case rel => exact ⟨n + 1, by omega, by go_num, HD.out, by repeat (first | with_reducible exact Below.refl _ _ | with_reducible refine bl_alloc ?_ _ | with_reducible refine bl_drewN ?_ _ | with_reducible refine bl_drew ?_ | (with_reducible refine bl_set ?_ ?_ _; rotate_left; focus (first | (simp; done) | (simp; omega) | omega)) | with_reducible refine below_step ?_ (Bw.below _) | with_reducible refine below_step ?_ (by assumption))⟩
          case measure => simp [intOf]; omega
      · rw [if_neg (by omega)] at hd
        have hxf : (x == p) = false := by simp [hx]
        have HD := Lib.hid hd
        clear hd
        go_wp2_with fail
        refine wp_region_bw (by kernel_rfl) (by kernel_rfl) g ?_
        repeat (go_big_quiet_step ((first
          | (go_at_call 34; with_reducible exact bw_call (HU.out _)))))
        refine wpQuiet_nil ?_
        rintro _ ⟨g3, rfl⟩
        go_wp2_with fail
        go_roundw
        case rel => exact ⟨n + 1, by omega, by go_num, HD.out, by repeat (first | with_reducible exact Below.refl _ _ | with_reducible refine bl_alloc ?_ _ | with_reducible refine bl_drewN ?_ _ | with_reducible refine bl_drew ?_ | (with_reducible refine bl_set ?_ ?_ _; rotate_left; focus (first | (simp; done) | (simp; omega) | omega)) | with_reducible refine below_step ?_ (Bw.below _) | with_reducible refine below_step ?_ (by assumption))⟩
        case measure => simp [intOf]; omega
    · obtain rfl : n = 6 := by omega
      rw [show dgF p q (6 - 6) 6 = 0 from rfl] at hd
      have HD := Lib.hid hd
      clear hd
      go_wp2_with fail
      go_ret
      exact ⟨ret_i HD.out.symm, by repeat (first | with_reducible exact Below.refl _ _ | with_reducible refine bl_alloc ?_ _ | with_reducible refine bl_drewN ?_ _ | with_reducible refine bl_drew ?_ | (with_reducible refine bl_set ?_ ?_ _; rotate_left; focus (first | (simp; done) | (simp; omega) | omega)) | with_reducible refine below_step ?_ (Bw.below _) | with_reducible refine below_step ?_ (by assumption))⟩
end Go.Proofs.Ytmipkloleklnkaa

/- EisenTurn: a Unit turned six times is itself; three times it is below nought; two Units side by side differ by a Unit. No condition. -/
import Derived.Test.YtjedegpmpdgckaaRow
import Derived.Test.YtjedegpmpdgckaaAwake2
import Derived.Test.YtjedegpmpdgckaaFit
import Derived.Test.YtjedegpmpdgckaaTame
import Derived.Deep.RegionHeld3
import Derived.Deep.CutRange
namespace Go.Proofs.Ytjedegpmpdgckaa
open Go.RowKit
set_option linter.unusedSimpArgs false
set_option linter.unusedVariables false
theorem bw_of {V W : World} (h : Below V.heap.size V W) : ∃ g : Bw V, g.out = W := ⟨⟨W, h⟩, rfl⟩
/-- A number of the lattice, so many times turned. -/
def tnA (A B : Int) : Nat → Int | 0 => A | 1 => -B | 2 => -(A + B) | 3 => -A | 4 => B | 5 => A + B | _ => A
def tnB (A B : Int) : Nat → Int | 0 => B | 1 => A + B | 2 => A | 3 => -B | 4 => -(A + B) | 5 => -A | _ => B
theorem unit_side (K : Int) : ∃ u v x y dx dy : Int, uA (K % 6) = u ∧ uB (K % 6) = v ∧ uA ((K + 1) % 6) = x ∧ uB ((K + 1) % 6) = y ∧ x - u = dx ∧ y - v = dy ∧ dx * dx + dx * dy + dy * dy = 1 ∧ -1 ≤ u ∧ u ≤ 1 ∧ -1 ≤ v ∧ v ≤ 1 ∧ -1 ≤ x ∧ x ≤ 1 ∧ -1 ≤ y ∧ y ≤ 1 := by
  have hj : (K % 6 = 0 ∧ (K + 1) % 6 = 1) ∨ (K % 6 = 1 ∧ (K + 1) % 6 = 2) ∨ (K % 6 = 2 ∧ (K + 1) % 6 = 3) ∨ (K % 6 = 3 ∧ (K + 1) % 6 = 4) ∨ (K % 6 = 4 ∧ (K + 1) % 6 = 5) ∨ (K % 6 = 5 ∧ (K + 1) % 6 = 0) := by omega
  rcases hj with ⟨h, h'⟩ | ⟨h, h'⟩ | ⟨h, h'⟩ | ⟨h, h'⟩ | ⟨h, h'⟩ | ⟨h, h'⟩ <;> rw [h, h'] <;> exact ⟨_, _, _, _, _, _, rfl, rfl, rfl, rfl, rfl, rfl, by decide, by decide, by decide, by decide, by decide, by decide, by decide, by decide, by decide⟩
set_option maxRecDepth 100000 in
set_option maxHeartbeats 8000000 in
theorem turn_walk (k a b : Int) (hk : -9223372036854775808 ≤ k) (hk' : k ≤ 9223372036854775807) (ha : -9223372036854775808 ≤ a) (ha' : a ≤ 9223372036854775807) (hb : -9223372036854775808 ≤ b) (hb' : b ≤ 9223372036854775807) (w : World) : Calls Try.prog 4 #[.int .i64 k, .agg #[.int .i64 a, .int .i64 b]] w fun e w' => e = .returned (.bool true) ∧ Below w.heap.size w w' := by
  obtain ⟨m1, m2⟩ := tmod_bd a 16384 (by omega)
  obtain ⟨m3, m4⟩ := tmod_bd b 16384 (by omega)
  have TM := Lib.hid (tame_any a b)
  generalize a.tmod 16384 = A at *
  generalize b.tmod 16384 = B at *
  obtain ⟨q1, q2⟩ := mul_bd A A 16384 16384 (by omega) (by omega) (by omega) (by omega)
  obtain ⟨q3, q4⟩ := mul_bd A B 16384 16384 (by omega) (by omega) (by omega) (by omega)
  obtain ⟨q5, q6⟩ := mul_bd B B 16384 16384 (by omega) (by omega) (by omega) (by omega)
  obtain ⟨v, hv⟩ : ∃ v, A * A + A * B + B * B = v := ⟨_, rfl⟩
  have v1 : -2000000000 ≤ v := by omega
  have v2 : v ≤ 2000000000 := by omega
  clear q1 q2 q3 q4 q5 q6
  have hmk : bits .and .i64 k 65535 = k % 65536 := i64_mask k 16 (by omega)
  have kb1 : 0 ≤ k % 65536 := by omega
  have kb2 : k % 65536 ≤ 65535 := by omega
  generalize k % 65536 = K at *
  obtain ⟨u, v', x, y, dx, dy, h1, h2, h3, h4, h5, h6, h7, l1, l2, l3, l4, l5, l6, l7, l8⟩ := unit_side K
  have U0 := Lib.hid (eis_unit_at K u v' h1 h2)
  have U1 := Lib.hid (eis_unit_at (K + 1) x y h3 h4)
  have U6 := Lib.hid (eis_unit_at (K + 6) u v' (by rw [show (K + 6) % 6 = K % 6 by omega]; exact h1) (by rw [show (K + 6) % 6 = K % 6 by omega]; exact h2))
  have U7 := Lib.hid (eis_unit_at (K - 6) u v' (by rw [show (K - 6) % 6 = K % 6 by omega]; exact h1) (by rw [show (K - 6) % 6 = K % 6 by omega]; exact h2))
  have UI := Lib.hid (eis_unit_at 1 0 1 (by decide) (by decide))
  have SB := Lib.hid (eis_sub_fit x y u v' dx dy (by omega) (by omega) (by omega) (by omega) (by omega) (by omega) (by omega) (by omega) (by omega) (by omega) (by omega) (by omega) h5 h6)
  have ND := Lib.hid (eis_norm_fit dx dy 1 (by omega) (by omega) (by omega) (by omega) (by omega) (by omega) h7)
  have M0 := Lib.hid (eis_mul_fit (A) (B) 0 1 (-B) (A + B) (by omega) (by omega) (by omega) (by omega) (by omega) (by omega) (by omega) (by omega) (by omega) (by omega) (by omega) (by omega) (by omega) (by omega))
  have M1 := Lib.hid (eis_mul_fit (-B) (A + B) 0 1 (-(A + B)) (A) (by omega) (by omega) (by omega) (by omega) (by omega) (by omega) (by omega) (by omega) (by omega) (by omega) (by omega) (by omega) (by omega) (by omega))
  have M2 := Lib.hid (eis_mul_fit (-(A + B)) (A) 0 1 (-A) (-B) (by omega) (by omega) (by omega) (by omega) (by omega) (by omega) (by omega) (by omega) (by omega) (by omega) (by omega) (by omega) (by omega) (by omega))
  have M3 := Lib.hid (eis_mul_fit (-A) (-B) 0 1 (B) (-(A + B)) (by omega) (by omega) (by omega) (by omega) (by omega) (by omega) (by omega) (by omega) (by omega) (by omega) (by omega) (by omega) (by omega) (by omega))
  have M4 := Lib.hid (eis_mul_fit (B) (-(A + B)) 0 1 (A + B) (-A) (by omega) (by omega) (by omega) (by omega) (by omega) (by omega) (by omega) (by omega) (by omega) (by omega) (by omega) (by omega) (by omega) (by omega))
  have M5 := Lib.hid (eis_mul_fit (A + B) (-A) 0 1 (A) (B) (by omega) (by omega) (by omega) (by omega) (by omega) (by omega) (by omega) (by omega) (by omega) (by omega) (by omega) (by omega) (by omega) (by omega))
  have N0 := Lib.hid (eis_norm_fit (A) (B) v (by omega) (by omega) (by omega) (by omega) (by omega) (by omega) (by first | exact hv | (rw [← hv]; grind)))
  have N1 := Lib.hid (eis_norm_fit (-B) (A + B) v (by omega) (by omega) (by omega) (by omega) (by omega) (by omega) (by first | exact hv | (rw [← hv]; grind)))
  have N2 := Lib.hid (eis_norm_fit (-(A + B)) (A) v (by omega) (by omega) (by omega) (by omega) (by omega) (by omega) (by first | exact hv | (rw [← hv]; grind)))
  have N3 := Lib.hid (eis_norm_fit (-A) (-B) v (by omega) (by omega) (by omega) (by omega) (by omega) (by omega) (by first | exact hv | (rw [← hv]; grind)))
  have N4 := Lib.hid (eis_norm_fit (B) (-(A + B)) v (by omega) (by omega) (by omega) (by omega) (by omega) (by omega) (by first | exact hv | (rw [← hv]; grind)))
  have N5 := Lib.hid (eis_norm_fit (A + B) (-A) v (by omega) (by omega) (by omega) (by omega) (by omega) (by omega) (by first | exact hv | (rw [← hv]; grind)))
  have N6 := Lib.hid (eis_norm_fit (A) (B) v (by omega) (by omega) (by omega) (by omega) (by omega) (by omega) (by first | exact hv | (rw [← hv]; grind)))
  clear h1 h2 h3 h4 h5 h6 h7 l1 l2 l3 l4 l5 l6 l7 l8 hv v1 v2 hk hk' ha ha' hb hb'
  go_enter Try.func4, Try.ntmps4
  go_wp2_with fail
  refine calls_start (fun V => V.cell? ⟨w.heap.size, 0, none⟩ = some (.int .i64 a) ∧ V.frozen? ⟨w.heap.size, 0, none⟩ = false ∧ V.cell? ⟨w.heap.size, 1, none⟩ = some (.int .i64 b) ∧ V.frozen? ⟨w.heap.size, 1, none⟩ = false ∧ Below w.heap.size w V) ⟨by first | with_reducible assumption | (simp [go_sem]; done), by first | with_reducible assumption | (simp [go_sem]; done), by first | with_reducible assumption | (simp [go_sem]; done), by first | with_reducible assumption | (simp [go_sem]; done), by repeat (first | with_reducible exact Below.refl _ _ | with_reducible refine bl_alloc ?_ _ | with_reducible refine bl_drewN ?_ _ | with_reducible refine bl_drew ?_ | (with_reducible refine bl_set ?_ ?_ _; rotate_left; focus (first | (simp; done) | (simp; omega) | omega)) | with_reducible refine below_step ?_ (Bw.below _) | with_reducible refine below_step ?_ (by assumption))⟩ ?_
  rintro V ⟨hc1, fc1, hc2, fc2, hWc⟩ gc
  have c1 := Bw.hold hc1
  have cf1 := Bw.free hc1 fc1
  have c2 := Bw.hold hc2
  have cf2 := Bw.free hc2 fc2
  have cz1 := fun g : Bw V => cell_lt (c1 g)
  have cy1 := fun g : Bw V => Nat.le_of_lt (cz1 g)
  clear hc1 fc1 hc2 fc2
  refine (TM.out _).mono ?_
  rintro e_g2 w_g2 ⟨rfl, hb_g2⟩
  obtain ⟨g2, rfl⟩ := gc.next hb_g2
  clear hb_g2
  go_wp2_with fail
  go_loopw [6] (fun i W => ∃ n : Nat, n ≤ 6 ∧ i = .int .i64 n ∧ W.cell? ⟨g2.out.heap.size, 0, none⟩ = some (.int .i64 (tnA A B n)) ∧ W.cell? ⟨g2.out.heap.size, 1, none⟩ = some (.int .i64 (tnB A B n)) ∧ W.frozen? ⟨g2.out.heap.size, 0, none⟩ = false ∧ W.frozen? ⟨g2.out.heap.size, 1, none⟩ = false
    ∧ W.cell? ⟨w.heap.size, 0, none⟩ = some (.int .i64 A) ∧ W.cell? ⟨w.heap.size, 1, none⟩ = some (.int .i64 B) ∧ w.heap.size < g2.out.heap.size ∧ Below w.heap.size w W) (fun i _ => 6 - (intOf i).toNat)
  case atStart => exact ⟨0, by omega, rfl, by simp [go_sem, tnA], by simp [go_sem, tnB], by simp [go_sem], by simp [go_sem], by simp [go_sem, c1, c2, cz1], by simp [go_sem, c1, c2, cz1], cz1 _, by repeat (first | with_reducible exact Below.refl _ _ | with_reducible refine bl_alloc ?_ _ | with_reducible refine bl_drewN ?_ _ | with_reducible refine bl_drew ?_ | (with_reducible refine bl_set ?_ ?_ _; rotate_left; focus (first | (simp; done) | (simp; omega) | omega)) | with_reducible refine below_step ?_ (Bw.below _) | with_reducible refine below_step ?_ (by assumption))⟩
  case round =>
    obtain ⟨n, hn, rfl, e1, e2, ef1, ef2, e3, e4, hsz, hb⟩ := hrel
    rcases (show n = 0 ∨ n = 1 ∨ n = 2 ∨ n = 3 ∨ n = 4 ∨ n = 5 ∨ n = 6 by omega) with rfl | rfl | rfl | rfl | rfl | rfl | rfl
    · simp only [tnA, tnB] at e1 e2
      go_upto_region 9 with fail
      go_cut [7, 8] from 24 to 72 (fun s7 s8 wx => ∃ b1 : Nat, s7 = .pointer (some ⟨b1, 0, none⟩) ∧ s8 = .bool true ∧ wx.cell? ⟨b1, 0, none⟩ = some (.int .i64 (-B)) ∧ wx.cell? ⟨b1, 1, none⟩ = some (.int .i64 (A + B)) ∧ Below wr.heap.size wr wx)
      case first =>
        clear ef1 ef2 e3 e4 hb
        have smk : ∀ w' : World, Below wr.heap.size wr w' → Below wr.heap.size wr w' ∧ w'.cell? ⟨g2.out.heap.size, 0, none⟩ = some (.int .i64 (A)) ∧ w'.cell? ⟨g2.out.heap.size, 1, none⟩ = some (.int .i64 (B)) := fun w' hw => ⟨hw, bl_hold hw e1, bl_hold hw e2⟩
        go_region_held3 (fun w' => Below wr.heap.size wr w' ∧ w'.cell? ⟨g2.out.heap.size, 0, none⟩ = some (.int .i64 (A)) ∧ w'.cell? ⟨g2.out.heap.size, 1, none⟩ = some (.int .i64 (B)))
          (exact smk _ (by repeat (first | with_reducible exact Below.refl _ _ | with_reducible refine bl_alloc ?_ _ | with_reducible refine bl_drew ?_ | (with_reducible refine bl_set ?_ ?_ _; rotate_left; focus (first | (simp; done) | (simp; omega) | omega)) | with_reducible exact And.left (by assumption) | with_reducible refine below_step ?_ (by assumption))))
          (first
            | (go_at_call 16; refine (UI.out _).mono ?_; rintro e w8 ⟨rfl, hb8⟩; obtain ⟨hcell8, hfree8⟩ := bcell hb8; (try (have hm8 : wr.heap.size ≤ w8.heap.size := by have := hb8.size; simp at this; omega)); (try (have hl8 : wr.heap.size < w8.heap.size := by have := hb8.size; simp at this; omega)))
            | (go_at_call 20; refine (M0.out _).mono ?_; rintro e w9 ⟨rfl, hb9⟩; obtain ⟨hcell, hfree⟩ := bcell hb9; (try (have hl9 : w8.heap.size < w9.heap.size := by have := hb9.size; simp at this; omega))))
        all_goals (go_wp2_with fail; go_meet; exact ⟨_, rfl, rfl, by first | (simp [go_sem]; done) | (simp [go_sem, *]; done), by first | (simp [go_sem]; done) | (simp [go_sem, *]; done), by repeat (first | with_reducible exact Below.refl _ _ | with_reducible refine bl_alloc ?_ _ | with_reducible refine bl_drew ?_ | (with_reducible refine bl_set ?_ ?_ _; rotate_left; focus (first | (simp; done) | (simp; omega) | omega)) | with_reducible exact And.left (by assumption) | with_reducible refine below_step ?_ (by assumption))⟩)
      case rest =>
        obtain ⟨b1, rfl, rfl, y1, y2, hbx⟩ := hcut
        have y3 := bl_hold hbx e1
        have y4 := bl_hold hbx e2
        have y5 := bl_free hbx e1 ef1
        have y6 := bl_free hbx e2 ef2
        have y7 := bl_hold hbx e3
        have y8 := bl_hold hbx e4
        have hbw := below_step hb hbx
        clear e1 e2 ef1 ef2 e3 e4 hb hbx
        go_wp2_with fail
        refine calls_start (fun V3 => V3.cell? ⟨g2.out.heap.size, 0, none⟩ = some (.int .i64 A) ∧ V3.frozen? ⟨g2.out.heap.size, 0, none⟩ = false ∧ V3.cell? ⟨g2.out.heap.size, 1, none⟩ = some (.int .i64 B) ∧ V3.frozen? ⟨g2.out.heap.size, 1, none⟩ = false ∧ V3.cell? ⟨w.heap.size, 0, none⟩ = some (.int .i64 A) ∧ V3.cell? ⟨w.heap.size, 1, none⟩ = some (.int .i64 B) ∧ V3.cell? ⟨b1, 0, none⟩ = some (.int .i64 (-B)) ∧ V3.cell? ⟨b1, 1, none⟩ = some (.int .i64 (A + B)) ∧ Below w.heap.size w V3) ⟨by first | with_reducible assumption | (simp [go_sem]; done), by first | with_reducible assumption | (simp [go_sem]; done), by first | with_reducible assumption | (simp [go_sem]; done), by first | with_reducible assumption | (simp [go_sem]; done), by first | with_reducible assumption | (simp [go_sem]; done), by first | with_reducible assumption | (simp [go_sem]; done), by first | with_reducible assumption | (simp [go_sem]; done), by first | with_reducible assumption | (simp [go_sem]; done), by repeat (first | with_reducible exact Below.refl _ _ | with_reducible refine bl_alloc ?_ _ | with_reducible refine bl_drewN ?_ _ | with_reducible refine bl_drew ?_ | (with_reducible refine bl_set ?_ ?_ _; rotate_left; focus (first | (simp; done) | (simp; omega) | omega)) | with_reducible refine below_step ?_ (Bw.below _) | with_reducible refine below_step ?_ (by assumption))⟩ ?_
        rintro V3 ⟨hd1, fd1, hd2, fd2, hd3, hd4, hd5, hd6, hWd⟩ gd
        have d1 := Bw.hold hd1
        have df1 := Bw.free hd1 fd1
        have d2 := Bw.hold hd2
        have df2 := Bw.free hd2 fd2
        have d3 := Bw.hold hd3
        have d4 := Bw.hold hd4
        have d5 := Bw.hold hd5
        have d6 := Bw.hold hd6
        have dz1 := fun g : Bw V3 => cell_lt (d1 g)
        have dy1 := fun g : Bw V3 => Nat.le_of_lt (dz1 g)
        have dz3 := fun g : Bw V3 => cell_lt (d3 g)
        have dy3 := fun g : Bw V3 => Nat.le_of_lt (dz3 g)
        have dz5 := fun g : Bw V3 => cell_lt (d5 g)
        have dy5 := fun g : Bw V3 => Nat.le_of_lt (dz5 g)
        clear hd1 fd1 hd2 fd2 hd3 hd4 hd5 hd6
        clear y1 y2 y3 y4 y5 y6 y7 y8 hbw
        refine (N1.out _).mono ?_
        rintro e_g5 w_g5 ⟨rfl, hb_g5⟩
        obtain ⟨g5, rfl⟩ := gd.next hb_g5
        clear hb_g5
        go_wp2_with fail
        refine (N0.out _).mono ?_
        rintro e_g6 w_g6 ⟨rfl, hb_g6⟩
        obtain ⟨g6, rfl⟩ := g5.next hb_g6
        clear hb_g6
        go_wp2_with fail
        go_roundw
        case rel => exact ⟨1, by omega, by go_num, by simp [go_sem, d1, d2, tnA], by simp [go_sem, d1, d2, tnB], by first | (simp [go_sem]; done) | (simp [go_sem, df1, df2]; done), by first | (simp [go_sem]; done) | (simp [go_sem, df1, df2]; done), by simp [go_sem, d3, d4], by simp [go_sem, d3, d4], hsz, by repeat (first | with_reducible exact Below.refl _ _ | with_reducible refine bl_alloc ?_ _ | with_reducible refine bl_drewN ?_ _ | with_reducible refine bl_drew ?_ | (with_reducible refine bl_set ?_ ?_ _; rotate_left; focus (first | (simp; done) | (simp; omega) | omega)) | with_reducible refine below_step ?_ (Bw.below _) | with_reducible refine below_step ?_ (by assumption))⟩
        case measure => simp [intOf]
    · simp only [tnA, tnB] at e1 e2
      go_upto_region 9 with fail
      go_cut [7, 8] from 24 to 72 (fun s7 s8 wx => ∃ b1 : Nat, s7 = .pointer (some ⟨b1, 0, none⟩) ∧ s8 = .bool true ∧ wx.cell? ⟨b1, 0, none⟩ = some (.int .i64 (-(A + B))) ∧ wx.cell? ⟨b1, 1, none⟩ = some (.int .i64 (A)) ∧ Below wr.heap.size wr wx)
      case first =>
        clear ef1 ef2 e3 e4 hb
        have smk : ∀ w' : World, Below wr.heap.size wr w' → Below wr.heap.size wr w' ∧ w'.cell? ⟨g2.out.heap.size, 0, none⟩ = some (.int .i64 (-B)) ∧ w'.cell? ⟨g2.out.heap.size, 1, none⟩ = some (.int .i64 (A + B)) := fun w' hw => ⟨hw, bl_hold hw e1, bl_hold hw e2⟩
        go_region_held3 (fun w' => Below wr.heap.size wr w' ∧ w'.cell? ⟨g2.out.heap.size, 0, none⟩ = some (.int .i64 (-B)) ∧ w'.cell? ⟨g2.out.heap.size, 1, none⟩ = some (.int .i64 (A + B)))
          (exact smk _ (by repeat (first | with_reducible exact Below.refl _ _ | with_reducible refine bl_alloc ?_ _ | with_reducible refine bl_drew ?_ | (with_reducible refine bl_set ?_ ?_ _; rotate_left; focus (first | (simp; done) | (simp; omega) | omega)) | with_reducible exact And.left (by assumption) | with_reducible refine below_step ?_ (by assumption))))
          (first
            | (go_at_call 16; refine (UI.out _).mono ?_; rintro e w8 ⟨rfl, hb8⟩; obtain ⟨hcell8, hfree8⟩ := bcell hb8; (try (have hm8 : wr.heap.size ≤ w8.heap.size := by have := hb8.size; simp at this; omega)); (try (have hl8 : wr.heap.size < w8.heap.size := by have := hb8.size; simp at this; omega)))
            | (go_at_call 20; refine (M1.out _).mono ?_; rintro e w9 ⟨rfl, hb9⟩; obtain ⟨hcell, hfree⟩ := bcell hb9; (try (have hl9 : w8.heap.size < w9.heap.size := by have := hb9.size; simp at this; omega))))
        all_goals (go_wp2_with fail; go_meet; exact ⟨_, rfl, rfl, by first | (simp [go_sem]; done) | (simp [go_sem, *]; done), by first | (simp [go_sem]; done) | (simp [go_sem, *]; done), by repeat (first | with_reducible exact Below.refl _ _ | with_reducible refine bl_alloc ?_ _ | with_reducible refine bl_drew ?_ | (with_reducible refine bl_set ?_ ?_ _; rotate_left; focus (first | (simp; done) | (simp; omega) | omega)) | with_reducible exact And.left (by assumption) | with_reducible refine below_step ?_ (by assumption))⟩)
      case rest =>
        obtain ⟨b1, rfl, rfl, y1, y2, hbx⟩ := hcut
        have y3 := bl_hold hbx e1
        have y4 := bl_hold hbx e2
        have y5 := bl_free hbx e1 ef1
        have y6 := bl_free hbx e2 ef2
        have y7 := bl_hold hbx e3
        have y8 := bl_hold hbx e4
        have hbw := below_step hb hbx
        clear e1 e2 ef1 ef2 e3 e4 hb hbx
        go_wp2_with fail
        refine calls_start (fun V3 => V3.cell? ⟨g2.out.heap.size, 0, none⟩ = some (.int .i64 (-B)) ∧ V3.frozen? ⟨g2.out.heap.size, 0, none⟩ = false ∧ V3.cell? ⟨g2.out.heap.size, 1, none⟩ = some (.int .i64 (A + B)) ∧ V3.frozen? ⟨g2.out.heap.size, 1, none⟩ = false ∧ V3.cell? ⟨w.heap.size, 0, none⟩ = some (.int .i64 A) ∧ V3.cell? ⟨w.heap.size, 1, none⟩ = some (.int .i64 B) ∧ V3.cell? ⟨b1, 0, none⟩ = some (.int .i64 (-(A + B))) ∧ V3.cell? ⟨b1, 1, none⟩ = some (.int .i64 A) ∧ Below w.heap.size w V3) ⟨by first | with_reducible assumption | (simp [go_sem]; done), by first | with_reducible assumption | (simp [go_sem]; done), by first | with_reducible assumption | (simp [go_sem]; done), by first | with_reducible assumption | (simp [go_sem]; done), by first | with_reducible assumption | (simp [go_sem]; done), by first | with_reducible assumption | (simp [go_sem]; done), by first | with_reducible assumption | (simp [go_sem]; done), by first | with_reducible assumption | (simp [go_sem]; done), by repeat (first | with_reducible exact Below.refl _ _ | with_reducible refine bl_alloc ?_ _ | with_reducible refine bl_drewN ?_ _ | with_reducible refine bl_drew ?_ | (with_reducible refine bl_set ?_ ?_ _; rotate_left; focus (first | (simp; done) | (simp; omega) | omega)) | with_reducible refine below_step ?_ (Bw.below _) | with_reducible refine below_step ?_ (by assumption))⟩ ?_
        rintro V3 ⟨hd1, fd1, hd2, fd2, hd3, hd4, hd5, hd6, hWd⟩ gd
        have d1 := Bw.hold hd1
        have df1 := Bw.free hd1 fd1
        have d2 := Bw.hold hd2
        have df2 := Bw.free hd2 fd2
        have d3 := Bw.hold hd3
        have d4 := Bw.hold hd4
        have d5 := Bw.hold hd5
        have d6 := Bw.hold hd6
        have dz1 := fun g : Bw V3 => cell_lt (d1 g)
        have dy1 := fun g : Bw V3 => Nat.le_of_lt (dz1 g)
        have dz3 := fun g : Bw V3 => cell_lt (d3 g)
        have dy3 := fun g : Bw V3 => Nat.le_of_lt (dz3 g)
        have dz5 := fun g : Bw V3 => cell_lt (d5 g)
        have dy5 := fun g : Bw V3 => Nat.le_of_lt (dz5 g)
        clear hd1 fd1 hd2 fd2 hd3 hd4 hd5 hd6
        clear y1 y2 y3 y4 y5 y6 y7 y8 hbw
        refine (N2.out _).mono ?_
        rintro e_g5 w_g5 ⟨rfl, hb_g5⟩
        obtain ⟨g5, rfl⟩ := gd.next hb_g5
        clear hb_g5
        go_wp2_with fail
        refine (N1.out _).mono ?_
        rintro e_g6 w_g6 ⟨rfl, hb_g6⟩
        obtain ⟨g6, rfl⟩ := g5.next hb_g6
        clear hb_g6
        go_wp2_with fail
        go_roundw
        case rel => exact ⟨2, by omega, by go_num, by simp [go_sem, d1, d2, tnA], by simp [go_sem, d1, d2, tnB], by first | (simp [go_sem]; done) | (simp [go_sem, df1, df2]; done), by first | (simp [go_sem]; done) | (simp [go_sem, df1, df2]; done), by simp [go_sem, d3, d4], by simp [go_sem, d3, d4], hsz, by repeat (first | with_reducible exact Below.refl _ _ | with_reducible refine bl_alloc ?_ _ | with_reducible refine bl_drewN ?_ _ | with_reducible refine bl_drew ?_ | (with_reducible refine bl_set ?_ ?_ _; rotate_left; focus (first | (simp; done) | (simp; omega) | omega)) | with_reducible refine below_step ?_ (Bw.below _) | with_reducible refine below_step ?_ (by assumption))⟩
        case measure => simp [intOf]
    · simp only [tnA, tnB] at e1 e2
      go_upto_region 9 with fail
      go_cut [7, 8] from 24 to 72 (fun s7 s8 wx => ∃ b1 : Nat, s7 = .pointer (some ⟨b1, 0, none⟩) ∧ s8 = .bool true ∧ wx.cell? ⟨b1, 0, none⟩ = some (.int .i64 (-A)) ∧ wx.cell? ⟨b1, 1, none⟩ = some (.int .i64 (-B)) ∧ Below wr.heap.size wr wx)
      case first =>
        clear ef1 ef2 e3 e4 hb
        have smk : ∀ w' : World, Below wr.heap.size wr w' → Below wr.heap.size wr w' ∧ w'.cell? ⟨g2.out.heap.size, 0, none⟩ = some (.int .i64 (-(A + B))) ∧ w'.cell? ⟨g2.out.heap.size, 1, none⟩ = some (.int .i64 (A)) := fun w' hw => ⟨hw, bl_hold hw e1, bl_hold hw e2⟩
        go_region_held3 (fun w' => Below wr.heap.size wr w' ∧ w'.cell? ⟨g2.out.heap.size, 0, none⟩ = some (.int .i64 (-(A + B))) ∧ w'.cell? ⟨g2.out.heap.size, 1, none⟩ = some (.int .i64 (A)))
          (exact smk _ (by repeat (first | with_reducible exact Below.refl _ _ | with_reducible refine bl_alloc ?_ _ | with_reducible refine bl_drew ?_ | (with_reducible refine bl_set ?_ ?_ _; rotate_left; focus (first | (simp; done) | (simp; omega) | omega)) | with_reducible exact And.left (by assumption) | with_reducible refine below_step ?_ (by assumption))))
          (first
            | (go_at_call 16; refine (UI.out _).mono ?_; rintro e w8 ⟨rfl, hb8⟩; obtain ⟨hcell8, hfree8⟩ := bcell hb8; (try (have hm8 : wr.heap.size ≤ w8.heap.size := by have := hb8.size; simp at this; omega)); (try (have hl8 : wr.heap.size < w8.heap.size := by have := hb8.size; simp at this; omega)))
            | (go_at_call 20; refine (M2.out _).mono ?_; rintro e w9 ⟨rfl, hb9⟩; obtain ⟨hcell, hfree⟩ := bcell hb9; (try (have hl9 : w8.heap.size < w9.heap.size := by have := hb9.size; simp at this; omega))))
        all_goals (go_wp2_with fail; go_meet; exact ⟨_, rfl, rfl, by first | (simp [go_sem]; done) | (simp [go_sem, *]; done), by first | (simp [go_sem]; done) | (simp [go_sem, *]; done), by repeat (first | with_reducible exact Below.refl _ _ | with_reducible refine bl_alloc ?_ _ | with_reducible refine bl_drew ?_ | (with_reducible refine bl_set ?_ ?_ _; rotate_left; focus (first | (simp; done) | (simp; omega) | omega)) | with_reducible exact And.left (by assumption) | with_reducible refine below_step ?_ (by assumption))⟩)
      case rest =>
        obtain ⟨b1, rfl, rfl, y1, y2, hbx⟩ := hcut
        have y3 := bl_hold hbx e1
        have y4 := bl_hold hbx e2
        have y5 := bl_free hbx e1 ef1
        have y6 := bl_free hbx e2 ef2
        have y7 := bl_hold hbx e3
        have y8 := bl_hold hbx e4
        have hbw := below_step hb hbx
        clear e1 e2 ef1 ef2 e3 e4 hb hbx
        go_wp2_with fail
        refine calls_start (fun V3 => V3.cell? ⟨g2.out.heap.size, 0, none⟩ = some (.int .i64 (-(A + B))) ∧ V3.frozen? ⟨g2.out.heap.size, 0, none⟩ = false ∧ V3.cell? ⟨g2.out.heap.size, 1, none⟩ = some (.int .i64 A) ∧ V3.frozen? ⟨g2.out.heap.size, 1, none⟩ = false ∧ V3.cell? ⟨w.heap.size, 0, none⟩ = some (.int .i64 A) ∧ V3.cell? ⟨w.heap.size, 1, none⟩ = some (.int .i64 B) ∧ V3.cell? ⟨b1, 0, none⟩ = some (.int .i64 (-A)) ∧ V3.cell? ⟨b1, 1, none⟩ = some (.int .i64 (-B)) ∧ Below w.heap.size w V3) ⟨by first | with_reducible assumption | (simp [go_sem]; done), by first | with_reducible assumption | (simp [go_sem]; done), by first | with_reducible assumption | (simp [go_sem]; done), by first | with_reducible assumption | (simp [go_sem]; done), by first | with_reducible assumption | (simp [go_sem]; done), by first | with_reducible assumption | (simp [go_sem]; done), by first | with_reducible assumption | (simp [go_sem]; done), by first | with_reducible assumption | (simp [go_sem]; done), by repeat (first | with_reducible exact Below.refl _ _ | with_reducible refine bl_alloc ?_ _ | with_reducible refine bl_drewN ?_ _ | with_reducible refine bl_drew ?_ | (with_reducible refine bl_set ?_ ?_ _; rotate_left; focus (first | (simp; done) | (simp; omega) | omega)) | with_reducible refine below_step ?_ (Bw.below _) | with_reducible refine below_step ?_ (by assumption))⟩ ?_
        rintro V3 ⟨hd1, fd1, hd2, fd2, hd3, hd4, hd5, hd6, hWd⟩ gd
        have d1 := Bw.hold hd1
        have df1 := Bw.free hd1 fd1
        have d2 := Bw.hold hd2
        have df2 := Bw.free hd2 fd2
        have d3 := Bw.hold hd3
        have d4 := Bw.hold hd4
        have d5 := Bw.hold hd5
        have d6 := Bw.hold hd6
        have dz1 := fun g : Bw V3 => cell_lt (d1 g)
        have dy1 := fun g : Bw V3 => Nat.le_of_lt (dz1 g)
        have dz3 := fun g : Bw V3 => cell_lt (d3 g)
        have dy3 := fun g : Bw V3 => Nat.le_of_lt (dz3 g)
        have dz5 := fun g : Bw V3 => cell_lt (d5 g)
        have dy5 := fun g : Bw V3 => Nat.le_of_lt (dz5 g)
        clear hd1 fd1 hd2 fd2 hd3 hd4 hd5 hd6
        clear y1 y2 y3 y4 y5 y6 y7 y8 hbw
        refine (N3.out _).mono ?_
        rintro e_g5 w_g5 ⟨rfl, hb_g5⟩
        obtain ⟨g5, rfl⟩ := gd.next hb_g5
        clear hb_g5
        go_wp2_with fail
        refine (N2.out _).mono ?_
        rintro e_g6 w_g6 ⟨rfl, hb_g6⟩
        obtain ⟨g6, rfl⟩ := g5.next hb_g6
        clear hb_g6
        go_wp2_with fail
        go_roundw
        case rel => exact ⟨3, by omega, by go_num, by simp [go_sem, d1, d2, tnA], by simp [go_sem, d1, d2, tnB], by first | (simp [go_sem]; done) | (simp [go_sem, df1, df2]; done), by first | (simp [go_sem]; done) | (simp [go_sem, df1, df2]; done), by simp [go_sem, d3, d4], by simp [go_sem, d3, d4], hsz, by repeat (first | with_reducible exact Below.refl _ _ | with_reducible refine bl_alloc ?_ _ | with_reducible refine bl_drewN ?_ _ | with_reducible refine bl_drew ?_ | (with_reducible refine bl_set ?_ ?_ _; rotate_left; focus (first | (simp; done) | (simp; omega) | omega)) | with_reducible refine below_step ?_ (Bw.below _) | with_reducible refine below_step ?_ (by assumption))⟩
        case measure => simp [intOf]
    · simp only [tnA, tnB] at e1 e2
      go_upto_region 9 with fail
      go_cut [7, 8] from 24 to 72 (fun s7 s8 wx => ∃ b1 : Nat, s7 = .pointer (some ⟨b1, 0, none⟩) ∧ s8 = .bool true ∧ wx.cell? ⟨b1, 0, none⟩ = some (.int .i64 (B)) ∧ wx.cell? ⟨b1, 1, none⟩ = some (.int .i64 (-(A + B))) ∧ Below wr.heap.size wr wx)
      case first =>
        clear ef1 ef2 e3 e4 hb
        have smk : ∀ w' : World, Below wr.heap.size wr w' → Below wr.heap.size wr w' ∧ w'.cell? ⟨g2.out.heap.size, 0, none⟩ = some (.int .i64 (-A)) ∧ w'.cell? ⟨g2.out.heap.size, 1, none⟩ = some (.int .i64 (-B)) := fun w' hw => ⟨hw, bl_hold hw e1, bl_hold hw e2⟩
        go_region_held3 (fun w' => Below wr.heap.size wr w' ∧ w'.cell? ⟨g2.out.heap.size, 0, none⟩ = some (.int .i64 (-A)) ∧ w'.cell? ⟨g2.out.heap.size, 1, none⟩ = some (.int .i64 (-B)))
          (exact smk _ (by repeat (first | with_reducible exact Below.refl _ _ | with_reducible refine bl_alloc ?_ _ | with_reducible refine bl_drew ?_ | (with_reducible refine bl_set ?_ ?_ _; rotate_left; focus (first | (simp; done) | (simp; omega) | omega)) | with_reducible exact And.left (by assumption) | with_reducible refine below_step ?_ (by assumption))))
          (first
            | (go_at_call 16; refine (UI.out _).mono ?_; rintro e w8 ⟨rfl, hb8⟩; obtain ⟨hcell8, hfree8⟩ := bcell hb8; (try (have hm8 : wr.heap.size ≤ w8.heap.size := by have := hb8.size; simp at this; omega)); (try (have hl8 : wr.heap.size < w8.heap.size := by have := hb8.size; simp at this; omega)))
            | (go_at_call 20; refine (M3.out _).mono ?_; rintro e w9 ⟨rfl, hb9⟩; obtain ⟨hcell, hfree⟩ := bcell hb9; (try (have hl9 : w8.heap.size < w9.heap.size := by have := hb9.size; simp at this; omega))))
        all_goals (go_wp2_with fail; go_meet; exact ⟨_, rfl, rfl, by first | (simp [go_sem]; done) | (simp [go_sem, *]; done), by first | (simp [go_sem]; done) | (simp [go_sem, *]; done), by repeat (first | with_reducible exact Below.refl _ _ | with_reducible refine bl_alloc ?_ _ | with_reducible refine bl_drew ?_ | (with_reducible refine bl_set ?_ ?_ _; rotate_left; focus (first | (simp; done) | (simp; omega) | omega)) | with_reducible exact And.left (by assumption) | with_reducible refine below_step ?_ (by assumption))⟩)
      case rest =>
        obtain ⟨b1, rfl, rfl, y1, y2, hbx⟩ := hcut
        have y3 := bl_hold hbx e1
        have y4 := bl_hold hbx e2
        have y5 := bl_free hbx e1 ef1
        have y6 := bl_free hbx e2 ef2
        have y7 := bl_hold hbx e3
        have y8 := bl_hold hbx e4
        have hbw := below_step hb hbx
        clear e1 e2 ef1 ef2 e3 e4 hb hbx
        go_wp2_with fail
        refine calls_start (fun V3 => V3.cell? ⟨g2.out.heap.size, 0, none⟩ = some (.int .i64 (-A)) ∧ V3.frozen? ⟨g2.out.heap.size, 0, none⟩ = false ∧ V3.cell? ⟨g2.out.heap.size, 1, none⟩ = some (.int .i64 (-B)) ∧ V3.frozen? ⟨g2.out.heap.size, 1, none⟩ = false ∧ V3.cell? ⟨w.heap.size, 0, none⟩ = some (.int .i64 A) ∧ V3.cell? ⟨w.heap.size, 1, none⟩ = some (.int .i64 B) ∧ V3.cell? ⟨b1, 0, none⟩ = some (.int .i64 B) ∧ V3.cell? ⟨b1, 1, none⟩ = some (.int .i64 (-(A + B))) ∧ Below w.heap.size w V3) ⟨by first | with_reducible assumption | (simp [go_sem]; done), by first | with_reducible assumption | (simp [go_sem]; done), by first | with_reducible assumption | (simp [go_sem]; done), by first | with_reducible assumption | (simp [go_sem]; done), by first | with_reducible assumption | (simp [go_sem]; done), by first | with_reducible assumption | (simp [go_sem]; done), by first | with_reducible assumption | (simp [go_sem]; done), by first | with_reducible assumption | (simp [go_sem]; done), by repeat (first | with_reducible exact Below.refl _ _ | with_reducible refine bl_alloc ?_ _ | with_reducible refine bl_drewN ?_ _ | with_reducible refine bl_drew ?_ | (with_reducible refine bl_set ?_ ?_ _; rotate_left; focus (first | (simp; done) | (simp; omega) | omega)) | with_reducible refine below_step ?_ (Bw.below _) | with_reducible refine below_step ?_ (by assumption))⟩ ?_
        rintro V3 ⟨hd1, fd1, hd2, fd2, hd3, hd4, hd5, hd6, hWd⟩ gd
        have d1 := Bw.hold hd1
        have df1 := Bw.free hd1 fd1
        have d2 := Bw.hold hd2
        have df2 := Bw.free hd2 fd2
        have d3 := Bw.hold hd3
        have d4 := Bw.hold hd4
        have d5 := Bw.hold hd5
        have d6 := Bw.hold hd6
        have dz1 := fun g : Bw V3 => cell_lt (d1 g)
        have dy1 := fun g : Bw V3 => Nat.le_of_lt (dz1 g)
        have dz3 := fun g : Bw V3 => cell_lt (d3 g)
        have dy3 := fun g : Bw V3 => Nat.le_of_lt (dz3 g)
        have dz5 := fun g : Bw V3 => cell_lt (d5 g)
        have dy5 := fun g : Bw V3 => Nat.le_of_lt (dz5 g)
        clear hd1 fd1 hd2 fd2 hd3 hd4 hd5 hd6
        clear y1 y2 y3 y4 y5 y6 y7 y8 hbw
        refine (N4.out _).mono ?_
        rintro e_g5 w_g5 ⟨rfl, hb_g5⟩
        obtain ⟨g5, rfl⟩ := gd.next hb_g5
        clear hb_g5
        go_wp2_with fail
        refine (N3.out _).mono ?_
        rintro e_g6 w_g6 ⟨rfl, hb_g6⟩
        obtain ⟨g6, rfl⟩ := g5.next hb_g6
        clear hb_g6
        go_wp2_with fail
        go_roundw
        case rel => exact ⟨4, by omega, by go_num, by simp [go_sem, d1, d2, tnA], by simp [go_sem, d1, d2, tnB], by first | (simp [go_sem]; done) | (simp [go_sem, df1, df2]; done), by first | (simp [go_sem]; done) | (simp [go_sem, df1, df2]; done), by simp [go_sem, d3, d4], by simp [go_sem, d3, d4], hsz, by repeat (first | with_reducible exact Below.refl _ _ | with_reducible refine bl_alloc ?_ _ | with_reducible refine bl_drewN ?_ _ | with_reducible refine bl_drew ?_ | (with_reducible refine bl_set ?_ ?_ _; rotate_left; focus (first | (simp; done) | (simp; omega) | omega)) | with_reducible refine below_step ?_ (Bw.below _) | with_reducible refine below_step ?_ (by assumption))⟩
        case measure => simp [intOf]
    · simp only [tnA, tnB] at e1 e2
      go_upto_region 9 with fail
      go_cut [7, 8] from 24 to 72 (fun s7 s8 wx => ∃ b1 : Nat, s7 = .pointer (some ⟨b1, 0, none⟩) ∧ s8 = .bool true ∧ wx.cell? ⟨b1, 0, none⟩ = some (.int .i64 (A + B)) ∧ wx.cell? ⟨b1, 1, none⟩ = some (.int .i64 (-A)) ∧ Below wr.heap.size wr wx)
      case first =>
        clear ef1 ef2 e3 e4 hb
        have smk : ∀ w' : World, Below wr.heap.size wr w' → Below wr.heap.size wr w' ∧ w'.cell? ⟨g2.out.heap.size, 0, none⟩ = some (.int .i64 (B)) ∧ w'.cell? ⟨g2.out.heap.size, 1, none⟩ = some (.int .i64 (-(A + B))) := fun w' hw => ⟨hw, bl_hold hw e1, bl_hold hw e2⟩
        go_region_held3 (fun w' => Below wr.heap.size wr w' ∧ w'.cell? ⟨g2.out.heap.size, 0, none⟩ = some (.int .i64 (B)) ∧ w'.cell? ⟨g2.out.heap.size, 1, none⟩ = some (.int .i64 (-(A + B))))
          (exact smk _ (by repeat (first | with_reducible exact Below.refl _ _ | with_reducible refine bl_alloc ?_ _ | with_reducible refine bl_drew ?_ | (with_reducible refine bl_set ?_ ?_ _; rotate_left; focus (first | (simp; done) | (simp; omega) | omega)) | with_reducible exact And.left (by assumption) | with_reducible refine below_step ?_ (by assumption))))
          (first
            | (go_at_call 16; refine (UI.out _).mono ?_; rintro e w8 ⟨rfl, hb8⟩; obtain ⟨hcell8, hfree8⟩ := bcell hb8; (try (have hm8 : wr.heap.size ≤ w8.heap.size := by have := hb8.size; simp at this; omega)); (try (have hl8 : wr.heap.size < w8.heap.size := by have := hb8.size; simp at this; omega)))
            | (go_at_call 20; refine (M4.out _).mono ?_; rintro e w9 ⟨rfl, hb9⟩; obtain ⟨hcell, hfree⟩ := bcell hb9; (try (have hl9 : w8.heap.size < w9.heap.size := by have := hb9.size; simp at this; omega))))
        all_goals (go_wp2_with fail; go_meet; exact ⟨_, rfl, rfl, by first | (simp [go_sem]; done) | (simp [go_sem, *]; done), by first | (simp [go_sem]; done) | (simp [go_sem, *]; done), by repeat (first | with_reducible exact Below.refl _ _ | with_reducible refine bl_alloc ?_ _ | with_reducible refine bl_drew ?_ | (with_reducible refine bl_set ?_ ?_ _; rotate_left; focus (first | (simp; done) | (simp; omega) | omega)) | with_reducible exact And.left (by assumption) | with_reducible refine below_step ?_ (by assumption))⟩)
      case rest =>
        obtain ⟨b1, rfl, rfl, y1, y2, hbx⟩ := hcut
        have y3 := bl_hold hbx e1
        have y4 := bl_hold hbx e2
        have y5 := bl_free hbx e1 ef1
        have y6 := bl_free hbx e2 ef2
        have y7 := bl_hold hbx e3
        have y8 := bl_hold hbx e4
        have hbw := below_step hb hbx
        clear e1 e2 ef1 ef2 e3 e4 hb hbx
        go_wp2_with fail
        refine calls_start (fun V3 => V3.cell? ⟨g2.out.heap.size, 0, none⟩ = some (.int .i64 B) ∧ V3.frozen? ⟨g2.out.heap.size, 0, none⟩ = false ∧ V3.cell? ⟨g2.out.heap.size, 1, none⟩ = some (.int .i64 (-(A + B))) ∧ V3.frozen? ⟨g2.out.heap.size, 1, none⟩ = false ∧ V3.cell? ⟨w.heap.size, 0, none⟩ = some (.int .i64 A) ∧ V3.cell? ⟨w.heap.size, 1, none⟩ = some (.int .i64 B) ∧ V3.cell? ⟨b1, 0, none⟩ = some (.int .i64 (A + B)) ∧ V3.cell? ⟨b1, 1, none⟩ = some (.int .i64 (-A)) ∧ Below w.heap.size w V3) ⟨by first | with_reducible assumption | (simp [go_sem]; done), by first | with_reducible assumption | (simp [go_sem]; done), by first | with_reducible assumption | (simp [go_sem]; done), by first | with_reducible assumption | (simp [go_sem]; done), by first | with_reducible assumption | (simp [go_sem]; done), by first | with_reducible assumption | (simp [go_sem]; done), by first | with_reducible assumption | (simp [go_sem]; done), by first | with_reducible assumption | (simp [go_sem]; done), by repeat (first | with_reducible exact Below.refl _ _ | with_reducible refine bl_alloc ?_ _ | with_reducible refine bl_drewN ?_ _ | with_reducible refine bl_drew ?_ | (with_reducible refine bl_set ?_ ?_ _; rotate_left; focus (first | (simp; done) | (simp; omega) | omega)) | with_reducible refine below_step ?_ (Bw.below _) | with_reducible refine below_step ?_ (by assumption))⟩ ?_
        rintro V3 ⟨hd1, fd1, hd2, fd2, hd3, hd4, hd5, hd6, hWd⟩ gd
        have d1 := Bw.hold hd1
        have df1 := Bw.free hd1 fd1
        have d2 := Bw.hold hd2
        have df2 := Bw.free hd2 fd2
        have d3 := Bw.hold hd3
        have d4 := Bw.hold hd4
        have d5 := Bw.hold hd5
        have d6 := Bw.hold hd6
        have dz1 := fun g : Bw V3 => cell_lt (d1 g)
        have dy1 := fun g : Bw V3 => Nat.le_of_lt (dz1 g)
        have dz3 := fun g : Bw V3 => cell_lt (d3 g)
        have dy3 := fun g : Bw V3 => Nat.le_of_lt (dz3 g)
        have dz5 := fun g : Bw V3 => cell_lt (d5 g)
        have dy5 := fun g : Bw V3 => Nat.le_of_lt (dz5 g)
        clear hd1 fd1 hd2 fd2 hd3 hd4 hd5 hd6
        clear y1 y2 y3 y4 y5 y6 y7 y8 hbw
        refine (N5.out _).mono ?_
        rintro e_g5 w_g5 ⟨rfl, hb_g5⟩
        obtain ⟨g5, rfl⟩ := gd.next hb_g5
        clear hb_g5
        go_wp2_with fail
        refine (N4.out _).mono ?_
        rintro e_g6 w_g6 ⟨rfl, hb_g6⟩
        obtain ⟨g6, rfl⟩ := g5.next hb_g6
        clear hb_g6
        go_wp2_with fail
        go_roundw
        case rel => exact ⟨5, by omega, by go_num, by simp [go_sem, d1, d2, tnA], by simp [go_sem, d1, d2, tnB], by first | (simp [go_sem]; done) | (simp [go_sem, df1, df2]; done), by first | (simp [go_sem]; done) | (simp [go_sem, df1, df2]; done), by simp [go_sem, d3, d4], by simp [go_sem, d3, d4], hsz, by repeat (first | with_reducible exact Below.refl _ _ | with_reducible refine bl_alloc ?_ _ | with_reducible refine bl_drewN ?_ _ | with_reducible refine bl_drew ?_ | (with_reducible refine bl_set ?_ ?_ _; rotate_left; focus (first | (simp; done) | (simp; omega) | omega)) | with_reducible refine below_step ?_ (Bw.below _) | with_reducible refine below_step ?_ (by assumption))⟩
        case measure => simp [intOf]
    · simp only [tnA, tnB] at e1 e2
      go_upto_region 9 with fail
      go_cut [7, 8] from 24 to 72 (fun s7 s8 wx => ∃ b1 : Nat, s7 = .pointer (some ⟨b1, 0, none⟩) ∧ s8 = .bool true ∧ wx.cell? ⟨b1, 0, none⟩ = some (.int .i64 (A)) ∧ wx.cell? ⟨b1, 1, none⟩ = some (.int .i64 (B)) ∧ Below wr.heap.size wr wx)
      case first =>
        clear ef1 ef2 e3 e4 hb
        have smk : ∀ w' : World, Below wr.heap.size wr w' → Below wr.heap.size wr w' ∧ w'.cell? ⟨g2.out.heap.size, 0, none⟩ = some (.int .i64 (A + B)) ∧ w'.cell? ⟨g2.out.heap.size, 1, none⟩ = some (.int .i64 (-A)) := fun w' hw => ⟨hw, bl_hold hw e1, bl_hold hw e2⟩
        go_region_held3 (fun w' => Below wr.heap.size wr w' ∧ w'.cell? ⟨g2.out.heap.size, 0, none⟩ = some (.int .i64 (A + B)) ∧ w'.cell? ⟨g2.out.heap.size, 1, none⟩ = some (.int .i64 (-A)))
          (exact smk _ (by repeat (first | with_reducible exact Below.refl _ _ | with_reducible refine bl_alloc ?_ _ | with_reducible refine bl_drew ?_ | (with_reducible refine bl_set ?_ ?_ _; rotate_left; focus (first | (simp; done) | (simp; omega) | omega)) | with_reducible exact And.left (by assumption) | with_reducible refine below_step ?_ (by assumption))))
          (first
            | (go_at_call 16; refine (UI.out _).mono ?_; rintro e w8 ⟨rfl, hb8⟩; obtain ⟨hcell8, hfree8⟩ := bcell hb8; (try (have hm8 : wr.heap.size ≤ w8.heap.size := by have := hb8.size; simp at this; omega)); (try (have hl8 : wr.heap.size < w8.heap.size := by have := hb8.size; simp at this; omega)))
            | (go_at_call 20; refine (M5.out _).mono ?_; rintro e w9 ⟨rfl, hb9⟩; obtain ⟨hcell, hfree⟩ := bcell hb9; (try (have hl9 : w8.heap.size < w9.heap.size := by have := hb9.size; simp at this; omega))))
        all_goals (go_wp2_with fail; go_meet; exact ⟨_, rfl, rfl, by first | (simp [go_sem]; done) | (simp [go_sem, *]; done), by first | (simp [go_sem]; done) | (simp [go_sem, *]; done), by repeat (first | with_reducible exact Below.refl _ _ | with_reducible refine bl_alloc ?_ _ | with_reducible refine bl_drew ?_ | (with_reducible refine bl_set ?_ ?_ _; rotate_left; focus (first | (simp; done) | (simp; omega) | omega)) | with_reducible exact And.left (by assumption) | with_reducible refine below_step ?_ (by assumption))⟩)
      case rest =>
        obtain ⟨b1, rfl, rfl, y1, y2, hbx⟩ := hcut
        have y3 := bl_hold hbx e1
        have y4 := bl_hold hbx e2
        have y5 := bl_free hbx e1 ef1
        have y6 := bl_free hbx e2 ef2
        have y7 := bl_hold hbx e3
        have y8 := bl_hold hbx e4
        have hbw := below_step hb hbx
        clear e1 e2 ef1 ef2 e3 e4 hb hbx
        go_wp2_with fail
        refine calls_start (fun V3 => V3.cell? ⟨g2.out.heap.size, 0, none⟩ = some (.int .i64 (A + B)) ∧ V3.frozen? ⟨g2.out.heap.size, 0, none⟩ = false ∧ V3.cell? ⟨g2.out.heap.size, 1, none⟩ = some (.int .i64 (-A)) ∧ V3.frozen? ⟨g2.out.heap.size, 1, none⟩ = false ∧ V3.cell? ⟨w.heap.size, 0, none⟩ = some (.int .i64 A) ∧ V3.cell? ⟨w.heap.size, 1, none⟩ = some (.int .i64 B) ∧ V3.cell? ⟨b1, 0, none⟩ = some (.int .i64 A) ∧ V3.cell? ⟨b1, 1, none⟩ = some (.int .i64 B) ∧ Below w.heap.size w V3) ⟨by first | with_reducible assumption | (simp [go_sem]; done), by first | with_reducible assumption | (simp [go_sem]; done), by first | with_reducible assumption | (simp [go_sem]; done), by first | with_reducible assumption | (simp [go_sem]; done), by first | with_reducible assumption | (simp [go_sem]; done), by first | with_reducible assumption | (simp [go_sem]; done), by first | with_reducible assumption | (simp [go_sem]; done), by first | with_reducible assumption | (simp [go_sem]; done), by repeat (first | with_reducible exact Below.refl _ _ | with_reducible refine bl_alloc ?_ _ | with_reducible refine bl_drewN ?_ _ | with_reducible refine bl_drew ?_ | (with_reducible refine bl_set ?_ ?_ _; rotate_left; focus (first | (simp; done) | (simp; omega) | omega)) | with_reducible refine below_step ?_ (Bw.below _) | with_reducible refine below_step ?_ (by assumption))⟩ ?_
        rintro V3 ⟨hd1, fd1, hd2, fd2, hd3, hd4, hd5, hd6, hWd⟩ gd
        have d1 := Bw.hold hd1
        have df1 := Bw.free hd1 fd1
        have d2 := Bw.hold hd2
        have df2 := Bw.free hd2 fd2
        have d3 := Bw.hold hd3
        have d4 := Bw.hold hd4
        have d5 := Bw.hold hd5
        have d6 := Bw.hold hd6
        have dz1 := fun g : Bw V3 => cell_lt (d1 g)
        have dy1 := fun g : Bw V3 => Nat.le_of_lt (dz1 g)
        have dz3 := fun g : Bw V3 => cell_lt (d3 g)
        have dy3 := fun g : Bw V3 => Nat.le_of_lt (dz3 g)
        have dz5 := fun g : Bw V3 => cell_lt (d5 g)
        have dy5 := fun g : Bw V3 => Nat.le_of_lt (dz5 g)
        clear hd1 fd1 hd2 fd2 hd3 hd4 hd5 hd6
        clear y1 y2 y3 y4 y5 y6 y7 y8 hbw
        refine (N6.out _).mono ?_
        rintro e_g5 w_g5 ⟨rfl, hb_g5⟩
        obtain ⟨g5, rfl⟩ := gd.next hb_g5
        clear hb_g5
        go_wp2_with fail
        refine (N5.out _).mono ?_
        rintro e_g6 w_g6 ⟨rfl, hb_g6⟩
        obtain ⟨g6, rfl⟩ := g5.next hb_g6
        clear hb_g6
        go_wp2_with fail
        go_roundw
        case rel => exact ⟨6, by omega, by go_num, by simp [go_sem, d1, d2, tnA], by simp [go_sem, d1, d2, tnB], by first | (simp [go_sem]; done) | (simp [go_sem, df1, df2]; done), by first | (simp [go_sem]; done) | (simp [go_sem, df1, df2]; done), by simp [go_sem, d3, d4], by simp [go_sem, d3, d4], hsz, by repeat (first | with_reducible exact Below.refl _ _ | with_reducible refine bl_alloc ?_ _ | with_reducible refine bl_drewN ?_ _ | with_reducible refine bl_drew ?_ | (with_reducible refine bl_set ?_ ?_ _; rotate_left; focus (first | (simp; done) | (simp; omega) | omega)) | with_reducible refine below_step ?_ (Bw.below _) | with_reducible refine below_step ?_ (by assumption))⟩
        case measure => simp [intOf]
    · simp only [tnA, tnB] at e1 e2
      go_wp2_with fail
      refine calls_start (fun V3 => V3.cell? ⟨g2.out.heap.size, 0, none⟩ = some (.int .i64 A) ∧ V3.cell? ⟨g2.out.heap.size, 1, none⟩ = some (.int .i64 B) ∧ V3.cell? ⟨w.heap.size, 0, none⟩ = some (.int .i64 A) ∧ V3.cell? ⟨w.heap.size, 1, none⟩ = some (.int .i64 B) ∧ Below w.heap.size w V3) ⟨by first | with_reducible assumption | (simp [go_sem]; done), by first | with_reducible assumption | (simp [go_sem]; done), by first | with_reducible assumption | (simp [go_sem]; done), by first | with_reducible assumption | (simp [go_sem]; done), by repeat (first | with_reducible exact Below.refl _ _ | with_reducible refine bl_alloc ?_ _ | with_reducible refine bl_drewN ?_ _ | with_reducible refine bl_drew ?_ | (with_reducible refine bl_set ?_ ?_ _; rotate_left; focus (first | (simp; done) | (simp; omega) | omega)) | with_reducible refine below_step ?_ (Bw.below _) | with_reducible refine below_step ?_ (by assumption))⟩ ?_
      rintro V3 ⟨hta1, hta2, hta3, hta4, hWta⟩ gta
      have ta1 := Bw.hold hta1
      have ta2 := Bw.hold hta2
      have ta3 := Bw.hold hta3
      have ta4 := Bw.hold hta4
      have taz1 := fun g : Bw V3 => cell_lt (ta1 g)
      have tay1 := fun g : Bw V3 => Nat.le_of_lt (taz1 g)
      have taz3 := fun g : Bw V3 => cell_lt (ta3 g)
      have tay3 := fun g : Bw V3 => Nat.le_of_lt (taz3 g)
      clear hta1 hta2 hta3 hta4
      clear e1 e2 ef1 ef2 e3 e4 hb
      refine (U0.out _).mono ?_
      rintro e_g5 w_g5 ⟨rfl, hb_g5⟩
      obtain ⟨g5, rfl⟩ := gta.next hb_g5
      clear hb_g5
      go_wp2_with fail
      refine (U1.out _).mono ?_
      rintro e_g6 w_g6 ⟨rfl, hb_g6⟩
      obtain ⟨g6, rfl⟩ := g5.next hb_g6
      clear hb_g6
      go_wp2_with fail
      refine calls_start (fun V4 => V4.cell? ⟨g2.out.heap.size, 0, none⟩ = some (.int .i64 A) ∧ V4.cell? ⟨g2.out.heap.size, 1, none⟩ = some (.int .i64 B) ∧ V4.cell? ⟨w.heap.size, 0, none⟩ = some (.int .i64 A) ∧ V4.cell? ⟨w.heap.size, 1, none⟩ = some (.int .i64 B) ∧ V4.cell? ⟨g6.out.heap.size, 0, none⟩ = some (.int .i64 u) ∧ V4.cell? ⟨g6.out.heap.size, 1, none⟩ = some (.int .i64 (v')) ∧ V4.cell? ⟨g6.out.heap.size + 1, 0, none⟩ = some (.int .i64 x) ∧ V4.cell? ⟨g6.out.heap.size + 1, 1, none⟩ = some (.int .i64 y) ∧ Below w.heap.size w V4) ⟨by first | with_reducible assumption | (simp [go_sem]; done) | with_reducible exact hold_al ta1 _ _ | with_reducible exact hold_al ta2 _ _ | with_reducible exact hold_al ta3 _ _ | with_reducible exact hold_al ta4 _ _ | (simp [go_sem, ta1, ta2, ta3, ta4, taz1, tay1, taz3, tay3]; done), by first | with_reducible assumption | (simp [go_sem]; done) | with_reducible exact hold_al ta1 _ _ | with_reducible exact hold_al ta2 _ _ | with_reducible exact hold_al ta3 _ _ | with_reducible exact hold_al ta4 _ _ | (simp [go_sem, ta1, ta2, ta3, ta4, taz1, tay1, taz3, tay3]; done), by first | with_reducible assumption | (simp [go_sem]; done) | with_reducible exact hold_al ta1 _ _ | with_reducible exact hold_al ta2 _ _ | with_reducible exact hold_al ta3 _ _ | with_reducible exact hold_al ta4 _ _ | (simp [go_sem, ta1, ta2, ta3, ta4, taz1, tay1, taz3, tay3]; done), by first | with_reducible assumption | (simp [go_sem]; done) | with_reducible exact hold_al ta1 _ _ | with_reducible exact hold_al ta2 _ _ | with_reducible exact hold_al ta3 _ _ | with_reducible exact hold_al ta4 _ _ | (simp [go_sem, ta1, ta2, ta3, ta4, taz1, tay1, taz3, tay3]; done), by first | with_reducible assumption | (simp [go_sem]; done) | with_reducible exact hold_al ta1 _ _ | with_reducible exact hold_al ta2 _ _ | with_reducible exact hold_al ta3 _ _ | with_reducible exact hold_al ta4 _ _ | (simp [go_sem, ta1, ta2, ta3, ta4, taz1, tay1, taz3, tay3]; done), by first | with_reducible assumption | (simp [go_sem]; done) | with_reducible exact hold_al ta1 _ _ | with_reducible exact hold_al ta2 _ _ | with_reducible exact hold_al ta3 _ _ | with_reducible exact hold_al ta4 _ _ | (simp [go_sem, ta1, ta2, ta3, ta4, taz1, tay1, taz3, tay3]; done), by first | with_reducible assumption | (simp [go_sem]; done) | with_reducible exact hold_al ta1 _ _ | with_reducible exact hold_al ta2 _ _ | with_reducible exact hold_al ta3 _ _ | with_reducible exact hold_al ta4 _ _ | (simp [go_sem, ta1, ta2, ta3, ta4, taz1, tay1, taz3, tay3]; done), by first | with_reducible assumption | (simp [go_sem]; done) | with_reducible exact hold_al ta1 _ _ | with_reducible exact hold_al ta2 _ _ | with_reducible exact hold_al ta3 _ _ | with_reducible exact hold_al ta4 _ _ | (simp [go_sem, ta1, ta2, ta3, ta4, taz1, tay1, taz3, tay3]; done), by repeat (first | with_reducible exact Below.refl _ _ | with_reducible refine bl_alloc ?_ _ | with_reducible refine bl_drewN ?_ _ | with_reducible refine bl_drew ?_ | (with_reducible refine bl_set ?_ ?_ _; rotate_left; focus (first | (simp; done) | (simp; omega) | omega)) | with_reducible refine below_step ?_ (Bw.below _) | with_reducible refine below_step ?_ (by assumption))⟩ ?_
      rintro V4 ⟨htb1, htb2, htb3, htb4, htb5, htb6, htb7, htb8, hWtb⟩ gtb
      have tb1 := Bw.hold htb1
      have tb2 := Bw.hold htb2
      have tb3 := Bw.hold htb3
      have tb4 := Bw.hold htb4
      have tb5 := Bw.hold htb5
      have tb6 := Bw.hold htb6
      have tb7 := Bw.hold htb7
      have tb8 := Bw.hold htb8
      have tbz1 := fun g : Bw V4 => cell_lt (tb1 g)
      have tby1 := fun g : Bw V4 => Nat.le_of_lt (tbz1 g)
      have tbz3 := fun g : Bw V4 => cell_lt (tb3 g)
      have tby3 := fun g : Bw V4 => Nat.le_of_lt (tbz3 g)
      have tbz5 := fun g : Bw V4 => cell_lt (tb5 g)
      have tby5 := fun g : Bw V4 => Nat.le_of_lt (tbz5 g)
      have tbz7 := fun g : Bw V4 => cell_lt (tb7 g)
      have tby7 := fun g : Bw V4 => Nat.le_of_lt (tbz7 g)
      clear htb1 htb2 htb3 htb4 htb5 htb6 htb7 htb8
      clear ta1 ta2 ta3 ta4 taz1 tay1 taz3 tay3
      refine (SB.out _).mono ?_
      rintro e_g7 w_g7 ⟨rfl, hb_g7⟩
      obtain ⟨g7, rfl⟩ := gtb.next hb_g7
      clear hb_g7
      go_wp2_with fail
      refine calls_start (fun V5 => V5.cell? ⟨g2.out.heap.size, 0, none⟩ = some (.int .i64 A) ∧ V5.cell? ⟨g2.out.heap.size, 1, none⟩ = some (.int .i64 B) ∧ V5.cell? ⟨w.heap.size, 0, none⟩ = some (.int .i64 A) ∧ V5.cell? ⟨w.heap.size, 1, none⟩ = some (.int .i64 B) ∧ V5.cell? ⟨g6.out.heap.size, 0, none⟩ = some (.int .i64 u) ∧ V5.cell? ⟨g6.out.heap.size, 1, none⟩ = some (.int .i64 (v')) ∧ V5.cell? ⟨g6.out.heap.size + 1, 0, none⟩ = some (.int .i64 x) ∧ V5.cell? ⟨g6.out.heap.size + 1, 1, none⟩ = some (.int .i64 y) ∧ V5.cell? ⟨g7.out.heap.size, 0, none⟩ = some (.int .i64 dx) ∧ V5.cell? ⟨g7.out.heap.size, 1, none⟩ = some (.int .i64 dy) ∧ Below w.heap.size w V5) ⟨by first | with_reducible assumption | (simp [go_sem]; done) | with_reducible exact hold_al tb1 _ _ | with_reducible exact hold_al tb2 _ _ | with_reducible exact hold_al tb3 _ _ | with_reducible exact hold_al tb4 _ _ | with_reducible exact hold_al tb5 _ _ | with_reducible exact hold_al tb6 _ _ | with_reducible exact hold_al tb7 _ _ | with_reducible exact hold_al tb8 _ _ | (simp [go_sem, tb1, tb2, tb3, tb4, tb5, tb6, tb7, tb8, tbz1, tby1, tbz3, tby3, tbz5, tby5, tbz7, tby7]; done), by first | with_reducible assumption | (simp [go_sem]; done) | with_reducible exact hold_al tb1 _ _ | with_reducible exact hold_al tb2 _ _ | with_reducible exact hold_al tb3 _ _ | with_reducible exact hold_al tb4 _ _ | with_reducible exact hold_al tb5 _ _ | with_reducible exact hold_al tb6 _ _ | with_reducible exact hold_al tb7 _ _ | with_reducible exact hold_al tb8 _ _ | (simp [go_sem, tb1, tb2, tb3, tb4, tb5, tb6, tb7, tb8, tbz1, tby1, tbz3, tby3, tbz5, tby5, tbz7, tby7]; done), by first | with_reducible assumption | (simp [go_sem]; done) | with_reducible exact hold_al tb1 _ _ | with_reducible exact hold_al tb2 _ _ | with_reducible exact hold_al tb3 _ _ | with_reducible exact hold_al tb4 _ _ | with_reducible exact hold_al tb5 _ _ | with_reducible exact hold_al tb6 _ _ | with_reducible exact hold_al tb7 _ _ | with_reducible exact hold_al tb8 _ _ | (simp [go_sem, tb1, tb2, tb3, tb4, tb5, tb6, tb7, tb8, tbz1, tby1, tbz3, tby3, tbz5, tby5, tbz7, tby7]; done), by first | with_reducible assumption | (simp [go_sem]; done) | with_reducible exact hold_al tb1 _ _ | with_reducible exact hold_al tb2 _ _ | with_reducible exact hold_al tb3 _ _ | with_reducible exact hold_al tb4 _ _ | with_reducible exact hold_al tb5 _ _ | with_reducible exact hold_al tb6 _ _ | with_reducible exact hold_al tb7 _ _ | with_reducible exact hold_al tb8 _ _ | (simp [go_sem, tb1, tb2, tb3, tb4, tb5, tb6, tb7, tb8, tbz1, tby1, tbz3, tby3, tbz5, tby5, tbz7, tby7]; done), by first | with_reducible assumption | (simp [go_sem]; done) | with_reducible exact hold_al tb1 _ _ | with_reducible exact hold_al tb2 _ _ | with_reducible exact hold_al tb3 _ _ | with_reducible exact hold_al tb4 _ _ | with_reducible exact hold_al tb5 _ _ | with_reducible exact hold_al tb6 _ _ | with_reducible exact hold_al tb7 _ _ | with_reducible exact hold_al tb8 _ _ | (simp [go_sem, tb1, tb2, tb3, tb4, tb5, tb6, tb7, tb8, tbz1, tby1, tbz3, tby3, tbz5, tby5, tbz7, tby7]; done), by first | with_reducible assumption | (simp [go_sem]; done) | with_reducible exact hold_al tb1 _ _ | with_reducible exact hold_al tb2 _ _ | with_reducible exact hold_al tb3 _ _ | with_reducible exact hold_al tb4 _ _ | with_reducible exact hold_al tb5 _ _ | with_reducible exact hold_al tb6 _ _ | with_reducible exact hold_al tb7 _ _ | with_reducible exact hold_al tb8 _ _ | (simp [go_sem, tb1, tb2, tb3, tb4, tb5, tb6, tb7, tb8, tbz1, tby1, tbz3, tby3, tbz5, tby5, tbz7, tby7]; done), by first | with_reducible assumption | (simp [go_sem]; done) | with_reducible exact hold_al tb1 _ _ | with_reducible exact hold_al tb2 _ _ | with_reducible exact hold_al tb3 _ _ | with_reducible exact hold_al tb4 _ _ | with_reducible exact hold_al tb5 _ _ | with_reducible exact hold_al tb6 _ _ | with_reducible exact hold_al tb7 _ _ | with_reducible exact hold_al tb8 _ _ | (simp [go_sem, tb1, tb2, tb3, tb4, tb5, tb6, tb7, tb8, tbz1, tby1, tbz3, tby3, tbz5, tby5, tbz7, tby7]; done), by first | with_reducible assumption | (simp [go_sem]; done) | with_reducible exact hold_al tb1 _ _ | with_reducible exact hold_al tb2 _ _ | with_reducible exact hold_al tb3 _ _ | with_reducible exact hold_al tb4 _ _ | with_reducible exact hold_al tb5 _ _ | with_reducible exact hold_al tb6 _ _ | with_reducible exact hold_al tb7 _ _ | with_reducible exact hold_al tb8 _ _ | (simp [go_sem, tb1, tb2, tb3, tb4, tb5, tb6, tb7, tb8, tbz1, tby1, tbz3, tby3, tbz5, tby5, tbz7, tby7]; done), by first | with_reducible assumption | (simp [go_sem]; done) | with_reducible exact hold_al tb1 _ _ | with_reducible exact hold_al tb2 _ _ | with_reducible exact hold_al tb3 _ _ | with_reducible exact hold_al tb4 _ _ | with_reducible exact hold_al tb5 _ _ | with_reducible exact hold_al tb6 _ _ | with_reducible exact hold_al tb7 _ _ | with_reducible exact hold_al tb8 _ _ | (simp [go_sem, tb1, tb2, tb3, tb4, tb5, tb6, tb7, tb8, tbz1, tby1, tbz3, tby3, tbz5, tby5, tbz7, tby7]; done), by first | with_reducible assumption | (simp [go_sem]; done) | with_reducible exact hold_al tb1 _ _ | with_reducible exact hold_al tb2 _ _ | with_reducible exact hold_al tb3 _ _ | with_reducible exact hold_al tb4 _ _ | with_reducible exact hold_al tb5 _ _ | with_reducible exact hold_al tb6 _ _ | with_reducible exact hold_al tb7 _ _ | with_reducible exact hold_al tb8 _ _ | (simp [go_sem, tb1, tb2, tb3, tb4, tb5, tb6, tb7, tb8, tbz1, tby1, tbz3, tby3, tbz5, tby5, tbz7, tby7]; done), by repeat (first | with_reducible exact Below.refl _ _ | with_reducible refine bl_alloc ?_ _ | with_reducible refine bl_drewN ?_ _ | with_reducible refine bl_drew ?_ | (with_reducible refine bl_set ?_ ?_ _; rotate_left; focus (first | (simp; done) | (simp; omega) | omega)) | with_reducible refine below_step ?_ (Bw.below _) | with_reducible refine below_step ?_ (by assumption))⟩ ?_
      rintro V5 ⟨htc1, htc2, htc3, htc4, htc5, htc6, htc7, htc8, htc9, htc10, hWtc⟩ gtc
      have tc1 := Bw.hold htc1
      have tc2 := Bw.hold htc2
      have tc3 := Bw.hold htc3
      have tc4 := Bw.hold htc4
      have tc5 := Bw.hold htc5
      have tc6 := Bw.hold htc6
      have tc7 := Bw.hold htc7
      have tc8 := Bw.hold htc8
      have tc9 := Bw.hold htc9
      have tc10 := Bw.hold htc10
      have tcz1 := fun g : Bw V5 => cell_lt (tc1 g)
      have tcy1 := fun g : Bw V5 => Nat.le_of_lt (tcz1 g)
      have tcz3 := fun g : Bw V5 => cell_lt (tc3 g)
      have tcy3 := fun g : Bw V5 => Nat.le_of_lt (tcz3 g)
      have tcz5 := fun g : Bw V5 => cell_lt (tc5 g)
      have tcy5 := fun g : Bw V5 => Nat.le_of_lt (tcz5 g)
      have tcz7 := fun g : Bw V5 => cell_lt (tc7 g)
      have tcy7 := fun g : Bw V5 => Nat.le_of_lt (tcz7 g)
      have tcz9 := fun g : Bw V5 => cell_lt (tc9 g)
      have tcy9 := fun g : Bw V5 => Nat.le_of_lt (tcz9 g)
      clear htc1 htc2 htc3 htc4 htc5 htc6 htc7 htc8 htc9 htc10
      clear tb1 tb2 tb3 tb4 tb5 tb6 tb7 tb8 tbz1 tby1 tbz3 tby3 tbz5 tby5 tbz7 tby7
      refine (ND.out _).mono ?_
      rintro e_g8 w_g8 ⟨rfl, hb_g8⟩
      obtain ⟨g8, rfl⟩ := gtc.next hb_g8
      clear hb_g8
      go_wp2_with fail
      refine wp_start (fun V6 => V6.cell? ⟨g2.out.heap.size, 0, none⟩ = some (.int .i64 A) ∧ V6.cell? ⟨g2.out.heap.size, 1, none⟩ = some (.int .i64 B) ∧ V6.cell? ⟨w.heap.size, 0, none⟩ = some (.int .i64 A) ∧ V6.cell? ⟨w.heap.size, 1, none⟩ = some (.int .i64 B) ∧ V6.cell? ⟨g6.out.heap.size, 0, none⟩ = some (.int .i64 u) ∧ V6.cell? ⟨g6.out.heap.size, 1, none⟩ = some (.int .i64 (v')) ∧ V6.cell? ⟨g6.out.heap.size + 1, 0, none⟩ = some (.int .i64 x) ∧ V6.cell? ⟨g6.out.heap.size + 1, 1, none⟩ = some (.int .i64 y) ∧ V6.cell? ⟨g7.out.heap.size, 0, none⟩ = some (.int .i64 dx) ∧ V6.cell? ⟨g7.out.heap.size, 1, none⟩ = some (.int .i64 dy) ∧ Below w.heap.size w V6) ⟨by first | with_reducible assumption | (simp [go_sem]; done) | with_reducible exact hold_al tc1 _ _ | with_reducible exact hold_al tc2 _ _ | with_reducible exact hold_al tc3 _ _ | with_reducible exact hold_al tc4 _ _ | with_reducible exact hold_al tc5 _ _ | with_reducible exact hold_al tc6 _ _ | with_reducible exact hold_al tc7 _ _ | with_reducible exact hold_al tc8 _ _ | with_reducible exact hold_al tc9 _ _ | with_reducible exact hold_al tc10 _ _ | (simp [go_sem, tc1, tc2, tc3, tc4, tc5, tc6, tc7, tc8, tc9, tc10, tcz1, tcy1, tcz3, tcy3, tcz5, tcy5, tcz7, tcy7, tcz9, tcy9]; done), by first | with_reducible assumption | (simp [go_sem]; done) | with_reducible exact hold_al tc1 _ _ | with_reducible exact hold_al tc2 _ _ | with_reducible exact hold_al tc3 _ _ | with_reducible exact hold_al tc4 _ _ | with_reducible exact hold_al tc5 _ _ | with_reducible exact hold_al tc6 _ _ | with_reducible exact hold_al tc7 _ _ | with_reducible exact hold_al tc8 _ _ | with_reducible exact hold_al tc9 _ _ | with_reducible exact hold_al tc10 _ _ | (simp [go_sem, tc1, tc2, tc3, tc4, tc5, tc6, tc7, tc8, tc9, tc10, tcz1, tcy1, tcz3, tcy3, tcz5, tcy5, tcz7, tcy7, tcz9, tcy9]; done), by first | with_reducible assumption | (simp [go_sem]; done) | with_reducible exact hold_al tc1 _ _ | with_reducible exact hold_al tc2 _ _ | with_reducible exact hold_al tc3 _ _ | with_reducible exact hold_al tc4 _ _ | with_reducible exact hold_al tc5 _ _ | with_reducible exact hold_al tc6 _ _ | with_reducible exact hold_al tc7 _ _ | with_reducible exact hold_al tc8 _ _ | with_reducible exact hold_al tc9 _ _ | with_reducible exact hold_al tc10 _ _ | (simp [go_sem, tc1, tc2, tc3, tc4, tc5, tc6, tc7, tc8, tc9, tc10, tcz1, tcy1, tcz3, tcy3, tcz5, tcy5, tcz7, tcy7, tcz9, tcy9]; done), by first | with_reducible assumption | (simp [go_sem]; done) | with_reducible exact hold_al tc1 _ _ | with_reducible exact hold_al tc2 _ _ | with_reducible exact hold_al tc3 _ _ | with_reducible exact hold_al tc4 _ _ | with_reducible exact hold_al tc5 _ _ | with_reducible exact hold_al tc6 _ _ | with_reducible exact hold_al tc7 _ _ | with_reducible exact hold_al tc8 _ _ | with_reducible exact hold_al tc9 _ _ | with_reducible exact hold_al tc10 _ _ | (simp [go_sem, tc1, tc2, tc3, tc4, tc5, tc6, tc7, tc8, tc9, tc10, tcz1, tcy1, tcz3, tcy3, tcz5, tcy5, tcz7, tcy7, tcz9, tcy9]; done), by first | with_reducible assumption | (simp [go_sem]; done) | with_reducible exact hold_al tc1 _ _ | with_reducible exact hold_al tc2 _ _ | with_reducible exact hold_al tc3 _ _ | with_reducible exact hold_al tc4 _ _ | with_reducible exact hold_al tc5 _ _ | with_reducible exact hold_al tc6 _ _ | with_reducible exact hold_al tc7 _ _ | with_reducible exact hold_al tc8 _ _ | with_reducible exact hold_al tc9 _ _ | with_reducible exact hold_al tc10 _ _ | (simp [go_sem, tc1, tc2, tc3, tc4, tc5, tc6, tc7, tc8, tc9, tc10, tcz1, tcy1, tcz3, tcy3, tcz5, tcy5, tcz7, tcy7, tcz9, tcy9]; done), by first | with_reducible assumption | (simp [go_sem]; done) | with_reducible exact hold_al tc1 _ _ | with_reducible exact hold_al tc2 _ _ | with_reducible exact hold_al tc3 _ _ | with_reducible exact hold_al tc4 _ _ | with_reducible exact hold_al tc5 _ _ | with_reducible exact hold_al tc6 _ _ | with_reducible exact hold_al tc7 _ _ | with_reducible exact hold_al tc8 _ _ | with_reducible exact hold_al tc9 _ _ | with_reducible exact hold_al tc10 _ _ | (simp [go_sem, tc1, tc2, tc3, tc4, tc5, tc6, tc7, tc8, tc9, tc10, tcz1, tcy1, tcz3, tcy3, tcz5, tcy5, tcz7, tcy7, tcz9, tcy9]; done), by first | with_reducible assumption | (simp [go_sem]; done) | with_reducible exact hold_al tc1 _ _ | with_reducible exact hold_al tc2 _ _ | with_reducible exact hold_al tc3 _ _ | with_reducible exact hold_al tc4 _ _ | with_reducible exact hold_al tc5 _ _ | with_reducible exact hold_al tc6 _ _ | with_reducible exact hold_al tc7 _ _ | with_reducible exact hold_al tc8 _ _ | with_reducible exact hold_al tc9 _ _ | with_reducible exact hold_al tc10 _ _ | (simp [go_sem, tc1, tc2, tc3, tc4, tc5, tc6, tc7, tc8, tc9, tc10, tcz1, tcy1, tcz3, tcy3, tcz5, tcy5, tcz7, tcy7, tcz9, tcy9]; done), by first | with_reducible assumption | (simp [go_sem]; done) | with_reducible exact hold_al tc1 _ _ | with_reducible exact hold_al tc2 _ _ | with_reducible exact hold_al tc3 _ _ | with_reducible exact hold_al tc4 _ _ | with_reducible exact hold_al tc5 _ _ | with_reducible exact hold_al tc6 _ _ | with_reducible exact hold_al tc7 _ _ | with_reducible exact hold_al tc8 _ _ | with_reducible exact hold_al tc9 _ _ | with_reducible exact hold_al tc10 _ _ | (simp [go_sem, tc1, tc2, tc3, tc4, tc5, tc6, tc7, tc8, tc9, tc10, tcz1, tcy1, tcz3, tcy3, tcz5, tcy5, tcz7, tcy7, tcz9, tcy9]; done), by first | with_reducible assumption | (simp [go_sem]; done) | with_reducible exact hold_al tc1 _ _ | with_reducible exact hold_al tc2 _ _ | with_reducible exact hold_al tc3 _ _ | with_reducible exact hold_al tc4 _ _ | with_reducible exact hold_al tc5 _ _ | with_reducible exact hold_al tc6 _ _ | with_reducible exact hold_al tc7 _ _ | with_reducible exact hold_al tc8 _ _ | with_reducible exact hold_al tc9 _ _ | with_reducible exact hold_al tc10 _ _ | (simp [go_sem, tc1, tc2, tc3, tc4, tc5, tc6, tc7, tc8, tc9, tc10, tcz1, tcy1, tcz3, tcy3, tcz5, tcy5, tcz7, tcy7, tcz9, tcy9]; done), by first | with_reducible assumption | (simp [go_sem]; done) | with_reducible exact hold_al tc1 _ _ | with_reducible exact hold_al tc2 _ _ | with_reducible exact hold_al tc3 _ _ | with_reducible exact hold_al tc4 _ _ | with_reducible exact hold_al tc5 _ _ | with_reducible exact hold_al tc6 _ _ | with_reducible exact hold_al tc7 _ _ | with_reducible exact hold_al tc8 _ _ | with_reducible exact hold_al tc9 _ _ | with_reducible exact hold_al tc10 _ _ | (simp [go_sem, tc1, tc2, tc3, tc4, tc5, tc6, tc7, tc8, tc9, tc10, tcz1, tcy1, tcz3, tcy3, tcz5, tcy5, tcz7, tcy7, tcz9, tcy9]; done), by repeat (first | with_reducible exact Below.refl _ _ | with_reducible refine bl_alloc ?_ _ | with_reducible refine bl_drewN ?_ _ | with_reducible refine bl_drew ?_ | (with_reducible refine bl_set ?_ ?_ _; rotate_left; focus (first | (simp; done) | (simp; omega) | omega)) | with_reducible refine below_step ?_ (Bw.below _) | with_reducible refine below_step ?_ (by assumption))⟩ ?_
      rintro V6 ⟨htd1, htd2, htd3, htd4, htd5, htd6, htd7, htd8, htd9, htd10, hWtd⟩ gtd
      have td1 := Bw.hold htd1
      have td2 := Bw.hold htd2
      have td3 := Bw.hold htd3
      have td4 := Bw.hold htd4
      have td5 := Bw.hold htd5
      have td6 := Bw.hold htd6
      have td7 := Bw.hold htd7
      have td8 := Bw.hold htd8
      have td9 := Bw.hold htd9
      have td10 := Bw.hold htd10
      have tdz1 := fun g : Bw V6 => cell_lt (td1 g)
      have tdy1 := fun g : Bw V6 => Nat.le_of_lt (tdz1 g)
      have tdz3 := fun g : Bw V6 => cell_lt (td3 g)
      have tdy3 := fun g : Bw V6 => Nat.le_of_lt (tdz3 g)
      have tdz5 := fun g : Bw V6 => cell_lt (td5 g)
      have tdy5 := fun g : Bw V6 => Nat.le_of_lt (tdz5 g)
      have tdz7 := fun g : Bw V6 => cell_lt (td7 g)
      have tdy7 := fun g : Bw V6 => Nat.le_of_lt (tdz7 g)
      have tdz9 := fun g : Bw V6 => cell_lt (td9 g)
      have tdy9 := fun g : Bw V6 => Nat.le_of_lt (tdz9 g)
      clear htd1 htd2 htd3 htd4 htd5 htd6 htd7 htd8 htd9 htd10
      clear tc1 tc2 tc3 tc4 tc5 tc6 tc7 tc8 tc9 tc10 tcz1 tcy1 tcz3 tcy3 tcz5 tcy5 tcz7 tcy7 tcz9 tcy9
      refine wp_region_bw (by kernel_rfl) (by kernel_rfl) gtd ?_
      repeat (go_big_quiet_step ((first
        | (go_at_call 16; first | with_reducible exact bw_call (U6.out _) | with_reducible exact bw_call (U7.out _))
        | (go_at_call 18; with_reducible exact bw_call (awake2 _)))))
      refine wpQuiet_nil ?_
      rintro _ ⟨g9, rfl⟩
      go_wp2_with fail
      go_ret
      exact ⟨rfl, by repeat (first | with_reducible exact Below.refl _ _ | with_reducible refine bl_alloc ?_ _ | with_reducible refine bl_drewN ?_ _ | with_reducible refine bl_drew ?_ | (with_reducible refine bl_set ?_ ?_ _; rotate_left; focus (first | (simp; done) | (simp; omega) | omega)) | with_reducible refine below_step ?_ (Bw.below _) | with_reducible refine below_step ?_ (by assumption))⟩
/-! THE STATEMENT EisenTurn -/
section
open Go.ChangeShapes Go.WideShapes Go.ChangeAt Go.RowKit Go.Joins
set_option linter.unusedVariables false
set_option maxRecDepth 100000 in
theorem eisenTurn_lifted (os : Os) (started : os.Started) (H : Type) (enc : TypeId × Value → H) :
    ReturnsInHanded {} Try.checked os 4 .any (Rows.eisenTurnSpec.pre6 enc Try.prog Try.f4 Rows.eisenTurnRow.domain false) (Rows.eisenTurnSpec.post enc Try.prog Try.f4 false true false false) := by
  refine returnsInHanded_of_change (C := Try.checked) (show ownKnob Try.prog.godebug = none by kernel_rfl) started (by kernel_rfl) Try.func4
    (ChangeSpec.witness6 (enc := enc) (C := Try.checked) false ⟨#[], #[.int .i64 0, .agg #[.int .i64 0, .int .i64 0]], []⟩ 8 (by kernel_rfl) (by kernel_rfl) (by kernel_rfl) (by kernel_rfl)) ?_
  intro W base args ds gs before hval0 hW hcnd _
  have hval : ∀ (j : Nat) t v, Try.f4.params[j]? = some t → args[j]? = some v → Value.okWide Try.prog W .any base t v := hval0
  have hW' := hW
  obtain ⟨p, q, hA0, hV, rfl, hfz, hnd⟩ := hW
  have hA : DataW.TrodAll enc Try.prog W 0 (fun _ => true) true Try.f4.params.toList args.toList ds p := hA0
  rw [Try.params4] at hA hval
  obtain ⟨v0, vs0, d0, ds0, p0, q0, hargs, rfl, rfl, h0, r0⟩ := trodAll_cons hA
  obtain ⟨v1, vs1, d1, ds1, p1, q1, rfl, rfl, rfl, h1, r1⟩ := trodAll_cons r0
  obtain ⟨rfl, rfl, rfl⟩ := trodAll_nil r1
  obtain rfl : args = #[v0, v1] := by cases args; simp_all
  obtain ⟨rfl, rfl⟩ := trodVars_none hV
  obtain ⟨k, rfl, rfl, rfl, wf_k⟩ := open_int Try.underlying3 (hval 0 3 v0 rfl rfl) h0
  obtain ⟨c1_0, c1_1, y1_0, y1_1, m1, rfl, rfl, rfl, hy1_0, hy1_1⟩ := open_agg2 Try.underlying23 (by kernel_rfl) (show Try.prog.cellsOf 23 = 2 by kernel_rfl) (hval 1 23 v1 rfl rfl) h1
  obtain ⟨a, e1_0, rfl, wf_a⟩ := DataW.trod_int Try.underlying2 hy1_0
  obtain ⟨b, e1_1, rfl, wf_b⟩ := DataW.trod_int Try.underlying2 hy1_1
  simp at e1_0 e1_1
  subst e1_0 e1_1
  clear hA0 hval0
  simp only [List.append_nil] at hW'
  refine (turn_walk k a b (wf_i64 wf_k).1 (wf_i64 wf_k).2 (wf_i64 wf_a).1 (wf_i64 wf_a).2 (wf_i64 wf_b).1 (wf_i64 wf_b).2 W).mono fun e W' ⟨he, hb⟩ => ?_
  subst he
  exact ⟨_, rfl, post_of_below (pa := []) (pv := []) hW' (fun _ _ _ => (trodAll_cons_mk (shut_bool Try.underlying4 _) trodAll_mk0)) (fun sp _ => (trodAll_cons_mk (shut_int Try.underlying3 wf_k) (trodAll_cons_mk (shut_agg2 (y0 := (.lit (.int .i64 a), [])) (y1 := (.lit (.int .i64 b), [])) Try.underlying23 (by kernel_rfl) (show Try.prog.cellsOf 23 = 2 by kernel_rfl) ⟨1, by simp [DataW.trod, Try.underlying2, wf_a]⟩ ⟨1, by simp [DataW.trod, Try.underlying2, wf_b]⟩) trodAll_mk0))) (fun _ _ => rfl) rfl hb
    (ok_one (by kernel_rfl) rfl (okWide_bool_mk Try.underlying4 _))⟩
theorem eisenTurn_holds : Rows.EisenTurnSaid :=
  OpenClaim.holds_of_wide 4 Try.f4 rfl rfl rfl rfl rfl rfl rfl ⟨rfl, rfl, rfl, rfl, rfl⟩ rfl rfl rfl rfl rfl (by kernel_rfl) Try.func4 (by kernel_rfl)
    (of_decide_eq_true (by kernel_rfl)) (by unfold Func.isWrapper; first | (rw [if_pos (by decide +kernel)]; kernel_rfl) | (rw [if_neg (by decide +kernel)]; exact ⟨rfl, rfl⟩))
    (fun os started H enc _ => eisenTurn_lifted os started H enc)
end
#print axioms eisenTurn_holds
end Go.Proofs.Ytjedegpmpdgckaa

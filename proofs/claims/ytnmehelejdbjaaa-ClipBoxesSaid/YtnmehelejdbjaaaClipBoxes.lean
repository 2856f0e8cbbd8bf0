
/- ClipBoxes: a box clipped to a box is what both have in common. No condition. -/
import Derived.Test.YtnmehelejdbjaaaBoxLaw
import Derived.Test.YtnmehelejdbjaaaFits
import Derived.Test.YtnmehelejdbjaaaRowA
import Derived.Test.YtnmehelejdbjaaaTame19
import Derived.Test.YtnmehelejdbjaaaEqA
import Derived.Deep.Cut
import Derived.Lib.MinMax
namespace Go.Proofs.Ytnmehelejdbjaaa
open Go.RowKit
set_option linter.unusedSimpArgs false
set_option linter.unusedVariables false
theorem first_of (c : Int × Int) (L : List (Int × Int)) (h : c ∈ L) : ∃ f, f < L.length ∧ L.getD f (0, 0) = c ∧ ∀ i, i < f → L.getD i (0, 0) ≠ c := by
  induction L with
  | nil => simp at h
  | cons x t ih =>
    by_cases hx : x = c
    · exact ⟨0, by simp, by simpa using hx, fun i hi => by omega⟩
    · rcases List.mem_cons.1 h with e | e
      · exact absurd e.symm hx
      · obtain ⟨f, h1, h2, h3⟩ := ih e
        refine ⟨f + 1, by simp; omega, by simpa using h2, fun i hi => ?_⟩
        cases i with
        | zero => simpa using hx
        | succ i => have := h3 i (by omega); simpa using this
theorem take_q {P : Program} {ops : Array Oper} {Q : Exit → Act → World → Prop} {md : Region.Mode} {S : World → Prop} {i : Nat} {oi : Oper} {v : Value} {fuel : Nat} {listed : Array Bool} {a : Act} {w : World} {d : Nat} (hi : ops[i]? = some oi) (hd : oi.dst = some d)
    (hs : Region.noSelect ops = true) (hf : Region.free md ops listed i = true) (hr : (Region.ready md ops listed).contains i = true)
    (hQ : ∀ c a w, Q (.panic c) (a.put oi.dst v) w → Q (.panic c) a w) (hy : YieldsIf P ops S oi v a) (hS : S w)
    (h : wpAnyH P md ops Q S fuel (listed.setIfInBounds i true) { a with tmps := a.tmps.setIfInBounds d v } w) : wpAnyH P md ops Q S (fuel + 1) listed a w :=
  wpAnyH_take hi hs hf hr hQ hy hS (by rw [hd]; exact h)
set_option maxRecDepth 100000 in
set_option maxHeartbeats 12000000 in
theorem clipboxes_walk (a0 a1 a2 a3 b0 b1 b2 b3 : Int) (ha0 : -9223372036854775808 ≤ a0) (ha0' : a0 ≤ 9223372036854775807) (ha1 : -9223372036854775808 ≤ a1) (ha1' : a1 ≤ 9223372036854775807) (ha2 : -9223372036854775808 ≤ a2) (ha2' : a2 ≤ 9223372036854775807) (ha3 : -9223372036854775808 ≤ a3) (ha3' : a3 ≤ 9223372036854775807) (hb0 : -9223372036854775808 ≤ b0) (hb0' : b0 ≤ 9223372036854775807) (hb1 : -9223372036854775808 ≤ b1) (hb1' : b1 ≤ 9223372036854775807) (hb2 : -9223372036854775808 ≤ b2) (hb2' : b2 ≤ 9223372036854775807) (hb3 : -9223372036854775808 ≤ b3) (hb3' : b3 ≤ 9223372036854775807) (w : World) :
    Calls Try.prog 5 #[.agg #[.int .i64 a0, .int .i64 a1, .int .i64 a2, .int .i64 a3], .agg #[.int .i64 b0, .int .i64 b1, .int .i64 b2, .int .i64 b3]] w fun e w' => e = .returned (.bool true) ∧ Below w.heap.size w w' := by
  have hm : ∀ d : Int, bits .and .i64 d 255 = d % 256 := fun d => i64_mask19 d 8 (by omega)
  clear ha0 ha0' ha1 ha1' ha2 ha2' ha3 ha3' hb0 hb0' hb1 hb1' hb2 hb2' hb3 hb3'
  go_enter Try.func5, Try.ntmps5
  go_wp2_with fail
  go_loopg [5] 4 (fun n i W => ∃ (k : Nat) (p0 p1 p2 p3 q0 q1 q2 q3 : Int), k + n = 4 ∧ i = .int .i64 (k : Int) ∧
    (W.cell? ⟨w.heap.size, 0, none⟩ = some (.int .i64 p0) ∧ W.cell? ⟨w.heap.size, 1, none⟩ = some (.int .i64 p1) ∧ W.cell? ⟨w.heap.size, 2, none⟩ = some (.int .i64 p2) ∧ W.cell? ⟨w.heap.size, 3, none⟩ = some (.int .i64 p3) ∧ W.cell? ⟨w.heap.size + 1, 0, none⟩ = some (.int .i64 q0) ∧ W.cell? ⟨w.heap.size + 1, 1, none⟩ = some (.int .i64 q1) ∧ W.cell? ⟨w.heap.size + 1, 2, none⟩ = some (.int .i64 q2) ∧ W.cell? ⟨w.heap.size + 1, 3, none⟩ = some (.int .i64 q3)) ∧ (W.frozen? ⟨w.heap.size, 0, none⟩ = false ∧ W.frozen? ⟨w.heap.size, 1, none⟩ = false ∧ W.frozen? ⟨w.heap.size, 2, none⟩ = false ∧ W.frozen? ⟨w.heap.size, 3, none⟩ = false ∧ W.frozen? ⟨w.heap.size + 1, 0, none⟩ = false ∧ W.frozen? ⟨w.heap.size + 1, 1, none⟩ = false ∧ W.frozen? ⟨w.heap.size + 1, 2, none⟩ = false ∧ W.frozen? ⟨w.heap.size + 1, 3, none⟩ = false) ∧ ((0 < k → 0 ≤ p0 ∧ p0 ≤ 255 ∧ 0 ≤ q0 ∧ q0 ≤ 255) ∧ (1 < k → 0 ≤ p1 ∧ p1 ≤ 255 ∧ 0 ≤ q1 ∧ q1 ≤ 255) ∧ (2 < k → 0 ≤ p2 ∧ p2 ≤ 255 ∧ 0 ≤ q2 ∧ q2 ≤ 255) ∧ (3 < k → 0 ≤ p3 ∧ p3 ≤ 255 ∧ 0 ≤ q3 ∧ q3 ≤ 255)) ∧ Below w.heap.size w W)
  case atStart => exact ⟨0, a0, a1, a2, a3, b0, b1, b2, b3, by omega, rfl, ⟨by simp [go_sem], by simp [go_sem], by simp [go_sem], by simp [go_sem], by simp [go_sem], by simp [go_sem], by simp [go_sem], by simp [go_sem]⟩, ⟨by simp [go_sem], by simp [go_sem], by simp [go_sem], by simp [go_sem], by simp [go_sem], by simp [go_sem], by simp [go_sem], by simp [go_sem]⟩, ⟨fun h => by omega, fun h => by omega, fun h => by omega, fun h => by omega⟩, by repeat (first | with_reducible exact Below.refl _ _ | with_reducible refine bl_alloc ?_ _ | with_reducible refine bl_drewN ?_ _ | with_reducible refine bl_drew ?_ | (with_reducible refine bl_set ?_ ?_ _; rotate_left; focus (first | (simp; done) | (simp; omega) | omega)) | with_reducible refine below_step ?_ (Bw.below _) | with_reducible refine below_step ?_ (by assumption))⟩
  case round =>
    obtain ⟨k, p0, p1, p2, p3, q0, q1, q2, q3, hk, rfl, ⟨c1, c2, c3, c4, d1, d2, d3, d4⟩, ⟨f1, f2, f3, f4, g1, g2, g3, g4⟩, ⟨h0, h1, h2, h3⟩, hb⟩ := hrel
    rcases (show k = 0 ∨ k = 1 ∨ k = 2 ∨ k = 3 ∨ k = 4 by omega) with h | h | h | h | h
    · as_aux_lemma =>
      subst h
      go_wp2_with fail
      go_region
      go_wp2_with fail
      go_roundg 3
      case measure => omega
      case rel => exact ⟨1, (p0 % 256), (p1), (p2), (p3), (q0 % 256), (q1), (q2), (q3), by omega, by first | rfl | go_num, ⟨by simp [go_sem, c1, c2, c3, c4, d1, d2, d3, d4], by simp [go_sem, c1, c2, c3, c4, d1, d2, d3, d4], by simp [go_sem, c1, c2, c3, c4, d1, d2, d3, d4], by simp [go_sem, c1, c2, c3, c4, d1, d2, d3, d4], by simp [go_sem, c1, c2, c3, c4, d1, d2, d3, d4], by simp [go_sem, c1, c2, c3, c4, d1, d2, d3, d4], by simp [go_sem, c1, c2, c3, c4, d1, d2, d3, d4], by simp [go_sem, c1, c2, c3, c4, d1, d2, d3, d4]⟩, ⟨by simp [go_sem, f1, f2, f3, f4, g1, g2, g3, g4], by simp [go_sem, f1, f2, f3, f4, g1, g2, g3, g4], by simp [go_sem, f1, f2, f3, f4, g1, g2, g3, g4], by simp [go_sem, f1, f2, f3, f4, g1, g2, g3, g4], by simp [go_sem, f1, f2, f3, f4, g1, g2, g3, g4], by simp [go_sem, f1, f2, f3, f4, g1, g2, g3, g4], by simp [go_sem, f1, f2, f3, f4, g1, g2, g3, g4], by simp [go_sem, f1, f2, f3, f4, g1, g2, g3, g4]⟩, ⟨fun h => by omega, fun h => by omega, fun h => by omega, fun h => by omega⟩, by repeat (first | with_reducible exact Below.refl _ _ | with_reducible refine bl_alloc ?_ _ | with_reducible refine bl_drewN ?_ _ | with_reducible refine bl_drew ?_ | (with_reducible refine bl_set ?_ ?_ _; rotate_left; focus (first | (simp; done) | (simp; omega) | omega)) | with_reducible refine below_step ?_ (Bw.below _) | with_reducible refine below_step ?_ (by assumption))⟩
    · as_aux_lemma =>
      subst h
      go_wp2_with fail
      go_region
      go_wp2_with fail
      go_roundg 2
      case measure => omega
      case rel => exact ⟨2, (p0), (p1 % 256), (p2), (p3), (q0), (q1 % 256), (q2), (q3), by omega, by first | rfl | go_num, ⟨by simp [go_sem, c1, c2, c3, c4, d1, d2, d3, d4], by simp [go_sem, c1, c2, c3, c4, d1, d2, d3, d4], by simp [go_sem, c1, c2, c3, c4, d1, d2, d3, d4], by simp [go_sem, c1, c2, c3, c4, d1, d2, d3, d4], by simp [go_sem, c1, c2, c3, c4, d1, d2, d3, d4], by simp [go_sem, c1, c2, c3, c4, d1, d2, d3, d4], by simp [go_sem, c1, c2, c3, c4, d1, d2, d3, d4], by simp [go_sem, c1, c2, c3, c4, d1, d2, d3, d4]⟩, ⟨by simp [go_sem, f1, f2, f3, f4, g1, g2, g3, g4], by simp [go_sem, f1, f2, f3, f4, g1, g2, g3, g4], by simp [go_sem, f1, f2, f3, f4, g1, g2, g3, g4], by simp [go_sem, f1, f2, f3, f4, g1, g2, g3, g4], by simp [go_sem, f1, f2, f3, f4, g1, g2, g3, g4], by simp [go_sem, f1, f2, f3, f4, g1, g2, g3, g4], by simp [go_sem, f1, f2, f3, f4, g1, g2, g3, g4], by simp [go_sem, f1, f2, f3, f4, g1, g2, g3, g4]⟩, ⟨fun h => by omega, fun h => by omega, fun h => by omega, fun h => by omega⟩, by repeat (first | with_reducible exact Below.refl _ _ | with_reducible refine bl_alloc ?_ _ | with_reducible refine bl_drewN ?_ _ | with_reducible refine bl_drew ?_ | (with_reducible refine bl_set ?_ ?_ _; rotate_left; focus (first | (simp; done) | (simp; omega) | omega)) | with_reducible refine below_step ?_ (Bw.below _) | with_reducible refine below_step ?_ (by assumption))⟩
    · as_aux_lemma =>
      subst h
      go_wp2_with fail
      go_region
      go_wp2_with fail
      go_roundg 1
      case measure => omega
      case rel => exact ⟨3, (p0), (p1), (p2 % 256), (p3), (q0), (q1), (q2 % 256), (q3), by omega, by first | rfl | go_num, ⟨by simp [go_sem, c1, c2, c3, c4, d1, d2, d3, d4], by simp [go_sem, c1, c2, c3, c4, d1, d2, d3, d4], by simp [go_sem, c1, c2, c3, c4, d1, d2, d3, d4], by simp [go_sem, c1, c2, c3, c4, d1, d2, d3, d4], by simp [go_sem, c1, c2, c3, c4, d1, d2, d3, d4], by simp [go_sem, c1, c2, c3, c4, d1, d2, d3, d4], by simp [go_sem, c1, c2, c3, c4, d1, d2, d3, d4], by simp [go_sem, c1, c2, c3, c4, d1, d2, d3, d4]⟩, ⟨by simp [go_sem, f1, f2, f3, f4, g1, g2, g3, g4], by simp [go_sem, f1, f2, f3, f4, g1, g2, g3, g4], by simp [go_sem, f1, f2, f3, f4, g1, g2, g3, g4], by simp [go_sem, f1, f2, f3, f4, g1, g2, g3, g4], by simp [go_sem, f1, f2, f3, f4, g1, g2, g3, g4], by simp [go_sem, f1, f2, f3, f4, g1, g2, g3, g4], by simp [go_sem, f1, f2, f3, f4, g1, g2, g3, g4], by simp [go_sem, f1, f2, f3, f4, g1, g2, g3, g4]⟩, ⟨fun h => by omega, fun h => by omega, fun h => by omega, fun h => by omega⟩, by repeat (first | with_reducible exact Below.refl _ _ | with_reducible refine bl_alloc ?_ _ | with_reducible refine bl_drewN ?_ _ | with_reducible refine bl_drew ?_ | (with_reducible refine bl_set ?_ ?_ _; rotate_left; focus (first | (simp; done) | (simp; omega) | omega)) | with_reducible refine below_step ?_ (Bw.below _) | with_reducible refine below_step ?_ (by assumption))⟩
    · as_aux_lemma =>
      subst h
      go_wp2_with fail
      go_region
      go_wp2_with fail
      go_roundg 0
      case measure => omega
      case rel => exact ⟨4, (p0), (p1), (p2), (p3 % 256), (q0), (q1), (q2), (q3 % 256), by omega, by first | rfl | go_num, ⟨by simp [go_sem, c1, c2, c3, c4, d1, d2, d3, d4], by simp [go_sem, c1, c2, c3, c4, d1, d2, d3, d4], by simp [go_sem, c1, c2, c3, c4, d1, d2, d3, d4], by simp [go_sem, c1, c2, c3, c4, d1, d2, d3, d4], by simp [go_sem, c1, c2, c3, c4, d1, d2, d3, d4], by simp [go_sem, c1, c2, c3, c4, d1, d2, d3, d4], by simp [go_sem, c1, c2, c3, c4, d1, d2, d3, d4], by simp [go_sem, c1, c2, c3, c4, d1, d2, d3, d4]⟩, ⟨by simp [go_sem, f1, f2, f3, f4, g1, g2, g3, g4], by simp [go_sem, f1, f2, f3, f4, g1, g2, g3, g4], by simp [go_sem, f1, f2, f3, f4, g1, g2, g3, g4], by simp [go_sem, f1, f2, f3, f4, g1, g2, g3, g4], by simp [go_sem, f1, f2, f3, f4, g1, g2, g3, g4], by simp [go_sem, f1, f2, f3, f4, g1, g2, g3, g4], by simp [go_sem, f1, f2, f3, f4, g1, g2, g3, g4], by simp [go_sem, f1, f2, f3, f4, g1, g2, g3, g4]⟩, ⟨fun h => by omega, fun h => by omega, fun h => by omega, fun h => by omega⟩, by repeat (first | with_reducible exact Below.refl _ _ | with_reducible refine bl_alloc ?_ _ | with_reducible refine bl_drewN ?_ _ | with_reducible refine bl_drew ?_ | (with_reducible refine bl_set ?_ ?_ _; rotate_left; focus (first | (simp; done) | (simp; omega) | omega)) | with_reducible refine below_step ?_ (Bw.below _) | with_reducible refine below_step ?_ (by assumption))⟩
    · subst h
      obtain ⟨e1, e2, e3, e4⟩ := h0 (by omega)
      obtain ⟨e5, e6, e7, e8⟩ := h1 (by omega)
      obtain ⟨e9, e10, e11, e12⟩ := h2 (by omega)
      obtain ⟨e13, e14, e15, e16⟩ := h3 (by omega)
      clear h0 h1 h2 h3 f1 f2 f3 f4 g1 g2 g3 g4
      go_wp2_with fail
      refine wp_start (fun V => V.cell? ⟨w.heap.size, 0, none⟩ = some (.int .i64 p0) ∧ V.cell? ⟨w.heap.size, 1, none⟩ = some (.int .i64 p1) ∧ V.cell? ⟨w.heap.size, 2, none⟩ = some (.int .i64 p2) ∧ V.cell? ⟨w.heap.size, 3, none⟩ = some (.int .i64 p3) ∧ V.cell? ⟨w.heap.size + 1, 0, none⟩ = some (.int .i64 q0) ∧ V.cell? ⟨w.heap.size + 1, 1, none⟩ = some (.int .i64 q1) ∧ V.cell? ⟨w.heap.size + 1, 2, none⟩ = some (.int .i64 q2) ∧ V.cell? ⟨w.heap.size + 1, 3, none⟩ = some (.int .i64 q3) ∧ Below w.heap.size w V) ⟨by first | with_reducible assumption | (simp [go_sem]; done), by first | with_reducible assumption | (simp [go_sem]; done), by first | with_reducible assumption | (simp [go_sem]; done), by first | with_reducible assumption | (simp [go_sem]; done), by first | with_reducible assumption | (simp [go_sem]; done), by first | with_reducible assumption | (simp [go_sem]; done), by first | with_reducible assumption | (simp [go_sem]; done), by first | with_reducible assumption | (simp [go_sem]; done), by repeat (first | with_reducible exact Below.refl _ _ | with_reducible refine bl_alloc ?_ _ | with_reducible refine bl_drewN ?_ _ | with_reducible refine bl_drew ?_ | (with_reducible refine bl_set ?_ ?_ _; rotate_left; focus (first | (simp; done) | (simp; omega) | omega)) | with_reducible refine below_step ?_ (Bw.below _) | with_reducible refine below_step ?_ (by assumption))⟩ ?_
      rintro V ⟨hta1, hta2, hta3, hta4, hta5, hta6, hta7, hta8, hWta⟩ gta
      have ta1 := Bw.hold hta1
      have ta2 := Bw.hold hta2
      have ta3 := Bw.hold hta3
      have ta4 := Bw.hold hta4
      have ta5 := Bw.hold hta5
      have ta6 := Bw.hold hta6
      have ta7 := Bw.hold hta7
      have ta8 := Bw.hold hta8
      have taz1 := fun g : Bw V => cell_lt (ta1 g)
      have tay1 := fun g : Bw V => Nat.le_of_lt (taz1 g)
      have taz5 := fun g : Bw V => cell_lt (ta5 g)
      have tay5 := fun g : Bw V => Nat.le_of_lt (taz5 g)
      clear hta1 hta2 hta3 hta4 hta5 hta6 hta7 hta8
      clear c1 c2 c3 c4 d1 d2 d3 d4 hb
      have w1 : IntKind.i64.wrap (p0 + p2) = p0 + p2 := by rw [IntKind.wrap_i64]; omega
      have w2 : IntKind.i64.wrap (p0 + p2 + 1) = p0 + p2 + 1 := by rw [IntKind.wrap_i64]; omega
      have w3 : IntKind.i64.wrap (p1 + p3) = p1 + p3 := by rw [IntKind.wrap_i64]; omega
      have w4 : IntKind.i64.wrap (p1 + p3 + 1) = p1 + p3 + 1 := by rw [IntKind.wrap_i64]; omega
      have w5 : IntKind.i64.wrap (q0 + q2) = q0 + q2 := by rw [IntKind.wrap_i64]; omega
      have w6 : IntKind.i64.wrap (q1 + q3) = q1 + q3 := by rw [IntKind.wrap_i64]; omega
      have i1 := ta1 gta
      have i2 := ta2 gta
      have i3 := ta3 gta
      have i4 := ta4 gta
      have i5 := ta5 gta
      have i6 := ta6 gta
      have i7 := ta7 gta
      have i8 := ta8 gta
      have hWi := below_step hWta (Bw.below gta)
      clear ta1 ta2 ta3 ta4 ta5 ta6 ta7 ta8 taz1 tay1 taz5 tay5
      generalize Bw.out gta = V1 at *
      clear hm
      generalize w.heap.size + 1 = bq at *
      go_cut [6, 7] from 35 (fun p t wx => ∃ bl1 bl2 : Nat, p = .pointer (some ⟨bl1, 0, none⟩) ∧ t = .pointer (some ⟨bl2, 0, none⟩) ∧ wx.cell? ⟨bl1, 0, none⟩ = some (.int .i64 p0) ∧ wx.cell? ⟨bl1, 1, none⟩ = some (.int .i64 p1) ∧ wx.cell? ⟨bl2, 0, none⟩ = some (.int .i64 (p0 + p2 + 1)) ∧ wx.cell? ⟨bl2, 1, none⟩ = some (.int .i64 (p1 + p3 + 1)) ∧ Below V1.heap.size V1 wx)
      case first =>
        have smk : ∀ w' : World, Below V1.heap.size V1 w' → Below V1.heap.size V1 w' ∧ w'.cell? ⟨w.heap.size, 0, none⟩ = some (.int .i64 p0) ∧ w'.cell? ⟨w.heap.size, 1, none⟩ = some (.int .i64 p1) ∧ w'.cell? ⟨w.heap.size, 2, none⟩ = some (.int .i64 p2) ∧ w'.cell? ⟨w.heap.size, 3, none⟩ = some (.int .i64 p3) := fun w' hw => ⟨hw, bl_hold hw i1, bl_hold hw i2, bl_hold hw i3, bl_hold hw i4⟩
        clear hWi
        go_region_held3 (fun w' => Below V1.heap.size V1 w' ∧ w'.cell? ⟨w.heap.size, 0, none⟩ = some (.int .i64 p0) ∧ w'.cell? ⟨w.heap.size, 1, none⟩ = some (.int .i64 p1) ∧ w'.cell? ⟨w.heap.size, 2, none⟩ = some (.int .i64 p2) ∧ w'.cell? ⟨w.heap.size, 3, none⟩ = some (.int .i64 p3))
          (exact smk _ (by repeat (first | with_reducible exact Below.refl _ _ | with_reducible refine bl_alloc ?_ _ | with_reducible refine bl_drew ?_ | (with_reducible refine bl_set ?_ ?_ _; rotate_left; focus (first | (simp; done) | (simp; omega) | omega)) | with_reducible exact And.left (by assumption) | with_reducible refine below_step ?_ (by assumption))))
          (fail)
        all_goals (go_wp2_with fail; go_meet; exact ⟨_, _, rfl, rfl, by simp [go_sem], by simp [go_sem], by simp [go_sem], by simp [go_sem], by repeat (first | with_reducible exact Below.refl _ _ | with_reducible refine bl_alloc ?_ _ | with_reducible refine bl_drew ?_ | (with_reducible refine bl_set ?_ ?_ _; rotate_left; focus (first | (simp; done) | (simp; omega) | omega)) | with_reducible exact And.left (by assumption) | with_reducible refine below_step ?_ (by assumption))⟩)
      case rest =>
        obtain ⟨bl1, bl2, rfl, rfl, c1, c2, c3, c4, hb1⟩ := hcut
        have j5 := bl_hold hb1 i5
        have j6 := bl_hold hb1 i6
        have j7 := bl_hold hb1 i7
        have j8 := bl_hold hb1 i8
        have hW1 := below_step hWi hb1
        clear i1 i2 i3 i4 i5 i6 i7 i8 hWi hb1 w1 w2 w3 w4
        obtain ⟨x1, hx1⟩ : ∃ x, p0 + p2 + 1 = x := ⟨_, rfl⟩
        obtain ⟨y1, hy1⟩ : ∃ x, p1 + p3 + 1 = x := ⟨_, rfl⟩
        rw [hx1] at c3
        rw [hy1] at c4
        have hx1b : p0 < x1 ∧ x1 ≤ 511 := by omega
        have hy1b : p1 < y1 ∧ y1 ≤ 511 := by omega
        clear hx1 hy1
        obtain ⟨W1, hW⟩ : ∃ W, W = wc := ⟨_, rfl⟩
        subst hW
        go_wp2_with fail
        go_cut [8, 9] from 35 (fun p t wx => ∃ bl1 bl2 : Nat, p = .pointer (some ⟨bl1, 0, none⟩) ∧ t = .pointer (some ⟨bl2, 0, none⟩) ∧ wx.cell? ⟨bl1, 0, none⟩ = some (.int .i64 q0) ∧ wx.cell? ⟨bl1, 1, none⟩ = some (.int .i64 q1) ∧ wx.cell? ⟨bl2, 0, none⟩ = some (.int .i64 (q0 + q2)) ∧ wx.cell? ⟨bl2, 1, none⟩ = some (.int .i64 (q1 + q3)) ∧ Below W1.heap.size W1 wx)
        case first =>
          have smk : ∀ w' : World, Below W1.heap.size W1 w' → Below W1.heap.size W1 w' ∧ w'.cell? ⟨bq, 0, none⟩ = some (.int .i64 q0) ∧ w'.cell? ⟨bq, 1, none⟩ = some (.int .i64 q1) ∧ w'.cell? ⟨bq, 2, none⟩ = some (.int .i64 q2) ∧ w'.cell? ⟨bq, 3, none⟩ = some (.int .i64 q3) := fun w' hw => ⟨hw, bl_hold hw j5, bl_hold hw j6, bl_hold hw j7, bl_hold hw j8⟩
          clear hW1
          go_region_held3 (fun w' => Below W1.heap.size W1 w' ∧ w'.cell? ⟨bq, 0, none⟩ = some (.int .i64 q0) ∧ w'.cell? ⟨bq, 1, none⟩ = some (.int .i64 q1) ∧ w'.cell? ⟨bq, 2, none⟩ = some (.int .i64 q2) ∧ w'.cell? ⟨bq, 3, none⟩ = some (.int .i64 q3))
            (exact smk _ (by repeat (first | with_reducible exact Below.refl _ _ | with_reducible refine bl_alloc ?_ _ | with_reducible refine bl_drew ?_ | (with_reducible refine bl_set ?_ ?_ _; rotate_left; focus (first | (simp; done) | (simp; omega) | omega)) | with_reducible exact And.left (by assumption) | with_reducible refine below_step ?_ (by assumption))))
            (fail)
          all_goals (go_wp2_with fail; go_meet; exact ⟨_, _, rfl, rfl, by simp [go_sem], by simp [go_sem], by simp [go_sem], by simp [go_sem], by repeat (first | with_reducible exact Below.refl _ _ | with_reducible refine bl_alloc ?_ _ | with_reducible refine bl_drew ?_ | (with_reducible refine bl_set ?_ ?_ _; rotate_left; focus (first | (simp; done) | (simp; omega) | omega)) | with_reducible exact And.left (by assumption) | with_reducible refine below_step ?_ (by assumption))⟩)
        case rest =>
          obtain ⟨bl3, bl4, rfl, rfl, d1, d2, d3, d4, hb2⟩ := hcut
          have k1 := bl_hold hb2 c1
          have k2 := bl_hold hb2 c2
          have k3 := bl_hold hb2 c3
          have k4 := bl_hold hb2 c4
          have hW2 := below_step hW1 hb2
          clear c1 c2 c3 c4 j5 j6 j7 j8 hW1 hb2
          obtain ⟨hx, hhx⟩ : ∃ x, q0 + q2 = x := ⟨_, rfl⟩
          obtain ⟨hy, hhy⟩ : ∃ x, q1 + q3 = x := ⟨_, rfl⟩
          rw [hhx] at d3
          rw [hhy] at d4
          have hxb : q0 ≤ hx ∧ hx ≤ 510 := by omega
          have hyb : q1 ≤ hy ∧ hy ≤ 510 := by omega
          clear hhx hhy w5 w6
          have smb := box_small q0 q1 hx hy (R4 p0 p1 x1 y1) (by show 4 ≤ 12; decide) (fun p hp => by
            simp [R4] at hp
            rcases hp with rfl | rfl | rfl | rfl <;> simp <;> omega)
          have BX := Lib.hid (fun (W : World) (X : Option Addr) (hr : RingAt W X (R4 p0 p1 x1 y1)) => clip_box X 4 (R4 p0 p1 x1 y1) q0 q1 hx hy smb.1 (Nat.le_refl 4) W hr)
          have BB := Lib.hid (fun u v a b h1 h2 h3 h4 => box_box p0 p1 x1 y1 q0 q1 hx hy u v a b (by omega) (by omega) (by omega) (by omega) h1 h2 h3 h4)
          have SM := Lib.hid smb.2
          clear smb
          obtain ⟨M, hM⟩ : ∃ M, boxL q0 q1 hx hy (R4 p0 p1 x1 y1) = M := ⟨_, rfl⟩
          rw [hM] at BX BB SM
          clear hM
          have hM100 : M.length ≤ 100 := SM.out.1
          have hM100I : (M.length : Int) ≤ 100 := by omega
          obtain ⟨W2, hW⟩ : ∃ W, W = wc := ⟨_, rfl⟩
          subst hW
          have z3 := cell_lt d1
          have z4 := cell_lt d3
          go_wp2_with fail
          refine (BX.out _ (some ⟨W2.heap.size, 0, none⟩) (ring_lit W2 (R4 p0 p1 x1 y1) 26)).mono ?_
          rintro e_1 w_1 ⟨X, cap, rfl, hcap, hr, hb_1⟩
          have hb3 : Below W2.heap.size W2 w_1 := below_step (bl_alloc (Below.refl _ _) _) hb_1
          have l1 := bl_hold hb3 k1
          have l2 := bl_hold hb3 k2
          have l3 := bl_hold hb3 k3
          have l4 := bl_hold hb3 k4
          have l5 := bl_hold hb3 d1
          have l6 := bl_hold hb3 d2
          have l7 := bl_hold hb3 d3
          have l8 := bl_hold hb3 d4
          have hW3 := below_step hW2 hb3
          clear k1 k2 k3 k4 d1 d2 d3 d4 hW2 hb_1 hb3 BX
          have HR := Lib.hid (fun W (hb : Below w_1.heap.size w_1 W) => hr.bl hb)
          have HC := Lib.hid hcap
          clear hr hcap
          go_wp2_with fail
          obtain ⟨u, hu⟩ : ∃ x, max p0 q0 = x := ⟨_, rfl⟩
          obtain ⟨a, ha⟩ : ∃ x, max p1 q1 = x := ⟨_, rfl⟩
          obtain ⟨v, hv⟩ : ∃ x, min x1 hx = x := ⟨_, rfl⟩
          obtain ⟨b, hb⟩ : ∃ x, min y1 hy = x := ⟨_, rfl⟩
          go_cut [12, 13] from 35 (fun p t wx => ∃ bl1 bl2 : Nat, p = .pointer (some ⟨bl1, 0, none⟩) ∧ t = .pointer (some ⟨bl2, 0, none⟩) ∧ wx.cell? ⟨bl1, 0, none⟩ = some (.int .i64 u) ∧ wx.cell? ⟨bl1, 1, none⟩ = some (.int .i64 a) ∧ wx.cell? ⟨bl2, 0, none⟩ = some (.int .i64 v) ∧ wx.cell? ⟨bl2, 1, none⟩ = some (.int .i64 b) ∧ Below w_1.heap.size w_1 wx)
          case first =>
            have smk : ∀ w' : World, Below w_1.heap.size w_1 w' → Below w_1.heap.size w_1 w' ∧ w'.cell? ⟨bl1, 0, none⟩ = some (.int .i64 p0) ∧ w'.cell? ⟨bl1, 1, none⟩ = some (.int .i64 p1) ∧ w'.cell? ⟨bl2, 0, none⟩ = some (.int .i64 x1) ∧ w'.cell? ⟨bl2, 1, none⟩ = some (.int .i64 y1) ∧ w'.cell? ⟨bl3, 0, none⟩ = some (.int .i64 q0) ∧ w'.cell? ⟨bl3, 1, none⟩ = some (.int .i64 q1) ∧ w'.cell? ⟨bl4, 0, none⟩ = some (.int .i64 hx) ∧ w'.cell? ⟨bl4, 1, none⟩ = some (.int .i64 hy) := fun w' hw => ⟨hw, bl_hold hw l1, bl_hold hw l2, bl_hold hw l3, bl_hold hw l4, bl_hold hw l5, bl_hold hw l6, bl_hold hw l7, bl_hold hw l8⟩
            clear hW3 e1 e2 e3 e4 e5 e6 e7 e8 e9 e10 e11 e12 e13 e14 e15 e16 hx1b hy1b hxb hyb hM100 hM100I
            refine wp_region_held_drew (S := (fun w' => Below w_1.heap.size w_1 w' ∧ w'.cell? ⟨bl1, 0, none⟩ = some (.int .i64 p0) ∧ w'.cell? ⟨bl1, 1, none⟩ = some (.int .i64 p1) ∧ w'.cell? ⟨bl2, 0, none⟩ = some (.int .i64 x1) ∧ w'.cell? ⟨bl2, 1, none⟩ = some (.int .i64 y1) ∧ w'.cell? ⟨bl3, 0, none⟩ = some (.int .i64 q0) ∧ w'.cell? ⟨bl3, 1, none⟩ = some (.int .i64 q1) ∧ w'.cell? ⟨bl4, 0, none⟩ = some (.int .i64 hx) ∧ w'.cell? ⟨bl4, 1, none⟩ = some (.int .i64 hy))) (by kernel_rfl) ?_ (fun hHeld => ?_)
            · exact smk _ (by repeat (first | with_reducible exact Below.refl _ _ | with_reducible refine bl_alloc ?_ _ | with_reducible refine bl_drew ?_ | (with_reducible refine bl_set ?_ ?_ _; rotate_left; focus (first | (simp; done) | (simp; omega) | omega)) | with_reducible exact And.left (by assumption) | with_reducible refine below_step ?_ (by assumption)))
            refine take_q (i := 0) (oi := _) (d := 86) (v := .pointer (some ⟨bl1, 0, none⟩)) rfl rfl (by kernel_rfl) (by kernel_rfl) (by kernel_rfl) (fun _ _ _ h => h) (Or.inl ⟨by rfl, ?_⟩) (by assumption) ?_
            · intro w' hSw
              (try dsimp only at hSw)
              go_simp
            simp only [List.setIfInBounds_toArray, List.set_cons_zero, List.set_cons_succ]
            refine take_q (i := 1) (oi := _) (d := 87) (v := .int .i64 p0) rfl rfl (by kernel_rfl) (by kernel_rfl) (by kernel_rfl) (fun _ _ _ h => h) (Or.inl ⟨by rfl, ?_⟩) (by assumption) ?_
            · intro w' hSw
              (try dsimp only at hSw)
              go_simp
            simp only [List.setIfInBounds_toArray, List.set_cons_zero, List.set_cons_succ]
            refine take_q (i := 2) (oi := _) (d := 88) (v := .pointer (some ⟨bl3, 0, none⟩)) rfl rfl (by kernel_rfl) (by kernel_rfl) (by kernel_rfl) (fun _ _ _ h => h) (Or.inl ⟨by rfl, ?_⟩) (by assumption) ?_
            · intro w' hSw
              (try dsimp only at hSw)
              go_simp
            simp only [List.setIfInBounds_toArray, List.set_cons_zero, List.set_cons_succ]
            refine take_q (i := 3) (oi := _) (d := 89) (v := .int .i64 q0) rfl rfl (by kernel_rfl) (by kernel_rfl) (by kernel_rfl) (fun _ _ _ h => h) (Or.inl ⟨by rfl, ?_⟩) (by assumption) ?_
            · intro w' hSw
              (try dsimp only at hSw)
              go_simp
            simp only [List.setIfInBounds_toArray, List.set_cons_zero, List.set_cons_succ]
            refine take_q (i := 4) (oi := _) (d := 90) (v := .int .i64 u) rfl rfl (by kernel_rfl) (by kernel_rfl) (by kernel_rfl) (fun _ _ _ h => h) (Or.inl ⟨by rfl, ?_⟩) (by assumption) ?_
            · intro w' hSw
              (try dsimp only at hSw)
              go_simp
            simp only [List.setIfInBounds_toArray, List.set_cons_zero, List.set_cons_succ]
            refine take_q (i := 5) (oi := _) (d := 91) (v := .pointer (some ⟨bl1, 1, none⟩)) rfl rfl (by kernel_rfl) (by kernel_rfl) (by kernel_rfl) (fun _ _ _ h => h) (Or.inl ⟨by rfl, ?_⟩) (by assumption) ?_
            · intro w' hSw
              (try dsimp only at hSw)
              go_simp
            simp only [List.setIfInBounds_toArray, List.set_cons_zero, List.set_cons_succ]
            refine take_q (i := 6) (oi := _) (d := 92) (v := .int .i64 p1) rfl rfl (by kernel_rfl) (by kernel_rfl) (by kernel_rfl) (fun _ _ _ h => h) (Or.inl ⟨by rfl, ?_⟩) (by assumption) ?_
            · intro w' hSw
              (try dsimp only at hSw)
              go_simp
            simp only [List.setIfInBounds_toArray, List.set_cons_zero, List.set_cons_succ]
            refine take_q (i := 7) (oi := _) (d := 93) (v := .pointer (some ⟨bl3, 1, none⟩)) rfl rfl (by kernel_rfl) (by kernel_rfl) (by kernel_rfl) (fun _ _ _ h => h) (Or.inl ⟨by rfl, ?_⟩) (by assumption) ?_
            · intro w' hSw
              (try dsimp only at hSw)
              go_simp
            simp only [List.setIfInBounds_toArray, List.set_cons_zero, List.set_cons_succ]
            refine take_q (i := 8) (oi := _) (d := 94) (v := .int .i64 q1) rfl rfl (by kernel_rfl) (by kernel_rfl) (by kernel_rfl) (fun _ _ _ h => h) (Or.inl ⟨by rfl, ?_⟩) (by assumption) ?_
            · intro w' hSw
              (try dsimp only at hSw)
              go_simp
            simp only [List.setIfInBounds_toArray, List.set_cons_zero, List.set_cons_succ]
            refine take_q (i := 9) (oi := _) (d := 95) (v := .int .i64 a) rfl rfl (by kernel_rfl) (by kernel_rfl) (by kernel_rfl) (fun _ _ _ h => h) (Or.inl ⟨by rfl, ?_⟩) (by assumption) ?_
            · intro w' hSw
              (try dsimp only at hSw)
              go_simp
            simp only [List.setIfInBounds_toArray, List.set_cons_zero, List.set_cons_succ]
            refine take_q (i := 10) (oi := _) (d := 96) (v := .agg #[.int .i64 u, .int .i64 a]) rfl rfl (by kernel_rfl) (by kernel_rfl) (by kernel_rfl) (fun _ _ _ h => h) (Or.inl ⟨by rfl, ?_⟩) (by assumption) ?_
            · intro w' hSw
              (try dsimp only at hSw)
              go_simp
            simp only [List.setIfInBounds_toArray, List.set_cons_zero, List.set_cons_succ]
            refine take_q (i := 11) (oi := _) (d := 97) (v := .pointer (some ⟨bl2, 0, none⟩)) rfl rfl (by kernel_rfl) (by kernel_rfl) (by kernel_rfl) (fun _ _ _ h => h) (Or.inl ⟨by rfl, ?_⟩) (by assumption) ?_
            · intro w' hSw
              (try dsimp only at hSw)
              go_simp
            simp only [List.setIfInBounds_toArray, List.set_cons_zero, List.set_cons_succ]
            refine take_q (i := 12) (oi := _) (d := 98) (v := .int .i64 x1) rfl rfl (by kernel_rfl) (by kernel_rfl) (by kernel_rfl) (fun _ _ _ h => h) (Or.inl ⟨by rfl, ?_⟩) (by assumption) ?_
            · intro w' hSw
              (try dsimp only at hSw)
              go_simp
            simp only [List.setIfInBounds_toArray, List.set_cons_zero, List.set_cons_succ]
            refine take_q (i := 13) (oi := _) (d := 99) (v := .pointer (some ⟨bl4, 0, none⟩)) rfl rfl (by kernel_rfl) (by kernel_rfl) (by kernel_rfl) (fun _ _ _ h => h) (Or.inl ⟨by rfl, ?_⟩) (by assumption) ?_
            · intro w' hSw
              (try dsimp only at hSw)
              go_simp
            simp only [List.setIfInBounds_toArray, List.set_cons_zero, List.set_cons_succ]
            refine take_q (i := 14) (oi := _) (d := 100) (v := .int .i64 hx) rfl rfl (by kernel_rfl) (by kernel_rfl) (by kernel_rfl) (fun _ _ _ h => h) (Or.inl ⟨by rfl, ?_⟩) (by assumption) ?_
            · intro w' hSw
              (try dsimp only at hSw)
              go_simp
            simp only [List.setIfInBounds_toArray, List.set_cons_zero, List.set_cons_succ]
            refine take_q (i := 15) (oi := _) (d := 101) (v := .int .i64 v) rfl rfl (by kernel_rfl) (by kernel_rfl) (by kernel_rfl) (fun _ _ _ h => h) (Or.inl ⟨by rfl, ?_⟩) (by assumption) ?_
            · intro w' hSw
              (try dsimp only at hSw)
              go_simp
            simp only [List.setIfInBounds_toArray, List.set_cons_zero, List.set_cons_succ]
            refine take_q (i := 16) (oi := _) (d := 102) (v := .pointer (some ⟨bl2, 1, none⟩)) rfl rfl (by kernel_rfl) (by kernel_rfl) (by kernel_rfl) (fun _ _ _ h => h) (Or.inl ⟨by rfl, ?_⟩) (by assumption) ?_
            · intro w' hSw
              (try dsimp only at hSw)
              go_simp
            simp only [List.setIfInBounds_toArray, List.set_cons_zero, List.set_cons_succ]
            refine take_q (i := 17) (oi := _) (d := 103) (v := .int .i64 y1) rfl rfl (by kernel_rfl) (by kernel_rfl) (by kernel_rfl) (fun _ _ _ h => h) (Or.inl ⟨by rfl, ?_⟩) (by assumption) ?_
            · intro w' hSw
              (try dsimp only at hSw)
              go_simp
            simp only [List.setIfInBounds_toArray, List.set_cons_zero, List.set_cons_succ]
            refine take_q (i := 18) (oi := _) (d := 104) (v := .pointer (some ⟨bl4, 1, none⟩)) rfl rfl (by kernel_rfl) (by kernel_rfl) (by kernel_rfl) (fun _ _ _ h => h) (Or.inl ⟨by rfl, ?_⟩) (by assumption) ?_
            · intro w' hSw
              (try dsimp only at hSw)
              go_simp
            simp only [List.setIfInBounds_toArray, List.set_cons_zero, List.set_cons_succ]
            refine take_q (i := 19) (oi := _) (d := 105) (v := .int .i64 hy) rfl rfl (by kernel_rfl) (by kernel_rfl) (by kernel_rfl) (fun _ _ _ h => h) (Or.inl ⟨by rfl, ?_⟩) (by assumption) ?_
            · intro w' hSw
              (try dsimp only at hSw)
              go_simp
            simp only [List.setIfInBounds_toArray, List.set_cons_zero, List.set_cons_succ]
            refine take_q (i := 20) (oi := _) (d := 106) (v := .int .i64 b) rfl rfl (by kernel_rfl) (by kernel_rfl) (by kernel_rfl) (fun _ _ _ h => h) (Or.inl ⟨by rfl, ?_⟩) (by assumption) ?_
            · intro w' hSw
              (try dsimp only at hSw)
              go_simp
            simp only [List.setIfInBounds_toArray, List.set_cons_zero, List.set_cons_succ]
            refine take_q (i := 21) (oi := _) (d := 107) (v := .agg #[.int .i64 v, .int .i64 b]) rfl rfl (by kernel_rfl) (by kernel_rfl) (by kernel_rfl) (fun _ _ _ h => h) (Or.inl ⟨by rfl, ?_⟩) (by assumption) ?_
            · intro w' hSw
              (try dsimp only at hSw)
              go_simp
            simp only [List.setIfInBounds_toArray, List.set_cons_zero, List.set_cons_succ]
            refine wpAnyH_ready (rs := [22, 23]) (by kernel_rfl) (by simp) ?_
            refine AllReadyH.cons (o := _) rfl (fun K hK => ?_) (AllReadyH.cons (o := _) rfl (fun K hK => ?_) AllReadyH.nil)
            · go_simp
              refine hK.out _ _ ?_ (fun hHeld => ?_)
              · exact smk _ (by repeat (first | with_reducible exact Below.refl _ _ | with_reducible refine bl_alloc ?_ _ | with_reducible refine bl_drew ?_ | (with_reducible refine bl_set ?_ ?_ _; rotate_left; focus (first | (simp; done) | (simp; omega) | omega)) | with_reducible exact And.left (by assumption) | with_reducible refine below_step ?_ (by assumption)))
              clear hK K
              (try simp only [Act.put, List.setIfInBounds_toArray, List.set_cons_zero, List.set_cons_succ])
              refine wpAnyH_ready (rs := [23]) (by kernel_rfl) (by simp) ?_
              refine AllReadyH.cons (o := _) rfl (fun K hK => ?_) AllReadyH.nil
              go_simp
              refine hK.out _ _ ?_ (fun hHeld => ?_)
              · exact smk _ (by repeat (first | with_reducible exact Below.refl _ _ | with_reducible refine bl_alloc ?_ _ | with_reducible refine bl_drew ?_ | (with_reducible refine bl_set ?_ ?_ _; rotate_left; focus (first | (simp; done) | (simp; omega) | omega)) | with_reducible exact And.left (by assumption) | with_reducible refine below_step ?_ (by assumption)))
              clear hK K
              (try simp only [Act.put, List.setIfInBounds_toArray, List.set_cons_zero, List.set_cons_succ])
              refine wpAnyH_ready (rs := [24]) (by kernel_rfl) (by simp) ?_
              refine AllReadyH.cons (o := _) rfl (fun K hK => ?_) AllReadyH.nil
              go_simp
              refine hK.out _ _ ?_ (fun hHeld => ?_)
              · exact smk _ (by repeat (first | with_reducible exact Below.refl _ _ | with_reducible refine bl_alloc ?_ _ | with_reducible refine bl_drew ?_ | (with_reducible refine bl_set ?_ ?_ _; rotate_left; focus (first | (simp; done) | (simp; omega) | omega)) | with_reducible exact And.left (by assumption) | with_reducible refine below_step ?_ (by assumption)))
              clear hK K
              (try simp only [Act.put, List.setIfInBounds_toArray, List.set_cons_zero, List.set_cons_succ])
              refine wpAnyH_ready (rs := [25]) (by kernel_rfl) (by simp) ?_
              refine AllReadyH.cons (o := _) rfl (fun K hK => ?_) AllReadyH.nil
              go_simp
              refine hK.out _ _ ?_ (fun hHeld => ?_)
              · exact smk _ (by repeat (first | with_reducible exact Below.refl _ _ | with_reducible refine bl_alloc ?_ _ | with_reducible refine bl_drew ?_ | (with_reducible refine bl_set ?_ ?_ _; rotate_left; focus (first | (simp; done) | (simp; omega) | omega)) | with_reducible exact And.left (by assumption) | with_reducible refine below_step ?_ (by assumption)))
              clear hK K
              (try simp only [Act.put, List.setIfInBounds_toArray, List.set_cons_zero, List.set_cons_succ])
              refine wpAnyH_done (by kernel_rfl) ?_ _
              go_wp2_with fail
              go_meet
              exact ⟨_, _, rfl, rfl, by simp [go_sem], by simp [go_sem], by simp [go_sem], by simp [go_sem], by repeat (first | with_reducible exact Below.refl _ _ | with_reducible refine bl_alloc ?_ _ | with_reducible refine bl_drew ?_ | (with_reducible refine bl_set ?_ ?_ _; rotate_left; focus (first | (simp; done) | (simp; omega) | omega)) | with_reducible exact And.left (by assumption) | with_reducible refine below_step ?_ (by assumption))⟩
            · go_simp
              refine hK.out _ _ ?_ (fun hHeld => ?_)
              · exact smk _ (by repeat (first | with_reducible exact Below.refl _ _ | with_reducible refine bl_alloc ?_ _ | with_reducible refine bl_drew ?_ | (with_reducible refine bl_set ?_ ?_ _; rotate_left; focus (first | (simp; done) | (simp; omega) | omega)) | with_reducible exact And.left (by assumption) | with_reducible refine below_step ?_ (by assumption)))
              clear hK K
              (try simp only [Act.put, List.setIfInBounds_toArray, List.set_cons_zero, List.set_cons_succ])
              refine wpAnyH_ready (rs := [22]) (by kernel_rfl) (by simp) ?_
              refine AllReadyH.cons (o := _) rfl (fun K hK => ?_) AllReadyH.nil
              go_simp
              refine hK.out _ _ ?_ (fun hHeld => ?_)
              · exact smk _ (by repeat (first | with_reducible exact Below.refl _ _ | with_reducible refine bl_alloc ?_ _ | with_reducible refine bl_drew ?_ | (with_reducible refine bl_set ?_ ?_ _; rotate_left; focus (first | (simp; done) | (simp; omega) | omega)) | with_reducible exact And.left (by assumption) | with_reducible refine below_step ?_ (by assumption)))
              clear hK K
              (try simp only [Act.put, List.setIfInBounds_toArray, List.set_cons_zero, List.set_cons_succ])
              refine wpAnyH_ready (rs := [24]) (by kernel_rfl) (by simp) ?_
              refine AllReadyH.cons (o := _) rfl (fun K hK => ?_) AllReadyH.nil
              go_simp
              refine hK.out _ _ ?_ (fun hHeld => ?_)
              · exact smk _ (by repeat (first | with_reducible exact Below.refl _ _ | with_reducible refine bl_alloc ?_ _ | with_reducible refine bl_drew ?_ | (with_reducible refine bl_set ?_ ?_ _; rotate_left; focus (first | (simp; done) | (simp; omega) | omega)) | with_reducible exact And.left (by assumption) | with_reducible refine below_step ?_ (by assumption)))
              clear hK K
              (try simp only [Act.put, List.setIfInBounds_toArray, List.set_cons_zero, List.set_cons_succ])
              refine wpAnyH_ready (rs := [25]) (by kernel_rfl) (by simp) ?_
              refine AllReadyH.cons (o := _) rfl (fun K hK => ?_) AllReadyH.nil
              go_simp
              refine hK.out _ _ ?_ (fun hHeld => ?_)
              · exact smk _ (by repeat (first | with_reducible exact Below.refl _ _ | with_reducible refine bl_alloc ?_ _ | with_reducible refine bl_drew ?_ | (with_reducible refine bl_set ?_ ?_ _; rotate_left; focus (first | (simp; done) | (simp; omega) | omega)) | with_reducible exact And.left (by assumption) | with_reducible refine below_step ?_ (by assumption)))
              clear hK K
              (try simp only [Act.put, List.setIfInBounds_toArray, List.set_cons_zero, List.set_cons_succ])
              refine wpAnyH_done (by kernel_rfl) ?_ _
              go_wp2_with fail
              go_meet
              exact ⟨_, _, rfl, rfl, by simp [go_sem], by simp [go_sem], by simp [go_sem], by simp [go_sem], by repeat (first | with_reducible exact Below.refl _ _ | with_reducible refine bl_alloc ?_ _ | with_reducible refine bl_drew ?_ | (with_reducible refine bl_set ?_ ?_ _; rotate_left; focus (first | (simp; done) | (simp; omega) | omega)) | with_reducible exact And.left (by assumption) | with_reducible refine below_step ?_ (by assumption))⟩
          case rest =>
            obtain ⟨bl5, bl6, rfl, rfl, d1, d2, d3, d4, hb2⟩ := hcut
            have BB2 := BB.out u v a b (by omega) (by omega) (by omega) (by omega)
            obtain ⟨W4, hW⟩ : ∃ W, W = wc := ⟨_, rfl⟩
            subst hW
            have hW4 := below_step hW3 hb2
            have HR4 := Lib.hid (fun W (hb : Below W4.heap.size W4 W) => HR.out W (below_step hb2 hb))
            have FT := Lib.hid (fun W (hb : Below W4.heap.size W4 W) => ref_Fits X cap M SM.out W (HR.out W (below_step hb2 hb)))
            have HD := Lib.hid (fun W (hb : Below W4.heap.size W4 W) => (⟨bl_hold hb d1, bl_hold hb d2, bl_hold hb d3, bl_hold hb d4⟩ : _ ∧ _ ∧ _ ∧ _))
            clear hu ha hv hb hb2 hW3 HR BB l1 l2 l3 l4 l5 l6 l7 l8
            clear e1 e2 e3 e4 e5 e6 e7 e8 e9 e10 e11 e12 e13 e14 e15 e16 hx1b hy1b hxb hyb
            obtain ⟨N, hN⟩ : ∃ N, M.length = N := ⟨_, rfl⟩
            have HN := Lib.hid hN
            rw [hN] at FT hM100I ⊢
            by_cases hA : v < u ∨ b < a
            · have hN0 : N = 0 := by rw [← hN, BB2.2 hA]; rfl
              clear hN BB2 HR4 FT HD
              subst hN0
              rcases (show v < u ∨ (¬ v < u ∧ b < a) by omega) with g1 | ⟨g1, g2⟩
              · clear hA
                go_wp2_with fail
                refine (awake19 _).mono ?_
                rintro e_2 w_2 ⟨rfl, hb_2⟩
                go_wp2_with fail
                go_ret
                exact ⟨rfl, below_step hW4 hb_2⟩
              · clear hA
                go_wp2_with fail
                refine (awake19 _).mono ?_
                rintro e_2 w_2 ⟨rfl, hb_2⟩
                go_wp2_with fail
                go_ret
                exact ⟨rfl, below_step hW4 hb_2⟩
            · have FF := BB2.1 (by omega)
              have HF := Lib.hid FF.1
              have HM1 := Lib.hid (first_of (u, a) M FF.2.1)
              have HM2 := Lib.hid (first_of (v, b) M FF.2.2.1)
              have HM3 := Lib.hid (first_of (u, b) M FF.2.2.2.1)
              have HM4 := Lib.hid (first_of (v, a) M FF.2.2.2.2)
              have g1 : ¬ v < u := by omega
              have g2 : ¬ b < a := by omega
              clear hA BB2 FF hN
              go_wp2_with fail
              go_loopg [14] N (fun n i W => ∃ k : Nat, k + n = N ∧ i = .int .i64 (k : Int) ∧ Below W4.heap.size W4 W)
              case atStart => exact ⟨0, by omega, rfl, Below.refl _ _⟩
              case round =>
                obtain ⟨k, hk, rfl, hb⟩ := hrel
                obtain ⟨d1', d2', d3', d4'⟩ := HD.out _ hb
                clear d1 d2 d3 d4
                rcases (show k < N ∨ k = N by omega) with hlt | hlt
                · as_aux_lemma =>
                  obtain ⟨gr, o, rfl, c1, c2⟩ := HR4.out _ hb k (by rw [HN.out]; exact hlt)
                  have hin := HF.out (M.getD k (0, 0)) (by
                    rw [List.getD_eq_getElem?_getD, List.getElem?_eq_getElem (by rw [HN.out]; exact hlt)]
                    exact List.getElem_mem _)
                  generalize (M.getD k (0, 0)).1 = x at *
                  generalize (M.getD k (0, 0)).2 = y at *
                  have hkI : (k : Int) < (N : Int) := by omega
                  rcases (show x = u ∨ (x ≠ u ∧ x = v) by omega) with hx | ⟨hx1, hx⟩ <;> rcases (show y = a ∨ (y ≠ a ∧ y = b) by omega) with hy' | ⟨hy1, hy'⟩
                  · clear hin HM1 HM2 HM3 HM4 HN HF HR4 FT HD
                    subst hx
                    subst hy'
                    go_wp2_with fail
                    refine wp_region_quiet_lit (by kernel_rfl) (by kernel_rfl) ?_
                    repeat (with_reducible refine wpQuiet_step ?_; intro K hK; go_simp; with_reducible refine hK _ ?_; clear hK K)
                    with_reducible refine wpQuiet_nil ?_
                    intro _ hw'
                    obtain ⟨nq, hw''⟩ := hw'
                    subst hw''
                    go_wp2_with fail
                    go_roundg (N - (k + 1))
                    case measure => omega
                    case rel => exact ⟨k + 1, by omega, by go_num, by repeat (first | with_reducible exact Below.refl _ _ | with_reducible refine bl_alloc ?_ _ | with_reducible refine bl_drewN ?_ _ | with_reducible refine bl_drew ?_ | (with_reducible refine bl_set ?_ ?_ _; rotate_left; focus (first | (simp; done) | (simp; omega) | omega)) | with_reducible refine below_step ?_ (Bw.below _) | with_reducible refine below_step ?_ (by assumption))⟩
                  · clear hin HM1 HM2 HM3 HM4 HN HF HR4 FT HD
                    subst hx
                    subst hy'
                    have hyb : (y == a) = false := by simpa using hy1
                    go_wp2_with fail
                    refine wp_region_quiet_lit (by kernel_rfl) (by kernel_rfl) ?_
                    repeat (with_reducible refine wpQuiet_step ?_; intro K hK; go_simp; with_reducible refine hK _ ?_; clear hK K)
                    with_reducible refine wpQuiet_nil ?_
                    intro _ hw'
                    obtain ⟨nq, hw''⟩ := hw'
                    subst hw''
                    go_wp2_with fail
                    go_roundg (N - (k + 1))
                    case measure => omega
                    case rel => exact ⟨k + 1, by omega, by go_num, by repeat (first | with_reducible exact Below.refl _ _ | with_reducible refine bl_alloc ?_ _ | with_reducible refine bl_drewN ?_ _ | with_reducible refine bl_drew ?_ | (with_reducible refine bl_set ?_ ?_ _; rotate_left; focus (first | (simp; done) | (simp; omega) | omega)) | with_reducible refine below_step ?_ (Bw.below _) | with_reducible refine below_step ?_ (by assumption))⟩
                  · clear hin HM1 HM2 HM3 HM4 HN HF HR4 FT HD
                    subst hx
                    subst hy'
                    have hxb : (x == u) = false := by simpa using hx1
                    go_wp2_with fail
                    refine wp_region_quiet_lit (by kernel_rfl) (by kernel_rfl) ?_
                    repeat (with_reducible refine wpQuiet_step ?_; intro K hK; go_simp; with_reducible refine hK _ ?_; clear hK K)
                    with_reducible refine wpQuiet_nil ?_
                    intro _ hw'
                    obtain ⟨nq, hw''⟩ := hw'
                    subst hw''
                    go_wp2_with fail
                    go_roundg (N - (k + 1))
                    case measure => omega
                    case rel => exact ⟨k + 1, by omega, by go_num, by repeat (first | with_reducible exact Below.refl _ _ | with_reducible refine bl_alloc ?_ _ | with_reducible refine bl_drewN ?_ _ | with_reducible refine bl_drew ?_ | (with_reducible refine bl_set ?_ ?_ _; rotate_left; focus (first | (simp; done) | (simp; omega) | omega)) | with_reducible refine below_step ?_ (Bw.below _) | with_reducible refine below_step ?_ (by assumption))⟩
                  · clear hin HM1 HM2 HM3 HM4 HN HF HR4 FT HD
                    subst hx
                    subst hy'
                    have hxb : (x == u) = false := by simpa using hx1
                    have hyb : (y == a) = false := by simpa using hy1
                    go_wp2_with fail
                    refine wp_region_quiet_lit (by kernel_rfl) (by kernel_rfl) ?_
                    repeat (with_reducible refine wpQuiet_step ?_; intro K hK; go_simp; with_reducible refine hK _ ?_; clear hK K)
                    with_reducible refine wpQuiet_nil ?_
                    intro _ hw'
                    obtain ⟨nq, hw''⟩ := hw'
                    subst hw''
                    go_wp2_with fail
                    go_roundg (N - (k + 1))
                    case measure => omega
                    case rel => exact ⟨k + 1, by omega, by go_num, by repeat (first | with_reducible exact Below.refl _ _ | with_reducible refine bl_alloc ?_ _ | with_reducible refine bl_drewN ?_ _ | with_reducible refine bl_drew ?_ | (with_reducible refine bl_set ?_ ?_ _; rotate_left; focus (first | (simp; done) | (simp; omega) | omega)) | with_reducible refine below_step ?_ (Bw.below _) | with_reducible refine below_step ?_ (by assumption))⟩
                · subst hlt
                  go_wp2_with fail
                  refine wp_start (fun V => V.cell? ⟨wr.heap.size, 0, none⟩ = some (.int .i64 u) ∧ V.cell? ⟨wr.heap.size, 1, none⟩ = some (.int .i64 a) ∧ V.cell? ⟨wr.heap.size, 2, none⟩ = some (.int .i64 v) ∧ V.cell? ⟨wr.heap.size, 3, none⟩ = some (.int .i64 b) ∧ V.cell? ⟨wr.heap.size, 4, none⟩ = some (.int .i64 u) ∧ V.cell? ⟨wr.heap.size, 5, none⟩ = some (.int .i64 b) ∧ V.cell? ⟨wr.heap.size, 6, none⟩ = some (.int .i64 v) ∧ V.cell? ⟨wr.heap.size, 7, none⟩ = some (.int .i64 a) ∧ Below W4.heap.size W4 V) ⟨by first | with_reducible assumption | (simp [go_sem]; done), by first | with_reducible assumption | (simp [go_sem]; done), by first | with_reducible assumption | (simp [go_sem]; done), by first | with_reducible assumption | (simp [go_sem]; done), by first | with_reducible assumption | (simp [go_sem]; done), by first | with_reducible assumption | (simp [go_sem]; done), by first | with_reducible assumption | (simp [go_sem]; done), by first | with_reducible assumption | (simp [go_sem]; done), by repeat (first | with_reducible exact Below.refl _ _ | with_reducible refine bl_alloc ?_ _ | with_reducible refine bl_drewN ?_ _ | with_reducible refine bl_drew ?_ | (with_reducible refine bl_set ?_ ?_ _; rotate_left; focus (first | (simp; done) | (simp; omega) | omega)) | with_reducible refine below_step ?_ (Bw.below _) | with_reducible refine below_step ?_ (by assumption))⟩ ?_
                  rintro V ⟨htq1, htq2, htq3, htq4, htq5, htq6, htq7, htq8, hWtq⟩ gtq
                  have tq1 := Bw.hold htq1
                  have tq2 := Bw.hold htq2
                  have tq3 := Bw.hold htq3
                  have tq4 := Bw.hold htq4
                  have tq5 := Bw.hold htq5
                  have tq6 := Bw.hold htq6
                  have tq7 := Bw.hold htq7
                  have tq8 := Bw.hold htq8
                  have tqz1 := fun g : Bw V => cell_lt (tq1 g)
                  have tqy1 := fun g : Bw V => Nat.le_of_lt (tqz1 g)
                  clear htq1 htq2 htq3 htq4 htq5 htq6 htq7 htq8
                  clear d1' d2' d3' d4'
                  go_loopg [15, 184] 4 (fun n c i W => ∃ j : Nat, j + n = 4 ∧ i = .int .i64 (j : Int) ∧ c = .int .i64 (j : Int) ∧ Below V.heap.size V W)
                  case atStart => exact ⟨0, by omega, rfl, rfl, Bw.below gtq⟩
                  case round =>
                    clear hb
                    obtain ⟨j, hj, rfl, rfl, hb⟩ := hrel
                    obtain ⟨g, rfl⟩ := bw_of hb
                    clear hb
                    rcases (show j = 0 ∨ j = 1 ∨ j = 2 ∨ j = 3 ∨ j = 4 by omega) with h | h | h | h | h
                    · as_aux_lemma =>
                      subst h
                      obtain ⟨f, hf, hfc, hfn⟩ := HM1.out
                      have HFC := Lib.hid hfc
                      have HFN := Lib.hid hfn
                      have hfN : f < k := by have := HN.out; omega
                      have hkk := Lib.hid hk
                      clear hfc hfn hf HM1 HM2 HM3 HM4
                      go_wp2_with fail
                      refine wp_start (fun V2 => V2.cell? ⟨g.out.heap.size, 0, none⟩ = some (.int .i64 u) ∧ V2.cell? ⟨g.out.heap.size, 1, none⟩ = some (.int .i64 a) ∧ Below V.heap.size V V2) ⟨by first | with_reducible assumption | (simp [go_sem]; done) | with_reducible exact hold_al tq1 _ _ | with_reducible exact hold_al tq2 _ _ | with_reducible exact hold_al tq3 _ _ | with_reducible exact hold_al tq4 _ _ | with_reducible exact hold_al tq5 _ _ | with_reducible exact hold_al tq6 _ _ | with_reducible exact hold_al tq7 _ _ | with_reducible exact hold_al tq8 _ _ | (simp [go_sem, tq1, tq2, tq3, tq4, tq5, tq6, tq7, tq8, tqz1, tqy1]; done), by first | with_reducible assumption | (simp [go_sem]; done) | with_reducible exact hold_al tq1 _ _ | with_reducible exact hold_al tq2 _ _ | with_reducible exact hold_al tq3 _ _ | with_reducible exact hold_al tq4 _ _ | with_reducible exact hold_al tq5 _ _ | with_reducible exact hold_al tq6 _ _ | with_reducible exact hold_al tq7 _ _ | with_reducible exact hold_al tq8 _ _ | (simp [go_sem, tq1, tq2, tq3, tq4, tq5, tq6, tq7, tq8, tqz1, tqy1]; done), by repeat (first | with_reducible exact Below.refl _ _ | with_reducible refine bl_alloc ?_ _ | with_reducible refine bl_drewN ?_ _ | with_reducible refine bl_drew ?_ | (with_reducible refine bl_set ?_ ?_ _; rotate_left; focus (first | (simp; done) | (simp; omega) | omega)) | with_reducible refine below_step ?_ (Bw.below _) | with_reducible refine below_step ?_ (by assumption))⟩ ?_
                      rintro V2 ⟨htr1, htr2, hWtr⟩ gtr
                      have tr1 := Bw.hold htr1
                      have tr2 := Bw.hold htr2
                      have trz1 := fun g : Bw V2 => cell_lt (tr1 g)
                      have try1 := fun g : Bw V2 => Nat.le_of_lt (trz1 g)
                      clear htr1 htr2
                      go_loopg [15, 18] f (fun n c i W => ∃ m : Nat, m + n = f ∧ i = .int .i64 (m : Int) ∧ c = .int .i64 ((0 : Nat) : Int) ∧ Below V2.heap.size V2 W)
                      case atStart => exact ⟨0, by omega, by first | rfl | go_num, by first | rfl | go_num, Bw.below gtr⟩
                      case round =>
                        obtain ⟨m, hm, rfl, rfl, hb⟩ := hrel
                        obtain ⟨g2, rfl⟩ := bw_of hb
                        clear hb
                        obtain ⟨gr, o, e, c1, c2⟩ := HR4.out g2.out (below_step hWtq (below_step hWtr (Bw.below g2))) m (by have := HN.out; omega)
                        subst e
                        have hmI : (m : Int) < (k : Int) := by omega
                        rcases (show m < f ∨ m = f by omega) with hlt | hlt
                        · have hne := HFN.out m hlt
                          obtain ⟨⟨x, y⟩, hxy⟩ : ∃ p, M.getD m (0, 0) = p := ⟨_, rfl⟩
                          rw [hxy] at c1 c2 hne
                          change g2.out.cell? _ = some (.int .i64 x) at c1
                          change g2.out.cell? _ = some (.int .i64 y) at c2
                          have hqb : (x == u && y == a) = false := by
                            rcases hh : (x == u && y == a) with _ | _
                            · rfl
                            · simp at hh
                              exact absurd (by rw [hh.1, hh.2]) hne
                          have hq : ∀ w, (Op.equalIn 10000 26 (.agg #[.int .i64 x, .int .i64 y]) (.agg #[.int .i64 u, .int .i64 a])).run Try.prog w = .ok false w := fun w => by rw [eq_A2, hqb]
                          clear hxy hne hqb
                          go_wp2_with fail
                          go_quiet (fail)
                          go_wp2_with fail
                          go_roundg (f - (m + 1))
                          case measure => omega
                          case rel => exact ⟨m + 1, by omega, by go_num, by first | rfl | go_num, by repeat (first | with_reducible exact Below.refl _ _ | with_reducible refine bl_alloc ?_ _ | with_reducible refine bl_drewN ?_ _ | with_reducible refine bl_drew ?_ | (with_reducible refine bl_set ?_ ?_ _; rotate_left; focus (first | (simp; done) | (simp; omega) | omega)) | with_reducible refine below_step ?_ (Bw.below _) | with_reducible refine below_step ?_ (by assumption))⟩
                        · subst hlt
                          have hxy := HFC.out
                          rw [hxy] at c1 c2
                          change g2.out.cell? _ = some (.int .i64 u) at c1
                          change g2.out.cell? _ = some (.int .i64 a) at c2
                          have hq : ∀ w, (Op.equalIn 10000 26 (.agg #[.int .i64 u, .int .i64 a]) (.agg #[.int .i64 u, .int .i64 a])).run Try.prog w = .ok true w := fun w => by rw [eq_A2]; simp
                          clear hxy
                          go_wp2_with fail
                          go_quiet (fail)
                          go_wp2_with fail
                          go_roundg 3
                          case measure => omega
                          case rel => exact ⟨1, by omega, by first | rfl | go_num, by first | rfl | go_num, below_step hWtr (by repeat (first | with_reducible exact Below.refl _ _ | with_reducible refine bl_alloc ?_ _ | with_reducible refine bl_drewN ?_ _ | with_reducible refine bl_drew ?_ | (with_reducible refine bl_set ?_ ?_ _; rotate_left; focus (first | (simp; done) | (simp; omega) | omega)) | with_reducible refine below_step ?_ (Bw.below _) | with_reducible refine below_step ?_ (by assumption)))⟩
                    · as_aux_lemma =>
                      subst h
                      obtain ⟨f, hf, hfc, hfn⟩ := HM2.out
                      have HFC := Lib.hid hfc
                      have HFN := Lib.hid hfn
                      have hfN : f < k := by have := HN.out; omega
                      have hkk := Lib.hid hk
                      clear hfc hfn hf HM1 HM2 HM3 HM4
                      go_wp2_with fail
                      refine wp_start (fun V2 => V2.cell? ⟨g.out.heap.size, 0, none⟩ = some (.int .i64 v) ∧ V2.cell? ⟨g.out.heap.size, 1, none⟩ = some (.int .i64 b) ∧ Below V.heap.size V V2) ⟨by first | with_reducible assumption | (simp [go_sem]; done) | with_reducible exact hold_al tq1 _ _ | with_reducible exact hold_al tq2 _ _ | with_reducible exact hold_al tq3 _ _ | with_reducible exact hold_al tq4 _ _ | with_reducible exact hold_al tq5 _ _ | with_reducible exact hold_al tq6 _ _ | with_reducible exact hold_al tq7 _ _ | with_reducible exact hold_al tq8 _ _ | (simp [go_sem, tq1, tq2, tq3, tq4, tq5, tq6, tq7, tq8, tqz1, tqy1]; done), by first | with_reducible assumption | (simp [go_sem]; done) | with_reducible exact hold_al tq1 _ _ | with_reducible exact hold_al tq2 _ _ | with_reducible exact hold_al tq3 _ _ | with_reducible exact hold_al tq4 _ _ | with_reducible exact hold_al tq5 _ _ | with_reducible exact hold_al tq6 _ _ | with_reducible exact hold_al tq7 _ _ | with_reducible exact hold_al tq8 _ _ | (simp [go_sem, tq1, tq2, tq3, tq4, tq5, tq6, tq7, tq8, tqz1, tqy1]; done), by repeat (first | with_reducible exact Below.refl _ _ | with_reducible refine bl_alloc ?_ _ | with_reducible refine bl_drewN ?_ _ | with_reducible refine bl_drew ?_ | (with_reducible refine bl_set ?_ ?_ _; rotate_left; focus (first | (simp; done) | (simp; omega) | omega)) | with_reducible refine below_step ?_ (Bw.below _) | with_reducible refine below_step ?_ (by assumption))⟩ ?_
                      rintro V2 ⟨htr1, htr2, hWtr⟩ gtr
                      have tr1 := Bw.hold htr1
                      have tr2 := Bw.hold htr2
                      have trz1 := fun g : Bw V2 => cell_lt (tr1 g)
                      have try1 := fun g : Bw V2 => Nat.le_of_lt (trz1 g)
                      clear htr1 htr2
                      go_loopg [15, 18] f (fun n c i W => ∃ m : Nat, m + n = f ∧ i = .int .i64 (m : Int) ∧ c = .int .i64 ((1 : Nat) : Int) ∧ Below V2.heap.size V2 W)
                      case atStart => exact ⟨0, by omega, by first | rfl | go_num, by first | rfl | go_num, Bw.below gtr⟩
                      case round =>
                        obtain ⟨m, hm, rfl, rfl, hb⟩ := hrel
                        obtain ⟨g2, rfl⟩ := bw_of hb
                        clear hb
                        obtain ⟨gr, o, e, c1, c2⟩ := HR4.out g2.out (below_step hWtq (below_step hWtr (Bw.below g2))) m (by have := HN.out; omega)
                        subst e
                        have hmI : (m : Int) < (k : Int) := by omega
                        rcases (show m < f ∨ m = f by omega) with hlt | hlt
                        · have hne := HFN.out m hlt
                          obtain ⟨⟨x, y⟩, hxy⟩ : ∃ p, M.getD m (0, 0) = p := ⟨_, rfl⟩
                          rw [hxy] at c1 c2 hne
                          change g2.out.cell? _ = some (.int .i64 x) at c1
                          change g2.out.cell? _ = some (.int .i64 y) at c2
                          have hqb : (x == v && y == b) = false := by
                            rcases hh : (x == v && y == b) with _ | _
                            · rfl
                            · simp at hh
                              exact absurd (by rw [hh.1, hh.2]) hne
                          have hq : ∀ w, (Op.equalIn 10000 26 (.agg #[.int .i64 x, .int .i64 y]) (.agg #[.int .i64 v, .int .i64 b])).run Try.prog w = .ok false w := fun w => by rw [eq_A2, hqb]
                          clear hxy hne hqb
                          go_wp2_with fail
                          go_quiet (fail)
                          go_wp2_with fail
                          go_roundg (f - (m + 1))
                          case measure => omega
                          case rel => exact ⟨m + 1, by omega, by go_num, by first | rfl | go_num, by repeat (first | with_reducible exact Below.refl _ _ | with_reducible refine bl_alloc ?_ _ | with_reducible refine bl_drewN ?_ _ | with_reducible refine bl_drew ?_ | (with_reducible refine bl_set ?_ ?_ _; rotate_left; focus (first | (simp; done) | (simp; omega) | omega)) | with_reducible refine below_step ?_ (Bw.below _) | with_reducible refine below_step ?_ (by assumption))⟩
                        · subst hlt
                          have hxy := HFC.out
                          rw [hxy] at c1 c2
                          change g2.out.cell? _ = some (.int .i64 v) at c1
                          change g2.out.cell? _ = some (.int .i64 b) at c2
                          have hq : ∀ w, (Op.equalIn 10000 26 (.agg #[.int .i64 v, .int .i64 b]) (.agg #[.int .i64 v, .int .i64 b])).run Try.prog w = .ok true w := fun w => by rw [eq_A2]; simp
                          clear hxy
                          go_wp2_with fail
                          go_quiet (fail)
                          go_wp2_with fail
                          go_roundg 2
                          case measure => omega
                          case rel => exact ⟨2, by omega, by first | rfl | go_num, by first | rfl | go_num, below_step hWtr (by repeat (first | with_reducible exact Below.refl _ _ | with_reducible refine bl_alloc ?_ _ | with_reducible refine bl_drewN ?_ _ | with_reducible refine bl_drew ?_ | (with_reducible refine bl_set ?_ ?_ _; rotate_left; focus (first | (simp; done) | (simp; omega) | omega)) | with_reducible refine below_step ?_ (Bw.below _) | with_reducible refine below_step ?_ (by assumption)))⟩
                    · as_aux_lemma =>
                      subst h
                      obtain ⟨f, hf, hfc, hfn⟩ := HM3.out
                      have HFC := Lib.hid hfc
                      have HFN := Lib.hid hfn
                      have hfN : f < k := by have := HN.out; omega
                      have hkk := Lib.hid hk
                      clear hfc hfn hf HM1 HM2 HM3 HM4
                      go_wp2_with fail
                      refine wp_start (fun V2 => V2.cell? ⟨g.out.heap.size, 0, none⟩ = some (.int .i64 u) ∧ V2.cell? ⟨g.out.heap.size, 1, none⟩ = some (.int .i64 b) ∧ Below V.heap.size V V2) ⟨by first | with_reducible assumption | (simp [go_sem]; done) | with_reducible exact hold_al tq1 _ _ | with_reducible exact hold_al tq2 _ _ | with_reducible exact hold_al tq3 _ _ | with_reducible exact hold_al tq4 _ _ | with_reducible exact hold_al tq5 _ _ | with_reducible exact hold_al tq6 _ _ | with_reducible exact hold_al tq7 _ _ | with_reducible exact hold_al tq8 _ _ | (simp [go_sem, tq1, tq2, tq3, tq4, tq5, tq6, tq7, tq8, tqz1, tqy1]; done), by first | with_reducible assumption | (simp [go_sem]; done) | with_reducible exact hold_al tq1 _ _ | with_reducible exact hold_al tq2 _ _ | with_reducible exact hold_al tq3 _ _ | with_reducible exact hold_al tq4 _ _ | with_reducible exact hold_al tq5 _ _ | with_reducible exact hold_al tq6 _ _ | with_reducible exact hold_al tq7 _ _ | with_reducible exact hold_al tq8 _ _ | (simp [go_sem, tq1, tq2, tq3, tq4, tq5, tq6, tq7, tq8, tqz1, tqy1]; done), by repeat (first | with_reducible exact Below.refl _ _ | with_reducible refine bl_alloc ?_ _ | with_reducible refine bl_drewN ?_ _ | with_reducible refine bl_drew ?_ | (with_reducible refine bl_set ?_ ?_ _; rotate_left; focus (first | (simp; done) | (simp; omega) | omega)) | with_reducible refine below_step ?_ (Bw.below _) | with_reducible refine below_step ?_ (by assumption))⟩ ?_
                      rintro V2 ⟨htr1, htr2, hWtr⟩ gtr
                      have tr1 := Bw.hold htr1
                      have tr2 := Bw.hold htr2
                      have trz1 := fun g : Bw V2 => cell_lt (tr1 g)
                      have try1 := fun g : Bw V2 => Nat.le_of_lt (trz1 g)
                      clear htr1 htr2
                      go_loopg [15, 18] f (fun n c i W => ∃ m : Nat, m + n = f ∧ i = .int .i64 (m : Int) ∧ c = .int .i64 ((2 : Nat) : Int) ∧ Below V2.heap.size V2 W)
                      case atStart => exact ⟨0, by omega, by first | rfl | go_num, by first | rfl | go_num, Bw.below gtr⟩
                      case round =>
                        obtain ⟨m, hm, rfl, rfl, hb⟩ := hrel
                        obtain ⟨g2, rfl⟩ := bw_of hb
                        clear hb
                        obtain ⟨gr, o, e, c1, c2⟩ := HR4.out g2.out (below_step hWtq (below_step hWtr (Bw.below g2))) m (by have := HN.out; omega)
                        subst e
                        have hmI : (m : Int) < (k : Int) := by omega
                        rcases (show m < f ∨ m = f by omega) with hlt | hlt
                        · have hne := HFN.out m hlt
                          obtain ⟨⟨x, y⟩, hxy⟩ : ∃ p, M.getD m (0, 0) = p := ⟨_, rfl⟩
                          rw [hxy] at c1 c2 hne
                          change g2.out.cell? _ = some (.int .i64 x) at c1
                          change g2.out.cell? _ = some (.int .i64 y) at c2
                          have hqb : (x == u && y == b) = false := by
                            rcases hh : (x == u && y == b) with _ | _
                            · rfl
                            · simp at hh
                              exact absurd (by rw [hh.1, hh.2]) hne
                          have hq : ∀ w, (Op.equalIn 10000 26 (.agg #[.int .i64 x, .int .i64 y]) (.agg #[.int .i64 u, .int .i64 b])).run Try.prog w = .ok false w := fun w => by rw [eq_A2, hqb]
                          clear hxy hne hqb
                          go_wp2_with fail
                          go_quiet (fail)
                          go_wp2_with fail
                          go_roundg (f - (m + 1))
                          case measure => omega
                          case rel => exact ⟨m + 1, by omega, by go_num, by first | rfl | go_num, by repeat (first | with_reducible exact Below.refl _ _ | with_reducible refine bl_alloc ?_ _ | with_reducible refine bl_drewN ?_ _ | with_reducible refine bl_drew ?_ | (with_reducible refine bl_set ?_ ?_ _; rotate_left; focus (first | (simp; done) | (simp; omega) | omega)) | with_reducible refine below_step ?_ (Bw.below _) | with_reducible refine below_step ?_ (by assumption))⟩
                        · subst hlt
                          have hxy := HFC.out
                          rw [hxy] at c1 c2
                          change g2.out.cell? _ = some (.int .i64 u) at c1
                          change g2.out.cell? _ = some (.int .i64 b) at c2
                          have hq : ∀ w, (Op.equalIn 10000 26 (.agg #[.int .i64 u, .int .i64 b]) (.agg #[.int .i64 u, .int .i64 b])).run Try.prog w = .ok true w := fun w => by rw [eq_A2]; simp
                          clear hxy
                          go_wp2_with fail
                          go_quiet (fail)
                          go_wp2_with fail
                          go_roundg 1
                          case measure => omega
                          case rel => exact ⟨3, by omega, by first | rfl | go_num, by first | rfl | go_num, below_step hWtr (by repeat (first | with_reducible exact Below.refl _ _ | with_reducible refine bl_alloc ?_ _ | with_reducible refine bl_drewN ?_ _ | with_reducible refine bl_drew ?_ | (with_reducible refine bl_set ?_ ?_ _; rotate_left; focus (first | (simp; done) | (simp; omega) | omega)) | with_reducible refine below_step ?_ (Bw.below _) | with_reducible refine below_step ?_ (by assumption)))⟩
                    · as_aux_lemma =>
                      subst h
                      obtain ⟨f, hf, hfc, hfn⟩ := HM4.out
                      have HFC := Lib.hid hfc
                      have HFN := Lib.hid hfn
                      have hfN : f < k := by have := HN.out; omega
                      have hkk := Lib.hid hk
                      clear hfc hfn hf HM1 HM2 HM3 HM4
                      go_wp2_with fail
                      refine wp_start (fun V2 => V2.cell? ⟨g.out.heap.size, 0, none⟩ = some (.int .i64 v) ∧ V2.cell? ⟨g.out.heap.size, 1, none⟩ = some (.int .i64 a) ∧ Below V.heap.size V V2) ⟨by first | with_reducible assumption | (simp [go_sem]; done) | with_reducible exact hold_al tq1 _ _ | with_reducible exact hold_al tq2 _ _ | with_reducible exact hold_al tq3 _ _ | with_reducible exact hold_al tq4 _ _ | with_reducible exact hold_al tq5 _ _ | with_reducible exact hold_al tq6 _ _ | with_reducible exact hold_al tq7 _ _ | with_reducible exact hold_al tq8 _ _ | (simp [go_sem, tq1, tq2, tq3, tq4, tq5, tq6, tq7, tq8, tqz1, tqy1]; done), by first | with_reducible assumption | (simp [go_sem]; done) | with_reducible exact hold_al tq1 _ _ | with_reducible exact hold_al tq2 _ _ | with_reducible exact hold_al tq3 _ _ | with_reducible exact hold_al tq4 _ _ | with_reducible exact hold_al tq5 _ _ | with_reducible exact hold_al tq6 _ _ | with_reducible exact hold_al tq7 _ _ | with_reducible exact hold_al tq8 _ _ | (simp [go_sem, tq1, tq2, tq3, tq4, tq5, tq6, tq7, tq8, tqz1, tqy1]; done), by repeat (first | with_reducible exact Below.refl _ _ | with_reducible refine bl_alloc ?_ _ | with_reducible refine bl_drewN ?_ _ | with_reducible refine bl_drew ?_ | (with_reducible refine bl_set ?_ ?_ _; rotate_left; focus (first | (simp; done) | (simp; omega) | omega)) | with_reducible refine below_step ?_ (Bw.below _) | with_reducible refine below_step ?_ (by assumption))⟩ ?_
                      rintro V2 ⟨htr1, htr2, hWtr⟩ gtr
                      have tr1 := Bw.hold htr1
                      have tr2 := Bw.hold htr2
                      have trz1 := fun g : Bw V2 => cell_lt (tr1 g)
                      have try1 := fun g : Bw V2 => Nat.le_of_lt (trz1 g)
                      clear htr1 htr2
                      go_loopg [15, 18] f (fun n c i W => ∃ m : Nat, m + n = f ∧ i = .int .i64 (m : Int) ∧ c = .int .i64 ((3 : Nat) : Int) ∧ Below V2.heap.size V2 W)
                      case atStart => exact ⟨0, by omega, by first | rfl | go_num, by first | rfl | go_num, Bw.below gtr⟩
                      case round =>
                        obtain ⟨m, hm, rfl, rfl, hb⟩ := hrel
                        obtain ⟨g2, rfl⟩ := bw_of hb
                        clear hb
                        obtain ⟨gr, o, e, c1, c2⟩ := HR4.out g2.out (below_step hWtq (below_step hWtr (Bw.below g2))) m (by have := HN.out; omega)
                        subst e
                        have hmI : (m : Int) < (k : Int) := by omega
                        rcases (show m < f ∨ m = f by omega) with hlt | hlt
                        · have hne := HFN.out m hlt
                          obtain ⟨⟨x, y⟩, hxy⟩ : ∃ p, M.getD m (0, 0) = p := ⟨_, rfl⟩
                          rw [hxy] at c1 c2 hne
                          change g2.out.cell? _ = some (.int .i64 x) at c1
                          change g2.out.cell? _ = some (.int .i64 y) at c2
                          have hqb : (x == v && y == a) = false := by
                            rcases hh : (x == v && y == a) with _ | _
                            · rfl
                            · simp at hh
                              exact absurd (by rw [hh.1, hh.2]) hne
                          have hq : ∀ w, (Op.equalIn 10000 26 (.agg #[.int .i64 x, .int .i64 y]) (.agg #[.int .i64 v, .int .i64 a])).run Try.prog w = .ok false w := fun w => by rw [eq_A2, hqb]
                          clear hxy hne hqb
                          go_wp2_with fail
                          go_quiet (fail)
                          go_wp2_with fail
                          go_roundg (f - (m + 1))
                          case measure => omega
                          case rel => exact ⟨m + 1, by omega, by go_num, by first | rfl | go_num, by repeat (first | with_reducible exact Below.refl _ _ | with_reducible refine bl_alloc ?_ _ | with_reducible refine bl_drewN ?_ _ | with_reducible refine bl_drew ?_ | (with_reducible refine bl_set ?_ ?_ _; rotate_left; focus (first | (simp; done) | (simp; omega) | omega)) | with_reducible refine below_step ?_ (Bw.below _) | with_reducible refine below_step ?_ (by assumption))⟩
                        · subst hlt
                          have hxy := HFC.out
                          rw [hxy] at c1 c2
                          change g2.out.cell? _ = some (.int .i64 v) at c1
                          change g2.out.cell? _ = some (.int .i64 a) at c2
                          have hq : ∀ w, (Op.equalIn 10000 26 (.agg #[.int .i64 v, .int .i64 a]) (.agg #[.int .i64 v, .int .i64 a])).run Try.prog w = .ok true w := fun w => by rw [eq_A2]; simp
                          clear hxy
                          go_wp2_with fail
                          go_quiet (fail)
                          go_wp2_with fail
                          go_roundg 0
                          case measure => omega
                          case rel => exact ⟨4, by omega, by first | rfl | go_num, by first | rfl | go_num, below_step hWtr (by repeat (first | with_reducible exact Below.refl _ _ | with_reducible refine bl_alloc ?_ _ | with_reducible refine bl_drewN ?_ _ | with_reducible refine bl_drew ?_ | (with_reducible refine bl_set ?_ ?_ _; rotate_left; focus (first | (simp; done) | (simp; omega) | omega)) | with_reducible refine below_step ?_ (Bw.below _) | with_reducible refine below_step ?_ (by assumption)))⟩
                    · subst h
                      have FT2 := Lib.hid (FT.out g.out (below_step hWtq (Bw.below g)))
                      go_wp2_with fail
                      refine (FT2.out).mono ?_
                      rintro e_2 w_2 ⟨rfl, hb_2⟩
                      go_wp2_with fail
                      refine (awake19 _).mono ?_
                      rintro e_3 w_3 ⟨rfl, hb_3⟩
                      go_wp2_with fail
                      go_ret
                      exact ⟨rfl, below_step hW4 (below_step hWtq (below_step (Bw.below g) (below_step hb_2 hb_3)))⟩
/-! THE STATEMENT ClipBoxes -/
section
open Go.ChangeShapes Go.WideShapes Go.ChangeAt Go.RowKit Go.Joins
set_option linter.unusedVariables false
set_option maxRecDepth 100000 in
theorem clipBoxes_lifted (os : Os) (started : os.Started) (H : Type) (enc : TypeId × Value → H) :
    ReturnsInHanded {} Try.checked os 5 .any (Rows.clipBoxesSpec.pre6 enc Try.prog Try.f5 Rows.clipBoxesRow.domain false) (Rows.clipBoxesSpec.post enc Try.prog Try.f5 false true false false) := by
  refine returnsInHanded_of_change (C := Try.checked) (show ownKnob Try.prog.godebug = none by kernel_rfl) started (by kernel_rfl) Try.func5
    (ChangeSpec.witness6 (enc := enc) (C := Try.checked) false ⟨#[], #[.agg #[.int .i64 0, .int .i64 0, .int .i64 0, .int .i64 0], .agg #[.int .i64 0, .int .i64 0, .int .i64 0, .int .i64 0]], []⟩ 8 (by kernel_rfl) (by kernel_rfl) (by kernel_rfl) (by kernel_rfl)) ?_
  intro W base args ds gs before hval0 hW hcnd _
  have hval : ∀ (j : Nat) t v, Try.f5.params[j]? = some t → args[j]? = some v → Value.okWide Try.prog W .any base t v := hval0
  have hW' := hW
  obtain ⟨p, q, hA0, hV, rfl, hfz, hnd⟩ := hW
  have hA : DataW.TrodAll enc Try.prog W 0 (fun _ => true) true Try.f5.params.toList args.toList ds p := hA0
  rw [Try.params5] at hA hval
  obtain ⟨v0, vs0, d0, ds0, p0, q0, hargs, rfl, rfl, h0, r0⟩ := trodAll_cons hA
  obtain ⟨v1, vs1, d1, ds1, p1, q1, rfl, rfl, rfl, h1, r1⟩ := trodAll_cons r0
  obtain ⟨rfl, rfl, rfl⟩ := trodAll_nil r1
  obtain rfl : args = #[v0, v1] := by cases args; simp_all
  obtain ⟨rfl, rfl⟩ := trodVars_none hV
  obtain ⟨a0, a1, a2, a3, rfl, rfl, rfl, wf_a0, wf_a1, wf_a2, wf_a3⟩ := open_arr Try.underlying31 (show Try.prog.cellsOf 31 = 4 by kernel_rfl) (show Try.prog.cellsOf 2 = 1 by kernel_rfl) Try.underlying2 (hval 0 31 v0 rfl rfl) h0
  obtain ⟨b0, b1, b2, b3, rfl, rfl, rfl, wf_b0, wf_b1, wf_b2, wf_b3⟩ := open_arr Try.underlying31 (show Try.prog.cellsOf 31 = 4 by kernel_rfl) (show Try.prog.cellsOf 2 = 1 by kernel_rfl) Try.underlying2 (hval 1 31 v1 rfl rfl) h1
  clear hA0 hval0
  simp only [List.append_nil] at hW'
  refine (clipboxes_walk a0 a1 a2 a3 b0 b1 b2 b3 (wf_i64 wf_a0).1 (wf_i64 wf_a0).2 (wf_i64 wf_a1).1 (wf_i64 wf_a1).2 (wf_i64 wf_a2).1 (wf_i64 wf_a2).2 (wf_i64 wf_a3).1 (wf_i64 wf_a3).2 (wf_i64 wf_b0).1 (wf_i64 wf_b0).2 (wf_i64 wf_b1).1 (wf_i64 wf_b1).2 (wf_i64 wf_b2).1 (wf_i64 wf_b2).2 (wf_i64 wf_b3).1 (wf_i64 wf_b3).2 W).mono fun e W' ⟨he, hb⟩ => ?_
  subst he
  exact ⟨_, rfl, post_of_below (pa := []) (pv := []) hW' (fun _ _ _ => (trodAll_cons_mk (shut_bool Try.underlying4 _) trodAll_mk0)) (fun sp _ => (trodAll_cons_mk (shut_arr4 Try.underlying31 (show Try.prog.cellsOf 31 = 4 by kernel_rfl) (show Try.prog.cellsOf 2 = 1 by kernel_rfl) Try.underlying2 wf_a0 wf_a1 wf_a2 wf_a3) (trodAll_cons_mk (shut_arr4 Try.underlying31 (show Try.prog.cellsOf 31 = 4 by kernel_rfl) (show Try.prog.cellsOf 2 = 1 by kernel_rfl) Try.underlying2 wf_b0 wf_b1 wf_b2 wf_b3) trodAll_mk0))) (fun _ _ => rfl) rfl hb
    (ok_one (by kernel_rfl) rfl (okWide_bool_mk Try.underlying4 _))⟩
theorem clipBoxes_holds : Rows.ClipBoxesSaid :=
  OpenClaim.holds_of_wide 5 Try.f5 rfl rfl rfl rfl rfl rfl rfl ⟨rfl, rfl, rfl, rfl, rfl⟩ rfl rfl rfl rfl rfl (by kernel_rfl) Try.func5 (by kernel_rfl)
    (of_decide_eq_true (by kernel_rfl)) (by unfold Func.isWrapper; first | (rw [if_pos (by decide +kernel)]; kernel_rfl) | (rw [if_neg (by decide +kernel)]; exact ⟨rfl, rfl⟩))
    (fun os started H enc _ => clipBoxes_lifted os started H enc)
end
#print axioms clipBoxes_holds
end Go.Proofs.Ytnmehelejdbjaaa

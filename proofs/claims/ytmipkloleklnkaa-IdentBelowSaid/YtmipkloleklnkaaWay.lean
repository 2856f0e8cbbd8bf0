
/- The walk of cell's Way. -/
import Derived.Test.YtmipkloleklnkaaCell
import Derived.Deep.MidRow
namespace Go.Proofs.Ytmipkloleklnkaa
open Go.RowKit
set_option linter.unusedSimpArgs false
set_option linter.unusedVariables false
/-- Is a number within a base cell's bounds? -/
def inB (n : Int) : Bool := decide (-512 ≤ n ∧ n < 512)
def baseB (z : Int × Int) : Bool := inB z.1 && inB z.2
theorem way_in (n : Int) (w : World) : Calls Try.prog 67 #[.int .i64 n] w fun e w' => e = .returned (.bool (inB n)) ∧ w = w' := by
  by_cases h1 : -512 ≤ n
  · by_cases h2 : n < 512
    · rw [show inB n = true from decide_eq_true ⟨h1, h2⟩]
      go_enter Try.func67, Try.ntmps67
      go_wp2
      go_ret
      exact ⟨rfl, rfl⟩
    · rw [show inB n = false from decide_eq_false (by omega)]
      go_enter Try.func67, Try.ntmps67
      go_wp2
      go_ret
      exact ⟨rfl, rfl⟩
  · rw [show inB n = false from decide_eq_false (by omega)]
    go_enter Try.func67, Try.ntmps67
    go_wp2
    go_ret
    exact ⟨rfl, rfl⟩
/-- The digits of a cell of size R, i of them told: at j. -/
def dgAt (a b : Int) (R i j : Nat) : Int := if R - i < j ∧ j ≤ R then dgz (zz a b (R - j)).1 (zz a b (R - j)).2 else 0
theorem dgAt_zero (a b : Int) (R j : Nat) : dgAt a b R 0 j = 0 := if_neg (by omega)
theorem dgAt_here (a b : Int) (R i : Nat) (h : i < R) : dgAt a b R (i + 1) (R - i) = dgz (zz a b i).1 (zz a b i).2 := by
  unfold dgAt
  rw [if_pos (by omega), show R - (R - i) = i by omega]
theorem dgAt_else (a b : Int) (R i j : Nat) (h : i < R) (hj : j ≠ R - i) : dgAt a b R (i + 1) j = dgAt a b R i j := by
  unfold dgAt
  by_cases hc : R - i < j ∧ j ≤ R
  · rw [if_pos hc, if_pos (by omega)]
  · rw [if_neg hc, if_neg (by omega)]
def dgVal (a b : Int) (R : Nat) : Value := .agg #[.int .i64 (dgAt a b R R 0), .int .i64 (dgAt a b R R 1), .int .i64 (dgAt a b R R 2), .int .i64 (dgAt a b R R 3), .int .i64 (dgAt a b R R 4), .int .i64 (dgAt a b R R 5), .int .i64 (dgAt a b R R 6), .int .i64 (dgAt a b R R 7), .int .i64 (dgAt a b R R 8), .int .i64 (dgAt a b R R 9), .int .i64 (dgAt a b R R 10), .int .i64 (dgAt a b R R 11), .int .i64 (dgAt a b R R 12)]
theorem cell_set {W : World} {b o o' : Nat} {u v : Value} (h : W.cell? ⟨b, o, none⟩ = some u) : (W.setCell ⟨b, o, none⟩ v).cell? ⟨b, o', none⟩ = if o' = o then some v else W.cell? ⟨b, o', none⟩ := by
  by_cases e : o' = o
  · subst e
    rw [if_pos rfl]
    simp [go_sem, h]
  · rw [if_neg e]
    exact World.cell?_setCell_other _ _ _ _ (by intro h; cases h; exact e rfl)
theorem wp_name {c : Code} {P : Program} {Q : Exit → Act → World → Prop} {a : Act} {w : World} (C : World → Prop) (hC : C w) (h : ∀ W, C W → c.wp P Q a W) : c.wp P Q a w := h w hC
theorem free_set {W : World} (x y : Addr) (v : Value) : (W.setCell x v).frozen? y = W.frozen? y := by simp [go_sem]
def WayMem (W : World) (B Zb : Nat) (x y : Int) (F : Nat → Int) : Prop :=
  (W.cell? ⟨Zb, 0, none⟩ = some (.int .i64 x) ∧ W.cell? ⟨Zb, 1, none⟩ = some (.int .i64 y) ∧ W.frozen? ⟨Zb, 0, none⟩ = false ∧ W.frozen? ⟨Zb, 1, none⟩ = false) ∧
  (W.cell? ⟨B + 1, 0, none⟩ = some (.int .i64 0) ∧ W.cell? ⟨B + 1, 1, none⟩ = some (.int .i64 0) ∧ W.frozen? ⟨B + 1, 0, none⟩ = false ∧ W.frozen? ⟨B + 1, 1, none⟩ = false) ∧
  ∀ j : Nat, j < 13 → W.cell? ⟨B + 1 + 1, j, none⟩ = some (.int .i64 (F j)) ∧ W.frozen? ⟨B + 1 + 1, j, none⟩ = false
theorem WayMem.bl {W W' : World} {B Zb : Nat} {x y : Int} {F : Nat → Int} (h : WayMem W B Zb x y F) (hb : Below W.heap.size W W') : WayMem W' B Zb x y F := by
  obtain ⟨⟨a1, a2, a3, a4⟩, ⟨b1, b2, b3, b4⟩, hd⟩ := h
  exact ⟨⟨bl_hold hb a1, bl_hold hb a2, bl_free hb a1 a3, bl_free hb a2 a4⟩, ⟨bl_hold hb b1, bl_hold hb b2, bl_free hb b1 b3, bl_free hb b2 b4⟩, fun j hj => ⟨bl_hold hb (hd j hj).1, bl_free hb (hd j hj).1 (hd j hj).2⟩⟩
theorem WayMem.drew {W : World} {B Zb : Nat} {x y : Int} {F : Nat → Int} (h : WayMem W B Zb x y F) : WayMem W.drew B Zb x y F := h.bl (bl_drew (Below.refl _ _))
theorem set_other {W : World} {b c o o' : Nat} (v : Value) (h : b ≠ c) : (W.setCell ⟨c, o', none⟩ v).cell? ⟨b, o, none⟩ = W.cell? ⟨b, o, none⟩ := World.cell?_setCell_other _ _ _ _ (by intro e; cases e; exact h rfl)
theorem WayMem.setD {W : World} {B Zb : Nat} {x y : Int} {F F' : Nat → Int} (hZ : B + 1 + 1 < Zb) (n : Nat) (hn : n < 13) (v : Int) (he : ∀ j, j ≠ n → F' j = F j) (hv : F' n = v) (h : WayMem W B Zb x y F) : WayMem (W.setCell ⟨B + 1 + 1, n, none⟩ (.int .i64 v)) B Zb x y F' := by
  obtain ⟨⟨a1, a2, a3, a4⟩, ⟨b1, b2, b3, b4⟩, hd⟩ := h
  refine ⟨⟨?_, ?_, ?_, ?_⟩, ⟨?_, ?_, ?_, ?_⟩, fun j hj => ⟨?_, ?_⟩⟩
  · rw [set_other _ (by omega)]; exact a1
  · rw [set_other _ (by omega)]; exact a2
  · rw [free_set]; exact a3
  · rw [free_set]; exact a4
  · rw [set_other _ (by omega)]; exact b1
  · rw [set_other _ (by omega)]; exact b2
  · rw [free_set]; exact b3
  · rw [free_set]; exact b4
  · rw [cell_set (hd n hn).1]
    by_cases e : j = n
    · subst e
      rw [if_pos rfl, hv]
    · rw [if_neg e, he j e]
      exact (hd j hj).1
  · rw [free_set]; exact (hd j hj).2
theorem WayMem.setZ0 {W : World} {B Zb : Nat} {x x' y : Int} {F : Nat → Int} (hZ : B + 1 + 1 < Zb) (h : WayMem W B Zb x' y F) : WayMem (W.setCell ⟨Zb, 0, none⟩ (.int .i64 x)) B Zb x y F := by
  obtain ⟨⟨a1, a2, a3, a4⟩, ⟨b1, b2, b3, b4⟩, hd⟩ := h
  refine ⟨⟨?_, ?_, ?_, ?_⟩, ⟨?_, ?_, ?_, ?_⟩, fun j hj => ⟨?_, ?_⟩⟩
  · rw [cell_set a1, if_pos rfl]
  · rw [cell_set a1, if_neg (by omega)]; exact a2
  · rw [free_set]; exact a3
  · rw [free_set]; exact a4
  · rw [set_other _ (by omega)]; exact b1
  · rw [set_other _ (by omega)]; exact b2
  · rw [free_set]; exact b3
  · rw [free_set]; exact b4
  · rw [set_other _ (by omega)]; exact (hd j hj).1
  · rw [free_set]; exact (hd j hj).2
theorem WayMem.setZ1 {W : World} {B Zb : Nat} {x y y' : Int} {F : Nat → Int} (hZ : B + 1 + 1 < Zb) (h : WayMem W B Zb x y' F) : WayMem (W.setCell ⟨Zb, 1, none⟩ (.int .i64 y)) B Zb x y F := by
  obtain ⟨⟨a1, a2, a3, a4⟩, ⟨b1, b2, b3, b4⟩, hd⟩ := h
  refine ⟨⟨?_, ?_, ?_, ?_⟩, ⟨?_, ?_, ?_, ?_⟩, fun j hj => ⟨?_, ?_⟩⟩
  · rw [cell_set a2, if_neg (by omega)]; exact a1
  · rw [cell_set a2, if_pos rfl]
  · rw [free_set]; exact a3
  · rw [free_set]; exact a4
  · rw [set_other _ (by omega)]; exact b1
  · rw [set_other _ (by omega)]; exact b2
  · rw [free_set]; exact b3
  · rw [free_set]; exact b4
  · rw [set_other _ (by omega)]; exact (hd j hj).1
  · rw [free_set]; exact (hd j hj).2
theorem way_start {W : World} {B : Nat} {x y : Int} {F : Nat → Int} {e : TypeId} (hB : B + 1 + 1 < W.heap.size) (hF : ∀ j, F j = 0)
    (b1 : W.cell? ⟨B + 1, 0, none⟩ = some (.int .i64 0)) (b2 : W.cell? ⟨B + 1, 1, none⟩ = some (.int .i64 0)) (b3 : W.frozen? ⟨B + 1, 0, none⟩ = false) (b4 : W.frozen? ⟨B + 1, 1, none⟩ = false)
    (hd : ∀ j : Nat, j < 13 → W.cell? ⟨B + 1 + 1, j, none⟩ = some (.int .i64 0) ∧ W.frozen? ⟨B + 1 + 1, j, none⟩ = false) : WayMem (W.alloc (.cells #[.int .i64 x, .int .i64 y] e)) B W.heap.size x y F := by
  refine ⟨⟨by simp [go_sem], by simp [go_sem], by simp [go_sem], by simp [go_sem]⟩, ⟨?_, ?_, ?_, ?_⟩, fun j hj => ⟨?_, ?_⟩⟩
  · exact bl_hold (bl_alloc (Below.refl _ _) _) b1
  · exact bl_hold (bl_alloc (Below.refl _ _) _) b2
  · exact bl_free (bl_alloc (Below.refl _ _) _) b1 b3
  · exact bl_free (bl_alloc (Below.refl _ _) _) b2 b4
  · rw [hF]; exact bl_hold (bl_alloc (Below.refl _ _) _) (hd j hj).1
  · exact bl_free (bl_alloc (Below.refl _ _) _) (hd j hj).1 (hd j hj).2
abbrev WaySt (T : Nat) (ua ub la lb : Int) (W : World) : Prop := W.cell? ⟨T, 0, none⟩ = some (.int .i64 ua) ∧ W.cell? ⟨T, 1, none⟩ = some (.int .i64 ub) ∧ W.cell? ⟨T + 1, 0, none⟩ = some (.int .i64 la) ∧ W.cell? ⟨T + 1, 1, none⟩ = some (.int .i64 lb)
theorem WaySt.bl {T : Nat} {ua ub la lb : Int} {W W' : World} (hb : Below W.heap.size W W') (h : WaySt T ua ub la lb W) : WaySt T ua ub la lb W' := ⟨bl_hold hb h.1, bl_hold hb h.2.1, bl_hold hb h.2.2.1, bl_hold hb h.2.2.2⟩
theorem WaySt.set {T c o : Nat} {ua ub la lb : Int} {W : World} {v : Value} (hc : c < T) (h : WaySt T ua ub la lb W) : WaySt T ua ub la lb (W.setCell ⟨c, o, none⟩ v) := by
  refine ⟨?_, ?_, ?_, ?_⟩ <;> rw [set_other _ (by omega)]
  · exact h.1
  · exact h.2.1
  · exact h.2.2.1
  · exact h.2.2.2
theorem WaySt.drew {T : Nat} {ua ub la lb : Int} {W : World} (h : WaySt T ua ub la lb W) : WaySt T ua ub la lb W.drew := WaySt.bl (bl_drew (Below.refl _ _)) h
theorem ra_drew {W : World} {b o : Nat} {cs : List Value} (h : W.rangeAt b o cs) : W.drew.rangeAt b o cs := h
theorem ra_set {W : World} {b o c o' : Nat} {cs : List Value} {v : Value} (hc : b ≠ c) (h : W.rangeAt b o cs) : (W.setCell ⟨c, o', none⟩ v).rangeAt b o cs := fun j u hj => by rw [set_other _ hc]; exact h j u hj
theorem th_drew {W : World} {b o n : Nat} (h : W.there b o n) : W.drew.there b o n := h
theorem th_set {W : World} {b o c o' n : Nat} {v : Value} (hc : b ≠ c) (h : W.there b o n) : (W.setCell ⟨c, o', none⟩ v).there b o n := fun j hj => by rw [set_other _ hc, free_set]; exact h j hj
theorem sets_out {W : World} {b c o : Nat} (vs : List Value) (h : c ≠ b) : (W.setCells b 0 vs).cell? ⟨c, o, none⟩ = W.cell? ⟨c, o, none⟩ := World.cell?_setCells_out _ _ _ _ _ (by simp [h])
theorem cl_set {W : World} {b o c o' : Nat} {u v : Value} (hc : b ≠ c) (h : W.cell? ⟨b, o, none⟩ = some v) : (W.setCell ⟨c, o', none⟩ u).cell? ⟨b, o, none⟩ = some v := by rw [set_other _ hc]; exact h
theorem cl_sets {W : World} {b o c : Nat} {vs : List Value} {v : Value} (hc : b ≠ c) (h : W.cell? ⟨b, o, none⟩ = some v) : (W.setCells c 0 vs).cell? ⟨b, o, none⟩ = some v := by rw [sets_out _ hc]; exact h
theorem cl_drew {W : World} {b o : Nat} {v : Value} (h : W.cell? ⟨b, o, none⟩ = some v) : W.drew.cell? ⟨b, o, none⟩ = some v := h
theorem ra_sets {W : World} {b n : Nat} {cs : List Value} (hl : cs.length = n) (h : W.there b 0 n) : (W.setCells b 0 cs).rangeAt b 0 cs := World.rangeAt_setCells_same _ _ _ _ (by rw [hl]; exact h)
theorem th_sets {W : World} {b n : Nat} {cs : List Value} (h : W.there b 0 n) : (W.setCells b 0 cs).there b 0 n := World.there_setCells h _ _ _
theorem take_d {P : Program} {ops : Array Oper} {Q : Exit → Act → World → Prop} {md : Region.Mode} {S : World → Prop} {i : Nat} {oi : Oper} {v : Value} {fuel : Nat} {listed : Array Bool} {a : Act} {w : World} {d : Nat} (hi : ops[i]? = some oi) (hd : oi.dst = some d)
    (hs : Region.noSelect ops = true) (hf : Region.free md ops listed i = true) (hr : (Region.ready md ops listed).contains i = true)
    (hQ : ∀ c a w, Q (.panic c) (a.put oi.dst v) w → Q (.panic c) a w) (hy : YieldsIf P ops S oi v a) (hS : S w)
    (h : wpAnyH P md ops Q S fuel (listed.setIfInBounds i true) { a with tmps := a.tmps.setIfInBounds d v } w) : wpAnyH P md ops Q S (fuel + 1) listed a w :=
  wpAnyH_take hi hs hf hr hQ hy hS (by rw [hd]; exact h)
theorem store_n {P : Program} {op : Oper} {a : Act} {w : World} {K : Act → World → Prop} {Q : Exit → Act → World → Prop} (hd : op.dst = none) (ty : TypeId) (x y : Operand) (ho : op.op = .store ty x y)
    (b o : Nat) (cells : Array Value) (hx : a.eval x = .pointer (some ⟨b, o, none⟩)) (hy : a.eval y = .agg cells)
    (ht : w.there b o cells.size) (hi : (P.info? ty).map (·.size) = some cells.size) (h1 : cells.all (·.oneCell') = true)
    (h : K a (w.setCells b o cells.toList)) : op.wp P a w K Q :=
  wp_store_mid ty x y ho b o cells hx hy ht hi h1 (by rw [hd]; exact h)
theorem bl_sets {V W : World} {b : Nat} {cs : List Value} (hb : V.heap.size ≤ b) (h : Below V.heap.size V W) : Below V.heap.size V (W.setCells b 0 cs) := by
  have key : ∀ (cs : List Value) (o : Nat) (W : World), Below V.heap.size V W → Below V.heap.size V (W.setCells b o cs) := by
    intro cs
    induction cs with
    | nil => intro o W h; exact h
    | cons v r ih => intro o W h; exact ih (o + 1) _ (bl_set h hb v)
  exact key cs 0 W h
set_option maxRecDepth 100000 in
set_option maxHeartbeats 4000000 in
theorem cell_way (a b : Int) (R : Nat) (hR : R < 13) (hz : zOk a b = true) (w : World) :
    Calls Try.prog 38 #[.agg #[.int .i64 (R : Int), .int .i64 a, .int .i64 b]] w fun e w' =>
      e = .returned (.tuple #[.agg #[.int .i64 (zz a b R).1, .int .i64 (zz a b R).2], dgVal a b R, .bool (baseB (zz a b R))]) ∧ Below w.heap.size w w' := by
  obtain ⟨h1, h2, h3, h4⟩ := zOk_true hz
  have SH := cell_shape (R : Int) a b
  rw [show rsB (R : Int) = true from decide_eq_true (by omega), hz, Bool.true_and] at SH
  have HS := Lib.hid SH
  have ZB := Lib.hid (zz_bd a b 1073741824 (by omega) h1 h2 h3 h4)
  clear SH hz h1 h2 h3 h4
  go_enter Try.func38, Try.ntmps38
  go_wp2_with fail
  refine (HS.out _).mono ?_
  rintro e w1 ⟨rfl, hb1⟩
  have hZ : w.heap.size + 1 + 1 < w1.heap.size := by have := hb1.size; simp at this; omega
  have hZ0 : w.heap.size < w1.heap.size := by omega
  have c1 : w1.cell? ⟨w.heap.size, 0, none⟩ = some (.int .i64 (R : Int)) := bl_hold hb1 (by simp [go_sem])
  have c2 : w1.cell? ⟨w.heap.size, 1, none⟩ = some (.int .i64 a) := bl_hold hb1 (by simp [go_sem])
  have c3 : w1.cell? ⟨w.heap.size, 2, none⟩ = some (.int .i64 b) := bl_hold hb1 (by simp [go_sem])
  have b1 : w1.cell? ⟨w.heap.size + 1, 0, none⟩ = some (.int .i64 0) := bl_hold hb1 (by simp [go_sem])
  have b2 : w1.cell? ⟨w.heap.size + 1, 1, none⟩ = some (.int .i64 0) := bl_hold hb1 (by simp [go_sem])
  have b3 : w1.frozen? ⟨w.heap.size + 1, 0, none⟩ = false := bl_free hb1 (v := .int .i64 0) (by simp [go_sem]) (by simp [go_sem])
  have b4 : w1.frozen? ⟨w.heap.size + 1, 1, none⟩ = false := bl_free hb1 (v := .int .i64 0) (by simp [go_sem]) (by simp [go_sem])
  have hd : ∀ j : Nat, j < 13 → w1.cell? ⟨w.heap.size + 1 + 1, j, none⟩ = some (.int .i64 0) ∧ w1.frozen? ⟨w.heap.size + 1 + 1, j, none⟩ = false := by
    intro j hj
    rcases (show j = 0 ∨ j = 1 ∨ j = 2 ∨ j = 3 ∨ j = 4 ∨ j = 5 ∨ j = 6 ∨ j = 7 ∨ j = 8 ∨ j = 9 ∨ j = 10 ∨ j = 11 ∨ j = 12 by omega) with rfl | rfl | rfl | rfl | rfl | rfl | rfl | rfl | rfl | rfl | rfl | rfl | rfl
    all_goals exact ⟨bl_hold hb1 (by simp [go_sem]), bl_free hb1 (v := .int .i64 0) (by simp [go_sem]) (by simp [go_sem])⟩
  have MS := Lib.hid (way_start (x := a) (y := b) (F := dgAt a b R 0) (e := 25) hZ (dgAt_zero a b R) b1 b2 b3 b4 hd)
  have hB1 : Below w.heap.size w w1 := by repeat (first | with_reducible exact Below.refl _ _ | with_reducible refine bl_alloc ?_ _ | with_reducible refine bl_drewN ?_ _ | with_reducible refine bl_drew ?_ | (with_reducible refine bl_set ?_ ?_ _; rotate_left; focus (first | (simp; done) | (simp; omega) | omega)) | with_reducible refine below_step ?_ (Bw.below _) | with_reducible refine below_step ?_ (by assumption))
  clear b1 b2 b3 b4 hd hb1
  go_wp2_with fail
  go_loopw [6] (fun r W => ∃ i n : Nat, i + n = R ∧ r = .int .i64 n ∧ WayMem W w.heap.size w1.heap.size (zz a b i).1 (zz a b i).2 (dgAt a b R i) ∧ Below w.heap.size w W) (fun r _ => (intOf r).toNat)
  case atStart => exact ⟨0, R, by omega, rfl, MS.out, by repeat (first | with_reducible exact Below.refl _ _ | with_reducible refine bl_alloc ?_ _ | with_reducible refine bl_drewN ?_ _ | with_reducible refine bl_drew ?_ | (with_reducible refine bl_set ?_ ?_ _; rotate_left; focus (first | (simp; done) | (simp; omega) | omega)) | with_reducible refine below_step ?_ (Bw.below _) | with_reducible refine below_step ?_ (by assumption))⟩
  case round =>
    obtain ⟨i, n, hin, rfl, M, hb⟩ := hrel
    clear MS c1 c2 c3
    by_cases hn : 0 < n
    · obtain ⟨z1, z2, z3, z4⟩ := ZB.out i
      have SP := cell_split (zz a b i).1 (zz a b i).2 z1 z2 z3 z4
      have DG := cell_digit (lfA (zz a b i).1 (zz a b i).2) (lfB (zz a b i).1 (zz a b i).2)
      have hv : dgt (lfA (zz a b i).1 (zz a b i).2) (lfB (zz a b i).1 (zz a b i).2) = dgAt a b R (i + 1) n := by
        rw [show n = R - i by omega]
        exact (dgAt_here a b R i (by omega)).symm
      rw [hv] at DG
      rw [show upA (zz a b i).1 (zz a b i).2 = (zz a b (i + 1)).1 from rfl, show upB (zz a b i).1 (zz a b i).2 = (zz a b (i + 1)).2 from rfl] at SP
      clear hv z1 z2 z3 z4
      have HE : Hid (∀ j, j ≠ n → dgAt a b R (i + 1) j = dgAt a b R i j) := Lib.hid fun j hj => dgAt_else a b R i j (by omega) (by omega)
      obtain ⟨dv, hdv⟩ : ∃ dv, dgAt a b R (i + 1) n = dv := ⟨_, rfl⟩
      obtain ⟨ua, hua⟩ : ∃ ua, (zz a b (i + 1)).1 = ua := ⟨_, rfl⟩
      obtain ⟨ub, hub⟩ : ∃ ub, (zz a b (i + 1)).2 = ub := ⟨_, rfl⟩
      rw [hdv] at DG
      rw [hua, hub] at SP
      have HDV := Lib.hid hdv
      have HUA := Lib.hid hua
      have HUB := Lib.hid hub
      have HSP := Lib.hid SP
      have HDG := Lib.hid DG
      clear hdv hua hub SP DG
      generalize lfA (zz a b i).1 (zz a b i).2 = la at *
      generalize lfB (zz a b i).1 (zz a b i).2 = lb at *
      generalize (zz a b i).1 = x at *
      generalize (zz a b i).2 = y at *
      obtain ⟨F, hF⟩ : ∃ F, dgAt a b R i = F := ⟨_, rfl⟩
      rw [hF] at M
      have HF := Lib.hid hF
      clear hF
      have M0 := Lib.hid M
      obtain ⟨⟨e1, e2, e3, e4⟩, _⟩ := M
      have hn0 : (0 : Int) < (n : Int) := by omega
      have hn1 : (n : Int) < 13 := by omega
      have hn2 : n < 13 := by omega
      go_wp2_with fail
      refine (HSP.out _).mono ?_
      rintro e w3 ⟨rfl, hb3⟩
      have M1 := Lib.hid (M0.out.bl hb3)
      have hs3 : w1.heap.size < w3.heap.size := Nat.lt_of_lt_of_le (cell_lt e1) hb3.size
      have hB3 : Below w.heap.size w w3 := by repeat (first | with_reducible exact Below.refl _ _ | with_reducible refine bl_alloc ?_ _ | with_reducible refine bl_drewN ?_ _ | with_reducible refine bl_drew ?_ | (with_reducible refine bl_set ?_ ?_ _; rotate_left; focus (first | (simp; done) | (simp; omega) | omega)) | with_reducible refine below_step ?_ (Bw.below _) | with_reducible refine below_step ?_ (by assumption))
      clear M0 e1 e2 e3 e4 hb3 hb
      go_wp2_with fail
      refine wp_start (fun W => WayMem W w.heap.size w1.heap.size x y F ∧ WaySt w3.heap.size ua ub la lb W ∧ Below w.heap.size w W) ⟨M1.out.bl (by repeat (first | with_reducible exact Below.refl _ _ | with_reducible refine bl_alloc ?_ _ | with_reducible refine bl_drewN ?_ _ | with_reducible refine bl_drew ?_ | (with_reducible refine bl_set ?_ ?_ _; rotate_left; focus (first | (simp; done) | (simp; omega) | omega)) | with_reducible refine below_step ?_ (Bw.below _) | with_reducible refine below_step ?_ (by assumption))), ⟨by simp [go_sem], by simp [go_sem], by simp [go_sem], by simp [go_sem]⟩, by repeat (first | with_reducible exact Below.refl _ _ | with_reducible refine bl_alloc ?_ _ | with_reducible refine bl_drewN ?_ _ | with_reducible refine bl_drew ?_ | (with_reducible refine bl_set ?_ ?_ _; rotate_left; focus (first | (simp; done) | (simp; omega) | omega)) | with_reducible refine below_step ?_ (Bw.below _) | with_reducible refine below_step ?_ (by assumption))⟩ ?_
      rintro V ⟨M2, ST2, hb2⟩ g
      clear M1 hB3
      have M3 := Lib.hid M2
      obtain ⟨⟨e1, e2, e3, e4⟩, _, hd⟩ := M2
      obtain ⟨d1, d2⟩ := hd n hn2
      obtain ⟨f1, f2, f3, f4⟩ := ST2
      have k1 := Bw.hold e1
      have k2 := Bw.hold e2
      have k3 := Bw.free e1 e3
      have k4 := Bw.free e2 e4
      have k5 := Bw.hold d1
      have k6 := Bw.free d1 d2
      have l1 := Bw.hold f1
      have l2 := Bw.hold f2
      have l3 := Bw.hold f3
      have l4 := Bw.hold f4
      clear hd e1 e2 e3 e4 d1 d2 f1 f2 f3 f4
      go_region_held3 (fun W => W.cell? ⟨w3.heap.size, 0, none⟩ = some (.int .i64 ua) ∧ W.cell? ⟨w3.heap.size, 1, none⟩ = some (.int .i64 ub) ∧ W.cell? ⟨w3.heap.size + 1, 0, none⟩ = some (.int .i64 la) ∧ W.cell? ⟨w3.heap.size + 1, 1, none⟩ = some (.int .i64 lb))
        (repeat (first | with_reducible exact ⟨l1 _, l2 _, l3 _, l4 _⟩ | with_reducible refine WaySt.drew ?_ | with_reducible refine WaySt.set (by omega) ?_))
        (first
          | (go_at_call 66; refine (HDG.out _).mono ?_; rintro e w9 ⟨rfl, hb9⟩; obtain ⟨g3, rfl⟩ := bw_of (show Below V.heap.size V w9 by repeat (first | with_reducible exact Below.refl _ _ | with_reducible refine bl_alloc ?_ _ | with_reducible refine bl_drewN ?_ _ | with_reducible refine bl_drew ?_ | (with_reducible refine bl_set ?_ ?_ _; rotate_left; focus (first | (simp; done) | (simp; omega) | omega)) | with_reducible refine below_step ?_ (Bw.below _) | with_reducible refine below_step ?_ (by assumption)))))
      go_wp2_with fail
      go_roundw
      case rel =>
        refine ⟨i + 1, n - 1, by omega, by rw [Value.int.injEq]; exact ⟨rfl, by omega⟩, ?_, ?_⟩
        · rw [HUA.out, HUB.out]
          exact WayMem.setZ1 hZ (WayMem.setZ0 hZ (WayMem.setD (F := F) hZ n hn2 dv (fun j hj => by rw [HE.out j hj, HF.out]) HDV.out (M3.out.bl g3.below)))
        · repeat (first | with_reducible exact Below.refl _ _ | with_reducible refine bl_alloc ?_ _ | with_reducible refine bl_drewN ?_ _ | with_reducible refine bl_drew ?_ | (with_reducible refine bl_set ?_ ?_ _; rotate_left; focus (first | (simp; done) | (simp; omega) | omega)) | with_reducible refine below_step ?_ (Bw.below _) | with_reducible refine below_step ?_ (by assumption))
      case measure => simp [intOf]; omega
    · obtain rfl : n = 0 := by omega
      obtain rfl : i = R := by omega
      clear ZB HS
      obtain ⟨⟨e1, e2, e3, e4⟩, ⟨b1, b2, b3, b4⟩, hd⟩ := M
      obtain ⟨x, hxx⟩ : ∃ x, (zz a b i).1 = x := ⟨_, rfl⟩
      obtain ⟨y, hyy⟩ : ∃ y, (zz a b i).2 = y := ⟨_, rfl⟩
      rw [hxx] at e1
      rw [hyy] at e2
      have HXE := Lib.hid hxx
      have HYE := Lib.hid hyy
      clear hxx hyy
      have hu := Try.underlying69
      have hi13 : (Try.prog.info? 69).map (·.size) = some 13 := by kernel_rfl
      have hcs : wr.rangeAt (w.heap.size + 1 + 1) 0 [.int .i64 (dgAt a b i i 0), .int .i64 (dgAt a b i i 1), .int .i64 (dgAt a b i i 2), .int .i64 (dgAt a b i i 3), .int .i64 (dgAt a b i i 4), .int .i64 (dgAt a b i i 5), .int .i64 (dgAt a b i i 6), .int .i64 (dgAt a b i i 7), .int .i64 (dgAt a b i i 8), .int .i64 (dgAt a b i i 9), .int .i64 (dgAt a b i i 10), .int .i64 (dgAt a b i i 11), .int .i64 (dgAt a b i i 12)] := by
        intro j v hj
        rw [Nat.zero_add]
        rcases Nat.lt_or_ge j 13 with h | h
        · rw [(hd j h).1]
          rcases (show j = 0 ∨ j = 1 ∨ j = 2 ∨ j = 3 ∨ j = 4 ∨ j = 5 ∨ j = 6 ∨ j = 7 ∨ j = 8 ∨ j = 9 ∨ j = 10 ∨ j = 11 ∨ j = 12 by omega) with rfl | rfl | rfl | rfl | rfl | rfl | rfl | rfl | rfl | rfl | rfl | rfl | rfl <;> exact hj
        · rw [List.getElem?_eq_none (by simpa using h)] at hj
          cases hj
      have hth : wr.there (w.heap.size + 1 + 1) 0 13 := fun j hj => by rw [Nat.zero_add]; exact ⟨by rw [(hd j hj).1]; rfl, (hd j hj).2⟩
      clear hd
      obtain ⟨cs, hce⟩ : ∃ cs : List Value, [.int .i64 (dgAt a b i i 0), .int .i64 (dgAt a b i i 1), .int .i64 (dgAt a b i i 2), .int .i64 (dgAt a b i i 3), .int .i64 (dgAt a b i i 4), .int .i64 (dgAt a b i i 5), .int .i64 (dgAt a b i i 6), .int .i64 (dgAt a b i i 7), .int .i64 (dgAt a b i i 8), .int .i64 (dgAt a b i i 9), .int .i64 (dgAt a b i i 10), .int .i64 (dgAt a b i i 11), .int .i64 (dgAt a b i i 12)] = cs := ⟨_, rfl⟩
      rw [hce] at hcs
      have hlen : cs.length = 13 := by rw [← hce]; rfl
      have hone : ∀ v ∈ cs, v.oneCell' = true := by rw [← hce]; simp [Value.oneCell']
      have HCE := Lib.hid hce
      clear hce
      rw [← hlen] at hi13
      rcases hx : inB x with _ | _
      · have IX := way_in x
        rw [hx] at IX
        have HX := Lib.hid IX
        have hbase : baseB (zz a b i) = false := by unfold baseB; rw [HXE.out, hx]; rfl
        have HB := Lib.hid hbase
        clear IX hbase
        go_wp2_with fail
        refine wp_region_noPanic ?_
        refine wp_region_held_drew (S := (fun W => W.cell? ⟨w1.heap.size, 0, none⟩ = some (.int .i64 x) ∧ W.cell? ⟨w1.heap.size, 1, none⟩ = some (.int .i64 y) ∧ W.rangeAt (w.heap.size + 1 + 1) 0 cs ∧ W.there (w.heap.size + 1 + 1) 0 13)) (by kernel_rfl) ?_ (fun hHeld => ?_)
        · refine ⟨?_, ?_, ?_, ?_⟩ <;> (repeat (first | with_reducible assumption | with_reducible refine cl_drew ?_ | with_reducible refine cl_set (by omega) ?_ | with_reducible refine cl_sets (by omega) ?_ | with_reducible refine ra_drew ?_ | with_reducible refine th_drew ?_ | with_reducible refine ra_sets hlen ?_ | with_reducible refine th_sets ?_ | with_reducible refine ra_set (by omega) ?_ | with_reducible refine th_set (by omega) ?_))
        refine take_d (i := 0) (oi := _) (d := 33) (v := .agg #[.int .i64 x, .int .i64 y]) rfl rfl (by kernel_rfl) (by kernel_rfl) (by kernel_rfl) (fun _ _ _ h => h) (Or.inl ⟨by rfl, ?_⟩) (by assumption) ?_
        · intro w' hSw
          (try dsimp only at hSw)
          go_simp
        simp only [List.setIfInBounds_toArray, List.set_cons_zero, List.set_cons_succ]
        refine take_d (i := 1) (oi := _) (d := 34) (v := .agg cs.toArray) rfl rfl (by kernel_rfl) (by kernel_rfl) (by kernel_rfl) (fun _ _ _ h => h)
          (yieldsIf_load_mid (by rfl) _ _ rfl (w.heap.size + 1 + 1) 0 rfl cs _ (fun w' hSw => hSw.2.2.1) hu rfl hi13) (by assumption) ?_
        simp only [List.setIfInBounds_toArray, List.set_cons_zero, List.set_cons_succ]
        refine take_d (i := 2) (oi := _) (d := 35) (v := .func (.func 67) #[] #[]) rfl rfl (by kernel_rfl) (by kernel_rfl) (by kernel_rfl) (fun _ _ _ h => h) (Or.inl ⟨by rfl, ?_⟩) (by assumption) ?_
        · intro w' hSw
          (try dsimp only at hSw)
          go_simp
        simp only [List.setIfInBounds_toArray, List.set_cons_zero, List.set_cons_succ]
        refine take_d (i := 3) (oi := _) (d := 36) (v := .pointer (some ⟨w1.heap.size, 0, none⟩)) rfl rfl (by kernel_rfl) (by kernel_rfl) (by kernel_rfl) (fun _ _ _ h => h) (Or.inl ⟨by rfl, ?_⟩) (by assumption) ?_
        · intro w' hSw
          (try dsimp only at hSw)
          go_simp
        simp only [List.setIfInBounds_toArray, List.set_cons_zero, List.set_cons_succ]
        refine take_d (i := 4) (oi := _) (d := 37) (v := .int .i64 x) rfl rfl (by kernel_rfl) (by kernel_rfl) (by kernel_rfl) (fun _ _ _ h => h) (Or.inl ⟨by rfl, ?_⟩) (by assumption) ?_
        · intro w' hSw
          (try dsimp only at hSw)
          go_simp
        simp only [List.setIfInBounds_toArray, List.set_cons_zero, List.set_cons_succ]
        refine wpAnyH_ready (rs := [5]) (by kernel_rfl) (by simp) ?_
        refine AllReadyH.cons (o := _) rfl (fun K hK => ?_) AllReadyH.nil
        go_simp
        refine (HX.out _).mono ?_
        rintro e w9 ⟨rfl, rfl⟩
        go_wp2_with fail
        refine hK.out _ _ ?_ (fun hHeld => ?_)
        · refine ⟨?_, ?_, ?_, ?_⟩ <;> (repeat (first | with_reducible assumption | with_reducible refine cl_drew ?_ | with_reducible refine cl_set (by omega) ?_ | with_reducible refine cl_sets (by omega) ?_ | with_reducible refine ra_drew ?_ | with_reducible refine th_drew ?_ | with_reducible refine ra_sets hlen ?_ | with_reducible refine th_sets ?_ | with_reducible refine ra_set (by omega) ?_ | with_reducible refine th_set (by omega) ?_))
        clear hK K
        (try simp only [List.setIfInBounds_toArray, List.set_cons_zero, List.set_cons_succ])
        refine take_d (i := 6) (oi := _) (d := 39) (v := .bool false) rfl rfl (by kernel_rfl) (by kernel_rfl) (by kernel_rfl) (fun _ _ _ h => h) (Or.inl ⟨by rfl, ?_⟩) (by assumption) ?_
        · intro w' hSw
          (try dsimp only at hSw)
          go_simp
        simp only [List.setIfInBounds_toArray, List.set_cons_zero, List.set_cons_succ]
        refine take_d (i := 7) (oi := _) (d := 40) (v := undef) rfl rfl (by kernel_rfl) (by kernel_rfl) (by kernel_rfl) (fun _ _ _ h => h) (Or.inr ⟨by rfl, rfl⟩) (by assumption) ?_
        simp only [List.setIfInBounds_toArray, List.set_cons_zero, List.set_cons_succ]
        refine take_d (i := 8) (oi := _) (d := 41) (v := undef) rfl rfl (by kernel_rfl) (by kernel_rfl) (by kernel_rfl) (fun _ _ _ h => h) (Or.inr ⟨by rfl, rfl⟩) (by assumption) ?_
        simp only [List.setIfInBounds_toArray, List.set_cons_zero, List.set_cons_succ]
        refine take_d (i := 9) (oi := _) (d := 42) (v := undef) rfl rfl (by kernel_rfl) (by kernel_rfl) (by kernel_rfl) (fun _ _ _ h => h) (Or.inr ⟨by rfl, rfl⟩) (by assumption) ?_
        simp only [List.setIfInBounds_toArray, List.set_cons_zero, List.set_cons_succ]
        refine take_d (i := 10) (oi := _) (d := 43) (v := undef) rfl rfl (by kernel_rfl) (by kernel_rfl) (by kernel_rfl) (fun _ _ _ h => h) (Or.inr ⟨by rfl, rfl⟩) (by assumption) ?_
        simp only [List.setIfInBounds_toArray, List.set_cons_zero, List.set_cons_succ]
        refine take_d (i := 11) (oi := _) (d := 44) (v := .bool false) rfl rfl (by kernel_rfl) (by kernel_rfl) (by kernel_rfl) (fun _ _ _ h => h) (Or.inl ⟨by rfl, ?_⟩) (by assumption) ?_
        · intro w' hSw
          (try dsimp only at hSw)
          go_simp
        simp only [List.setIfInBounds_toArray, List.set_cons_zero, List.set_cons_succ]
        refine wpAnyH_ready (rs := [12]) (by kernel_rfl) (by simp) ?_
        refine AllReadyH.cons (o := _) rfl (fun K hK => ?_) AllReadyH.nil
        go_simp
        refine hK.out _ _ ?_ (fun hHeld => ?_)
        · refine ⟨?_, ?_, ?_, ?_⟩ <;> (repeat (first | with_reducible assumption | with_reducible refine cl_drew ?_ | with_reducible refine cl_set (by omega) ?_ | with_reducible refine cl_sets (by omega) ?_ | with_reducible refine ra_drew ?_ | with_reducible refine th_drew ?_ | with_reducible refine ra_sets hlen ?_ | with_reducible refine th_sets ?_ | with_reducible refine ra_set (by omega) ?_ | with_reducible refine th_set (by omega) ?_))
        clear hK K
        (try simp only [List.setIfInBounds_toArray, List.set_cons_zero, List.set_cons_succ])
        refine wpAnyH_ready (rs := [13]) (by kernel_rfl) (by simp) ?_
        refine AllReadyH.cons (o := _) rfl (fun K hK => ?_) AllReadyH.nil
        rw [if_pos (by rfl)]
        refine store_n rfl _ _ _ rfl (w.heap.size + 1 + 1) 0 cs.toArray rfl rfl ?_ ?_ (all_oneCell_toArray hone) ?_
        · simp only [List.size_toArray, hlen]
          exact hHeld.2.2.2
        · simp only [List.size_toArray]
          exact hi13
        simp only [List.toList_toArray]
        refine hK.out _ _ ?_ (fun hHeld => ?_)
        · refine ⟨?_, ?_, ?_, ?_⟩ <;> (repeat (first | with_reducible assumption | with_reducible refine cl_drew ?_ | with_reducible refine cl_set (by omega) ?_ | with_reducible refine cl_sets (by omega) ?_ | with_reducible refine ra_drew ?_ | with_reducible refine th_drew ?_ | with_reducible refine ra_sets hlen ?_ | with_reducible refine th_sets ?_ | with_reducible refine ra_set (by omega) ?_ | with_reducible refine th_set (by omega) ?_))
        clear hK K
        (try simp only [List.setIfInBounds_toArray, List.set_cons_zero, List.set_cons_succ])
        refine take_d (i := 14) (oi := _) (d := 4) (v := .bool false) rfl rfl (by kernel_rfl) (by kernel_rfl) (by kernel_rfl) (fun _ _ _ h => h) (Or.inl ⟨by rfl, ?_⟩) (by assumption) ?_
        · intro w' hSw
          (try dsimp only at hSw)
          go_simp
        simp only [List.setIfInBounds_toArray, List.set_cons_zero, List.set_cons_succ]
        refine wpAnyH_done (by kernel_rfl) ?_ _
        refine NoPanic.normal ?_
        have hfin := hHeld.2.2.1
        have r0 := hfin 0 (.int .i64 (dgAt a b i i 0)) (by rw [← HCE.out]; rfl)
        have r1 := hfin 1 (.int .i64 (dgAt a b i i 1)) (by rw [← HCE.out]; rfl)
        have r2 := hfin 2 (.int .i64 (dgAt a b i i 2)) (by rw [← HCE.out]; rfl)
        have r3 := hfin 3 (.int .i64 (dgAt a b i i 3)) (by rw [← HCE.out]; rfl)
        have r4 := hfin 4 (.int .i64 (dgAt a b i i 4)) (by rw [← HCE.out]; rfl)
        have r5 := hfin 5 (.int .i64 (dgAt a b i i 5)) (by rw [← HCE.out]; rfl)
        have r6 := hfin 6 (.int .i64 (dgAt a b i i 6)) (by rw [← HCE.out]; rfl)
        have r7 := hfin 7 (.int .i64 (dgAt a b i i 7)) (by rw [← HCE.out]; rfl)
        have r8 := hfin 8 (.int .i64 (dgAt a b i i 8)) (by rw [← HCE.out]; rfl)
        have r9 := hfin 9 (.int .i64 (dgAt a b i i 9)) (by rw [← HCE.out]; rfl)
        have r10 := hfin 10 (.int .i64 (dgAt a b i i 10)) (by rw [← HCE.out]; rfl)
        have r11 := hfin 11 (.int .i64 (dgAt a b i i 11)) (by rw [← HCE.out]; rfl)
        have r12 := hfin 12 (.int .i64 (dgAt a b i i 12)) (by rw [← HCE.out]; rfl)
        simp only [Nat.zero_add] at r0 r1 r2 r3 r4 r5 r6 r7 r8 r9 r10 r11 r12
        have so : ∀ (W : World) (vs : List Value) (o : Nat), (W.setCells (w.heap.size + 1 + 1) 0 vs).cell? ⟨w.heap.size + 1, o, none⟩ = W.cell? ⟨w.heap.size + 1, o, none⟩ := fun W vs o => sets_out vs (by omega)
        clear hfin hHeld hcs hth
        go_wp2_with fail
        refine bodyPost_ret (v := .tuple #[.agg #[.int .i64 x, .int .i64 y], dgVal a b i, .bool false]) (by simp [results, Try.results38, go_sem, dgVal, so, b1, b2, r0, r1, r2, r3, r4, r5, r6, r7, r8, r9, r10, r11, r12]) rfl ⟨by rw [HXE.out, HYE.out, HB.out], by repeat (first | with_reducible exact Below.refl _ _ | with_reducible refine bl_alloc ?_ _ | with_reducible refine bl_drewN ?_ _ | with_reducible refine bl_drew ?_ | (with_reducible refine bl_sets ?_ ?_; focus omega) | (with_reducible refine bl_set ?_ ?_ _; rotate_left; focus (first | (simp; done) | (simp; omega) | omega)) | with_reducible refine below_step ?_ (by assumption))⟩
      · rcases hy : inB y with _ | _
        · have IX := way_in x
          rw [hx] at IX
          have HX := Lib.hid IX
          have IY := way_in y
          rw [hy] at IY
          have HY := Lib.hid IY
          have hbase : baseB (zz a b i) = false := by unfold baseB; rw [HXE.out, HYE.out, hx, hy]; rfl
          have HB := Lib.hid hbase
          clear IX IY hbase
          go_wp2_with fail
          go_region_held3 (fun W => W.cell? ⟨w1.heap.size, 0, none⟩ = some (.int .i64 x) ∧ W.cell? ⟨w1.heap.size, 1, none⟩ = some (.int .i64 y) ∧ W.rangeAt (w.heap.size + 1 + 1) 0 cs ∧ W.there (w.heap.size + 1 + 1) 0 13)
            (refine ⟨?_, ?_, ?_, ?_⟩ <;> (repeat (first | with_reducible assumption | with_reducible refine cl_drew ?_ | with_reducible refine cl_set (by omega) ?_ | with_reducible refine cl_sets (by omega) ?_ | with_reducible refine ra_drew ?_ | with_reducible refine th_drew ?_ | with_reducible refine ra_sets hlen ?_ | with_reducible refine th_sets ?_ | with_reducible refine ra_set (by omega) ?_ | with_reducible refine th_set (by omega) ?_)))
            (first
              | (go_at_call 67; refine (HX.out _).mono ?_; rintro e w9 ⟨rfl, rfl⟩)
              | (go_at_call 67; refine (HY.out _).mono ?_; rintro e w9 ⟨rfl, rfl⟩))
          rename_i hHeld
          have hfin := hHeld.2.2.1
          have r0 := hfin 0 (.int .i64 (dgAt a b i i 0)) (by rw [← HCE.out]; rfl)
          have r1 := hfin 1 (.int .i64 (dgAt a b i i 1)) (by rw [← HCE.out]; rfl)
          have r2 := hfin 2 (.int .i64 (dgAt a b i i 2)) (by rw [← HCE.out]; rfl)
          have r3 := hfin 3 (.int .i64 (dgAt a b i i 3)) (by rw [← HCE.out]; rfl)
          have r4 := hfin 4 (.int .i64 (dgAt a b i i 4)) (by rw [← HCE.out]; rfl)
          have r5 := hfin 5 (.int .i64 (dgAt a b i i 5)) (by rw [← HCE.out]; rfl)
          have r6 := hfin 6 (.int .i64 (dgAt a b i i 6)) (by rw [← HCE.out]; rfl)
          have r7 := hfin 7 (.int .i64 (dgAt a b i i 7)) (by rw [← HCE.out]; rfl)
          have r8 := hfin 8 (.int .i64 (dgAt a b i i 8)) (by rw [← HCE.out]; rfl)
          have r9 := hfin 9 (.int .i64 (dgAt a b i i 9)) (by rw [← HCE.out]; rfl)
          have r10 := hfin 10 (.int .i64 (dgAt a b i i 10)) (by rw [← HCE.out]; rfl)
          have r11 := hfin 11 (.int .i64 (dgAt a b i i 11)) (by rw [← HCE.out]; rfl)
          have r12 := hfin 12 (.int .i64 (dgAt a b i i 12)) (by rw [← HCE.out]; rfl)
          simp only [Nat.zero_add] at r0 r1 r2 r3 r4 r5 r6 r7 r8 r9 r10 r11 r12
          have so : ∀ (W : World) (vs : List Value) (o : Nat), (W.setCells (w.heap.size + 1 + 1) 0 vs).cell? ⟨w.heap.size + 1, o, none⟩ = W.cell? ⟨w.heap.size + 1, o, none⟩ := fun W vs o => sets_out vs (by omega)
          clear hfin hHeld hcs hth
          go_wp2_with fail
          refine bodyPost_ret (v := .tuple #[.agg #[.int .i64 x, .int .i64 y], dgVal a b i, .bool false]) (by simp [results, Try.results38, go_sem, dgVal, so, b1, b2, r0, r1, r2, r3, r4, r5, r6, r7, r8, r9, r10, r11, r12]) rfl ⟨by rw [HXE.out, HYE.out, HB.out], by repeat (first | with_reducible exact Below.refl _ _ | with_reducible refine bl_alloc ?_ _ | with_reducible refine bl_drewN ?_ _ | with_reducible refine bl_drew ?_ | (with_reducible refine bl_sets ?_ ?_; focus omega) | (with_reducible refine bl_set ?_ ?_ _; rotate_left; focus (first | (simp; done) | (simp; omega) | omega)) | with_reducible refine below_step ?_ (by assumption))⟩
        · have IX := way_in x
          rw [hx] at IX
          have HX := Lib.hid IX
          have IY := way_in y
          rw [hy] at IY
          have HY := Lib.hid IY
          have hbase : baseB (zz a b i) = true := by unfold baseB; rw [HXE.out, HYE.out, hx, hy]; rfl
          have HB := Lib.hid hbase
          clear IX IY hbase
          go_wp2_with fail
          go_region_held3 (fun W => W.cell? ⟨w1.heap.size, 0, none⟩ = some (.int .i64 x) ∧ W.cell? ⟨w1.heap.size, 1, none⟩ = some (.int .i64 y) ∧ W.rangeAt (w.heap.size + 1 + 1) 0 cs ∧ W.there (w.heap.size + 1 + 1) 0 13)
            (refine ⟨?_, ?_, ?_, ?_⟩ <;> (repeat (first | with_reducible assumption | with_reducible refine cl_drew ?_ | with_reducible refine cl_set (by omega) ?_ | with_reducible refine cl_sets (by omega) ?_ | with_reducible refine ra_drew ?_ | with_reducible refine th_drew ?_ | with_reducible refine ra_sets hlen ?_ | with_reducible refine th_sets ?_ | with_reducible refine ra_set (by omega) ?_ | with_reducible refine th_set (by omega) ?_)))
            (first
              | (go_at_call 67; refine (HX.out _).mono ?_; rintro e w9 ⟨rfl, rfl⟩)
              | (go_at_call 67; refine (HY.out _).mono ?_; rintro e w9 ⟨rfl, rfl⟩))
          rename_i hHeld
          have hfin := hHeld.2.2.1
          have r0 := hfin 0 (.int .i64 (dgAt a b i i 0)) (by rw [← HCE.out]; rfl)
          have r1 := hfin 1 (.int .i64 (dgAt a b i i 1)) (by rw [← HCE.out]; rfl)
          have r2 := hfin 2 (.int .i64 (dgAt a b i i 2)) (by rw [← HCE.out]; rfl)
          have r3 := hfin 3 (.int .i64 (dgAt a b i i 3)) (by rw [← HCE.out]; rfl)
          have r4 := hfin 4 (.int .i64 (dgAt a b i i 4)) (by rw [← HCE.out]; rfl)
          have r5 := hfin 5 (.int .i64 (dgAt a b i i 5)) (by rw [← HCE.out]; rfl)
          have r6 := hfin 6 (.int .i64 (dgAt a b i i 6)) (by rw [← HCE.out]; rfl)
          have r7 := hfin 7 (.int .i64 (dgAt a b i i 7)) (by rw [← HCE.out]; rfl)
          have r8 := hfin 8 (.int .i64 (dgAt a b i i 8)) (by rw [← HCE.out]; rfl)
          have r9 := hfin 9 (.int .i64 (dgAt a b i i 9)) (by rw [← HCE.out]; rfl)
          have r10 := hfin 10 (.int .i64 (dgAt a b i i 10)) (by rw [← HCE.out]; rfl)
          have r11 := hfin 11 (.int .i64 (dgAt a b i i 11)) (by rw [← HCE.out]; rfl)
          have r12 := hfin 12 (.int .i64 (dgAt a b i i 12)) (by rw [← HCE.out]; rfl)
          simp only [Nat.zero_add] at r0 r1 r2 r3 r4 r5 r6 r7 r8 r9 r10 r11 r12
          have so : ∀ (W : World) (vs : List Value) (o : Nat), (W.setCells (w.heap.size + 1 + 1) 0 vs).cell? ⟨w.heap.size + 1, o, none⟩ = W.cell? ⟨w.heap.size + 1, o, none⟩ := fun W vs o => sets_out vs (by omega)
          clear hfin hHeld hcs hth
          go_wp2_with fail
          refine bodyPost_ret (v := .tuple #[.agg #[.int .i64 x, .int .i64 y], dgVal a b i, .bool true]) (by simp [results, Try.results38, go_sem, dgVal, so, b1, b2, r0, r1, r2, r3, r4, r5, r6, r7, r8, r9, r10, r11, r12]) rfl ⟨by rw [HXE.out, HYE.out, HB.out], by repeat (first | with_reducible exact Below.refl _ _ | with_reducible refine bl_alloc ?_ _ | with_reducible refine bl_drewN ?_ _ | with_reducible refine bl_drew ?_ | (with_reducible refine bl_sets ?_ ?_; focus omega) | (with_reducible refine bl_set ?_ ?_ _; rotate_left; focus (first | (simp; done) | (simp; omega) | omega)) | with_reducible refine below_step ?_ (by assumption))⟩
end Go.Proofs.Ytmipkloleklnkaa

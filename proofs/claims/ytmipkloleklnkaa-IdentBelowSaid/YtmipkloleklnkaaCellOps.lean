
/- The walks of cell's Ok, Parent, Digit, climb, Up, Base. -/
import Derived.Test.YtmipkloleklnkaaWay
namespace Go.Proofs.Ytmipkloleklnkaa
open Go.RowKit
set_option linter.unusedSimpArgs false
set_option linter.unusedVariables false
/-- May a cell be? -/
def okB (r a b : Int) : Bool := rsB r && zOk a b && baseB (zz a b r.toNat)
theorem okB_true {r a b : Int} (h : okB r a b = true) : (0 ≤ r ∧ r ≤ 12) ∧ zOk a b = true ∧ baseB (zz a b r.toNat) = true := by
  unfold okB at h
  rw [Bool.and_eq_true, Bool.and_eq_true] at h
  exact ⟨of_decide_eq_true h.1.1, h.1.2, h.2⟩
set_option maxRecDepth 100000 in
set_option maxHeartbeats 2000000 in
theorem cell_way_no (r a b : Int) (h : (rsB r && zOk a b) = false) (w : World) :
    Calls Try.prog 38 #[.agg #[.int .i64 r, .int .i64 a, .int .i64 b]] w fun e w' =>
      e = .returned (.tuple #[.agg #[.int .i64 0, .int .i64 0], .agg #[.int .i64 0, .int .i64 0, .int .i64 0, .int .i64 0, .int .i64 0, .int .i64 0, .int .i64 0, .int .i64 0, .int .i64 0, .int .i64 0, .int .i64 0, .int .i64 0, .int .i64 0], .bool false]) ∧ Below w.heap.size w w' := by
  have SH := cell_shape r a b
  rw [h] at SH
  have HS := Lib.hid SH
  clear SH h
  go_enter Try.func38, Try.ntmps38
  go_wp2_with fail
  refine calls_start (fun V => V.cell? ⟨w.heap.size, 0, none⟩ = some (.int .i64 r) ∧ V.cell? ⟨w.heap.size, 1, none⟩ = some (.int .i64 a) ∧ V.cell? ⟨w.heap.size, 2, none⟩ = some (.int .i64 b) ∧ V.cell? ⟨w.heap.size + 1, 0, none⟩ = some (.int .i64 0) ∧ V.frozen? ⟨w.heap.size + 1, 0, none⟩ = false ∧ V.cell? ⟨w.heap.size + 1, 1, none⟩ = some (.int .i64 0) ∧ V.frozen? ⟨w.heap.size + 1, 1, none⟩ = false ∧ V.cell? ⟨w.heap.size + 1 + 1, 0, none⟩ = some (.int .i64 0) ∧ V.frozen? ⟨w.heap.size + 1 + 1, 0, none⟩ = false ∧ V.cell? ⟨w.heap.size + 1 + 1, 1, none⟩ = some (.int .i64 0) ∧ V.frozen? ⟨w.heap.size + 1 + 1, 1, none⟩ = false ∧ V.cell? ⟨w.heap.size + 1 + 1, 2, none⟩ = some (.int .i64 0) ∧ V.frozen? ⟨w.heap.size + 1 + 1, 2, none⟩ = false ∧ V.cell? ⟨w.heap.size + 1 + 1, 3, none⟩ = some (.int .i64 0) ∧ V.frozen? ⟨w.heap.size + 1 + 1, 3, none⟩ = false ∧ V.cell? ⟨w.heap.size + 1 + 1, 4, none⟩ = some (.int .i64 0) ∧ V.frozen? ⟨w.heap.size + 1 + 1, 4, none⟩ = false ∧ V.cell? ⟨w.heap.size + 1 + 1, 5, none⟩ = some (.int .i64 0) ∧ V.frozen? ⟨w.heap.size + 1 + 1, 5, none⟩ = false ∧ V.cell? ⟨w.heap.size + 1 + 1, 6, none⟩ = some (.int .i64 0) ∧ V.frozen? ⟨w.heap.size + 1 + 1, 6, none⟩ = false ∧ V.cell? ⟨w.heap.size + 1 + 1, 7, none⟩ = some (.int .i64 0) ∧ V.frozen? ⟨w.heap.size + 1 + 1, 7, none⟩ = false ∧ V.cell? ⟨w.heap.size + 1 + 1, 8, none⟩ = some (.int .i64 0) ∧ V.frozen? ⟨w.heap.size + 1 + 1, 8, none⟩ = false ∧ V.cell? ⟨w.heap.size + 1 + 1, 9, none⟩ = some (.int .i64 0) ∧ V.frozen? ⟨w.heap.size + 1 + 1, 9, none⟩ = false ∧ V.cell? ⟨w.heap.size + 1 + 1, 10, none⟩ = some (.int .i64 0) ∧ V.frozen? ⟨w.heap.size + 1 + 1, 10, none⟩ = false ∧ V.cell? ⟨w.heap.size + 1 + 1, 11, none⟩ = some (.int .i64 0) ∧ V.frozen? ⟨w.heap.size + 1 + 1, 11, none⟩ = false ∧ V.cell? ⟨w.heap.size + 1 + 1, 12, none⟩ = some (.int .i64 0) ∧ V.frozen? ⟨w.heap.size + 1 + 1, 12, none⟩ = false ∧ Below w.heap.size w V) ⟨by first | with_reducible assumption | (simp [go_sem]; done), by first | with_reducible assumption | (simp [go_sem]; done), by first | with_reducible assumption | (simp [go_sem]; done), by first | with_reducible assumption | (simp [go_sem]; done), by first | with_reducible assumption | (simp [go_sem]; done), by first | with_reducible assumption | (simp [go_sem]; done), by first | with_reducible assumption | (simp [go_sem]; done), by first | with_reducible assumption | (simp [go_sem]; done), by first | with_reducible assumption | (simp [go_sem]; done), by first | with_reducible assumption | (simp [go_sem]; done), by first | with_reducible assumption | (simp [go_sem]; done), by first | with_reducible assumption | (simp [go_sem]; done), by first | with_reducible assumption | (simp [go_sem]; done), by first | with_reducible assumption | (simp [go_sem]; done), by first | with_reducible assumption | (simp [go_sem]; done), by first | with_reducible assumption | (simp [go_sem]; done), by first | with_reducible assumption | (simp [go_sem]; done), by first | with_reducible assumption | (simp [go_sem]; done), by first | with_reducible assumption | (simp [go_sem]; done), by first | with_reducible assumption | (simp [go_sem]; done), by first | with_reducible assumption | (simp [go_sem]; done), by first | with_reducible assumption | (simp [go_sem]; done), by first | with_reducible assumption | (simp [go_sem]; done), by first | with_reducible assumption | (simp [go_sem]; done), by first | with_reducible assumption | (simp [go_sem]; done), by first | with_reducible assumption | (simp [go_sem]; done), by first | with_reducible assumption | (simp [go_sem]; done), by first | with_reducible assumption | (simp [go_sem]; done), by first | with_reducible assumption | (simp [go_sem]; done), by first | with_reducible assumption | (simp [go_sem]; done), by first | with_reducible assumption | (simp [go_sem]; done), by first | with_reducible assumption | (simp [go_sem]; done), by first | with_reducible assumption | (simp [go_sem]; done), by repeat (first | with_reducible exact Below.refl _ _ | with_reducible refine bl_alloc ?_ _ | with_reducible refine bl_drewN ?_ _ | with_reducible refine bl_drew ?_ | (with_reducible refine bl_set ?_ ?_ _; rotate_left; focus (first | (simp; done) | (simp; omega) | omega)) | with_reducible refine below_step ?_ (Bw.below _) | with_reducible refine below_step ?_ (by assumption))⟩ ?_
  rintro V ⟨hc1, hc2, hc3, hc4, fc4, hc5, fc5, hc6, fc6, hc7, fc7, hc8, fc8, hc9, fc9, hc10, fc10, hc11, fc11, hc12, fc12, hc13, fc13, hc14, fc14, hc15, fc15, hc16, fc16, hc17, fc17, hc18, fc18, hWc⟩ gc
  have c1 := Bw.hold hc1
  have c2 := Bw.hold hc2
  have c3 := Bw.hold hc3
  have c4 := Bw.hold hc4
  have cf4 := Bw.free hc4 fc4
  have c5 := Bw.hold hc5
  have cf5 := Bw.free hc5 fc5
  have c6 := Bw.hold hc6
  have cf6 := Bw.free hc6 fc6
  have c7 := Bw.hold hc7
  have cf7 := Bw.free hc7 fc7
  have c8 := Bw.hold hc8
  have cf8 := Bw.free hc8 fc8
  have c9 := Bw.hold hc9
  have cf9 := Bw.free hc9 fc9
  have c10 := Bw.hold hc10
  have cf10 := Bw.free hc10 fc10
  have c11 := Bw.hold hc11
  have cf11 := Bw.free hc11 fc11
  have c12 := Bw.hold hc12
  have cf12 := Bw.free hc12 fc12
  have c13 := Bw.hold hc13
  have cf13 := Bw.free hc13 fc13
  have c14 := Bw.hold hc14
  have cf14 := Bw.free hc14 fc14
  have c15 := Bw.hold hc15
  have cf15 := Bw.free hc15 fc15
  have c16 := Bw.hold hc16
  have cf16 := Bw.free hc16 fc16
  have c17 := Bw.hold hc17
  have cf17 := Bw.free hc17 fc17
  have c18 := Bw.hold hc18
  have cf18 := Bw.free hc18 fc18
  have cz1 := fun g : Bw V => cell_lt (c1 g)
  have cy1 := fun g : Bw V => Nat.le_of_lt (cz1 g)
  have cz4 := fun g : Bw V => cell_lt (c4 g)
  have cy4 := fun g : Bw V => Nat.le_of_lt (cz4 g)
  have cz6 := fun g : Bw V => cell_lt (c6 g)
  have cy6 := fun g : Bw V => Nat.le_of_lt (cz6 g)
  clear hc1 hc2 hc3 hc4 fc4 hc5 fc5 hc6 fc6 hc7 fc7 hc8 fc8 hc9 fc9 hc10 fc10 hc11 fc11 hc12 fc12 hc13 fc13 hc14 fc14 hc15 fc15 hc16 fc16 hc17 fc17 hc18 fc18
  refine (HS.out _).mono ?_
  rintro e_g2 w_g2 ⟨rfl, hb_g2⟩
  obtain ⟨g2, rfl⟩ := gc.next hb_g2
  clear hb_g2
  go_wp2_with fail
  have i1 := c1 g2
  have i2 := c2 g2
  have i3 := c3 g2
  have i4 := c4 g2
  have if4 := cf4 g2
  have i5 := c5 g2
  have if5 := cf5 g2
  have i6 := c6 g2
  have if6 := cf6 g2
  have i7 := c7 g2
  have if7 := cf7 g2
  have i8 := c8 g2
  have if8 := cf8 g2
  have i9 := c9 g2
  have if9 := cf9 g2
  have i10 := c10 g2
  have if10 := cf10 g2
  have i11 := c11 g2
  have if11 := cf11 g2
  have i12 := c12 g2
  have if12 := cf12 g2
  have i13 := c13 g2
  have if13 := cf13 g2
  have i14 := c14 g2
  have if14 := cf14 g2
  have i15 := c15 g2
  have if15 := cf15 g2
  have i16 := c16 g2
  have if16 := cf16 g2
  have i17 := c17 g2
  have if17 := cf17 g2
  have i18 := c18 g2
  have if18 := cf18 g2
  have hWi := below_step hWc (Bw.below g2)
  clear c1 c2 c3 c4 cf4 c5 cf5 c6 cf6 c7 cf7 c8 cf8 c9 cf9 c10 cf10 c11 cf11 c12 cf12 c13 cf13 c14 cf14 c15 cf15 c16 cf16 c17 cf17 c18 cf18 cz1 cy1 cz4 cy4 cz6 cy6
  generalize Bw.out g2 = w0 at *
  go_region
  all_goals go_wp2_with fail
  all_goals refine bodyPost_ret (v := .tuple #[.agg #[.int .i64 0, .int .i64 0], .agg #[.int .i64 0, .int .i64 0, .int .i64 0, .int .i64 0, .int .i64 0, .int .i64 0, .int .i64 0, .int .i64 0, .int .i64 0, .int .i64 0, .int .i64 0, .int .i64 0, .int .i64 0], .bool false]) (by simp [results, Try.results38, go_sem, i1, i2, i3, i4, i5, i6, i7, i8, i9, i10, i11, i12, i13, i14, i15, i16, i17, i18]) rfl ⟨rfl, by repeat (first | with_reducible exact Below.refl _ _ | with_reducible refine bl_alloc ?_ _ | with_reducible refine bl_drewN ?_ _ | with_reducible refine bl_drew ?_ | (with_reducible refine bl_set ?_ ?_ _; rotate_left; focus (first | (simp; done) | (simp; omega) | omega)) | with_reducible refine below_step ?_ (Bw.below _) | with_reducible refine below_step ?_ (by assumption))⟩
set_option maxRecDepth 100000 in
set_option maxHeartbeats 1000000 in
theorem cell_ok (r a b : Int) (w : World) :
    Calls Try.prog 46 #[.agg #[.int .i64 r, .int .i64 a, .int .i64 b]] w fun e w' => e = .returned (.bool (okB r a b)) ∧ Below w.heap.size w w' := by
  have WY : ∃ (z1 z2 d0 d1 d2 d3 d4 d5 d6 d7 d8 d9 d10 d11 d12 : Int), Hid (∀ w, Calls Try.prog 38 #[.agg #[.int .i64 r, .int .i64 a, .int .i64 b]] w fun e w' =>
      e = .returned (.tuple #[.agg #[.int .i64 z1, .int .i64 z2], .agg #[.int .i64 d0, .int .i64 d1, .int .i64 d2, .int .i64 d3, .int .i64 d4, .int .i64 d5, .int .i64 d6, .int .i64 d7, .int .i64 d8, .int .i64 d9, .int .i64 d10, .int .i64 d11, .int .i64 d12], .bool (okB r a b)]) ∧ Below w.heap.size w w') := by
    rcases h : (rsB r && zOk a b) with _ | _
    · have e : okB r a b = false := by unfold okB; rw [h]; rfl
      have W0 := cell_way_no r a b h
      rw [← e] at W0
      exact ⟨_, _, _, _, _, _, _, _, _, _, _, _, _, _, _, Lib.hid W0⟩
    · rw [Bool.and_eq_true] at h
      have hr := rsB_true h.1
      obtain ⟨R, rfl⟩ : ∃ R : Nat, r = (R : Int) := ⟨r.toNat, by omega⟩
      have e : okB (R : Int) a b = baseB (zz a b R) := by unfold okB; rw [h.1, h.2, Int.toNat_natCast]; rfl
      have W0 := cell_way a b R (by omega) h.2
      unfold dgVal at W0
      rw [← e] at W0
      exact ⟨_, _, _, _, _, _, _, _, _, _, _, _, _, _, _, Lib.hid W0⟩
  obtain ⟨z1, z2, d0, d1, d2, d3, d4, d5, d6, d7, d8, d9, d10, d11, d12, WY⟩ := WY
  generalize okB r a b = ob at *
  go_enter Try.func46, Try.ntmps46
  go_wp2_with fail
  refine calls_start (fun V => V.cell? ⟨w.heap.size, 0, none⟩ = some (.int .i64 r) ∧ V.cell? ⟨w.heap.size, 1, none⟩ = some (.int .i64 a) ∧ V.cell? ⟨w.heap.size, 2, none⟩ = some (.int .i64 b) ∧ Below w.heap.size w V) ⟨by first | with_reducible assumption | (simp [go_sem]; done), by first | with_reducible assumption | (simp [go_sem]; done), by first | with_reducible assumption | (simp [go_sem]; done), by repeat (first | with_reducible exact Below.refl _ _ | with_reducible refine bl_alloc ?_ _ | with_reducible refine bl_drewN ?_ _ | with_reducible refine bl_drew ?_ | (with_reducible refine bl_set ?_ ?_ _; rotate_left; focus (first | (simp; done) | (simp; omega) | omega)) | with_reducible refine below_step ?_ (Bw.below _) | with_reducible refine below_step ?_ (by assumption))⟩ ?_
  rintro V ⟨hc1, hc2, hc3, hWc⟩ gc
  have c1 := Bw.hold hc1
  have c2 := Bw.hold hc2
  have c3 := Bw.hold hc3
  have cz1 := fun g : Bw V => cell_lt (c1 g)
  have cy1 := fun g : Bw V => Nat.le_of_lt (cz1 g)
  clear hc1 hc2 hc3
  refine (WY.out _).mono ?_
  rintro e_g2 w_g2 ⟨rfl, hb_g2⟩
  obtain ⟨g2, rfl⟩ := gc.next hb_g2
  clear hb_g2
  go_wp2_with fail
  go_ret
  exact ⟨rfl, by repeat (first | with_reducible exact Below.refl _ _ | with_reducible refine bl_alloc ?_ _ | with_reducible refine bl_drewN ?_ _ | with_reducible refine bl_drew ?_ | (with_reducible refine bl_set ?_ ?_ _; rotate_left; focus (first | (simp; done) | (simp; omega) | omega)) | with_reducible refine below_step ?_ (Bw.below _) | with_reducible refine below_step ?_ (by assumption))⟩
theorem cell13 (W : World) (x : Obj) (e : TypeId) (F : Nat → Int) (R : Nat) (hR : R < 13) : ((W.alloc x).alloc (.cells #[.int .i64 (F 0), .int .i64 (F 1), .int .i64 (F 2), .int .i64 (F 3), .int .i64 (F 4), .int .i64 (F 5), .int .i64 (F 6), .int .i64 (F 7), .int .i64 (F 8), .int .i64 (F 9), .int .i64 (F 10), .int .i64 (F 11), .int .i64 (F 12)] e)).cell? ⟨W.heap.size + 1, R, none⟩ = some (.int .i64 (F R)) := by
  rcases (show R = 0 ∨ R = 1 ∨ R = 2 ∨ R = 3 ∨ R = 4 ∨ R = 5 ∨ R = 6 ∨ R = 7 ∨ R = 8 ∨ R = 9 ∨ R = 10 ∨ R = 11 ∨ R = 12 by omega) with rfl | rfl | rfl | rfl | rfl | rfl | rfl | rfl | rfl | rfl | rfl | rfl | rfl <;> simp [go_sem]
/-- Which of its parent's a cell is; -1: of none. -/
def digV (r a b : Int) : Int := if okB r a b = true ∧ r ≠ 0 then dgz a b else -1
set_option maxRecDepth 100000 in
set_option maxHeartbeats 2000000 in
theorem cell_Digit (r a b : Int) (w : World) :
    Calls Try.prog 24 #[.agg #[.int .i64 r, .int .i64 a, .int .i64 b]] w fun e w' => e = .returned (.int .i64 (digV r a b)) ∧ Below w.heap.size w w' := by
  rcases h : (rsB r && zOk a b) with _ | _
  · have WY := Lib.hid (cell_way_no r a b h)
    have e : okB r a b = false := by unfold okB; rw [h]; rfl
    have ed : digV r a b = -1 := by unfold digV; rw [e]; simp
    rw [ed]
    clear h e ed
    go_enter Try.func24, Try.ntmps24
    go_wp2_with fail
    refine calls_start (fun V => V.cell? ⟨w.heap.size, 0, none⟩ = some (.int .i64 r) ∧ V.cell? ⟨w.heap.size, 1, none⟩ = some (.int .i64 a) ∧ V.cell? ⟨w.heap.size, 2, none⟩ = some (.int .i64 b) ∧ Below w.heap.size w V) ⟨by first | with_reducible assumption | (simp [go_sem]; done), by first | with_reducible assumption | (simp [go_sem]; done), by first | with_reducible assumption | (simp [go_sem]; done), by repeat (first | with_reducible exact Below.refl _ _ | with_reducible refine bl_alloc ?_ _ | with_reducible refine bl_drewN ?_ _ | with_reducible refine bl_drew ?_ | (with_reducible refine bl_set ?_ ?_ _; rotate_left; focus (first | (simp; done) | (simp; omega) | omega)) | with_reducible refine below_step ?_ (Bw.below _) | with_reducible refine below_step ?_ (by assumption))⟩ ?_
    rintro V ⟨hc1, hc2, hc3, hWc⟩ gc
    have c1 := Bw.hold hc1
    have c2 := Bw.hold hc2
    have c3 := Bw.hold hc3
    have cz1 := fun g : Bw V => cell_lt (c1 g)
    have cy1 := fun g : Bw V => Nat.le_of_lt (cz1 g)
    clear hc1 hc2 hc3
    refine (WY.out _).mono ?_
    rintro e_g2 w_g2 ⟨rfl, hb_g2⟩
    obtain ⟨g2, rfl⟩ := gc.next hb_g2
    clear hb_g2
    go_wp2_with fail
    go_ret
    exact ⟨rfl, by repeat (first | with_reducible exact Below.refl _ _ | with_reducible refine bl_alloc ?_ _ | with_reducible refine bl_drewN ?_ _ | with_reducible refine bl_drew ?_ | (with_reducible refine bl_set ?_ ?_ _; rotate_left; focus (first | (simp; done) | (simp; omega) | omega)) | with_reducible refine below_step ?_ (Bw.below _) | with_reducible refine below_step ?_ (by assumption))⟩
  · rw [Bool.and_eq_true] at h
    have hr := rsB_true h.1
    obtain ⟨R, rfl⟩ : ∃ R : Nat, r = (R : Int) := ⟨r.toNat, by omega⟩
    have hR : R < 13 := by omega
    have e : okB (R : Int) a b = baseB (zz a b R) := by unfold okB; rw [h.1, h.2, Int.toNat_natCast]; rfl
    have WY0 := cell_way a b R hR h.2
    unfold dgVal at WY0
    unfold digV
    rw [e]
    clear e h hr
    generalize (zz a b R).1 = z1 at *
    generalize (zz a b R).2 = z2 at *
    have hF : 0 < R → dgAt a b R R R = dgz a b := by
      intro h0
      unfold dgAt
      rw [if_pos (by omega), Nat.sub_self]
      rfl
    generalize dgAt a b R R = F at *
    rcases hb : baseB (zz a b R) with _ | _
    · rw [hb] at WY0
      have WY := Lib.hid WY0
      clear WY0 hb
      rw [if_neg (by simp)]
      go_enter Try.func24, Try.ntmps24
      go_wp2_with fail
      refine calls_start (fun V => V.cell? ⟨w.heap.size, 0, none⟩ = some (.int .i64 (R : Int)) ∧ V.cell? ⟨w.heap.size, 1, none⟩ = some (.int .i64 a) ∧ V.cell? ⟨w.heap.size, 2, none⟩ = some (.int .i64 b) ∧ Below w.heap.size w V) ⟨by first | with_reducible assumption | (simp [go_sem]; done), by first | with_reducible assumption | (simp [go_sem]; done), by first | with_reducible assumption | (simp [go_sem]; done), by repeat (first | with_reducible exact Below.refl _ _ | with_reducible refine bl_alloc ?_ _ | with_reducible refine bl_drewN ?_ _ | with_reducible refine bl_drew ?_ | (with_reducible refine bl_set ?_ ?_ _; rotate_left; focus (first | (simp; done) | (simp; omega) | omega)) | with_reducible refine below_step ?_ (Bw.below _) | with_reducible refine below_step ?_ (by assumption))⟩ ?_
      rintro V ⟨hc1, hc2, hc3, hWc⟩ gc
      have c1 := Bw.hold hc1
      have c2 := Bw.hold hc2
      have c3 := Bw.hold hc3
      have cz1 := fun g : Bw V => cell_lt (c1 g)
      have cy1 := fun g : Bw V => Nat.le_of_lt (cz1 g)
      clear hc1 hc2 hc3
      refine (WY.out _).mono ?_
      rintro e_g2 w_g2 ⟨rfl, hb_g2⟩
      obtain ⟨g2, rfl⟩ := gc.next hb_g2
      clear hb_g2
      go_wp2_with fail
      go_ret
      exact ⟨rfl, by repeat (first | with_reducible exact Below.refl _ _ | with_reducible refine bl_alloc ?_ _ | with_reducible refine bl_drewN ?_ _ | with_reducible refine bl_drew ?_ | (with_reducible refine bl_set ?_ ?_ _; rotate_left; focus (first | (simp; done) | (simp; omega) | omega)) | with_reducible refine below_step ?_ (Bw.below _) | with_reducible refine below_step ?_ (by assumption))⟩
    · rw [hb] at WY0
      have WY := Lib.hid WY0
      clear WY0 hb
      by_cases h0 : 0 < R
      · rw [if_pos ⟨rfl, by omega⟩, ← hF h0]
        clear hF
        have n0 : (0 : Int) < (R : Int) := by omega
        have n1 : (R : Int) < 13 := by omega
        have n2 : ((R : Int) == 0) = false := by simp; omega
        go_enter Try.func24, Try.ntmps24
        go_wp2_with fail
        refine calls_start (fun V => V.cell? ⟨w.heap.size, 0, none⟩ = some (.int .i64 (R : Int)) ∧ V.cell? ⟨w.heap.size, 1, none⟩ = some (.int .i64 a) ∧ V.cell? ⟨w.heap.size, 2, none⟩ = some (.int .i64 b) ∧ Below w.heap.size w V) ⟨by first | with_reducible assumption | (simp [go_sem]; done), by first | with_reducible assumption | (simp [go_sem]; done), by first | with_reducible assumption | (simp [go_sem]; done), by repeat (first | with_reducible exact Below.refl _ _ | with_reducible refine bl_alloc ?_ _ | with_reducible refine bl_drewN ?_ _ | with_reducible refine bl_drew ?_ | (with_reducible refine bl_set ?_ ?_ _; rotate_left; focus (first | (simp; done) | (simp; omega) | omega)) | with_reducible refine below_step ?_ (Bw.below _) | with_reducible refine below_step ?_ (by assumption))⟩ ?_
        rintro V ⟨hc1, hc2, hc3, hWc⟩ gc
        have c1 := Bw.hold hc1
        have c2 := Bw.hold hc2
        have c3 := Bw.hold hc3
        have cz1 := fun g : Bw V => cell_lt (c1 g)
        have cy1 := fun g : Bw V => Nat.le_of_lt (cz1 g)
        clear hc1 hc2 hc3
        refine (WY.out _).mono ?_
        rintro e_h w_h ⟨rfl, hb_h⟩
        obtain ⟨g2, rfl⟩ := gc.next hb_h
        clear hb_h
        go_upto_region 2 with fail
        have q0 := cell13 g2.out (.cells #[.int .i64 z1, .int .i64 z2] 25) 69 F R hR
        refine wp_start (fun V2 => V2.cell? ⟨w.heap.size, 0, none⟩ = some (.int .i64 (R : Int)) ∧ V2.cell? ⟨w.heap.size, 1, none⟩ = some (.int .i64 a) ∧ V2.cell? ⟨w.heap.size, 2, none⟩ = some (.int .i64 b) ∧ V2.cell? ⟨g2.out.heap.size + 1, R, none⟩ = some (.int .i64 (F R)) ∧ Below w.heap.size w V2) ⟨by first | with_reducible assumption | (simp [go_sem]; done) | with_reducible exact hold_al c1 _ _ | with_reducible exact hold_al c2 _ _ | with_reducible exact hold_al c3 _ _ | (simp [go_sem, c1, c2, c3, cz1, cy1]; done), by first | with_reducible assumption | (simp [go_sem]; done) | with_reducible exact hold_al c1 _ _ | with_reducible exact hold_al c2 _ _ | with_reducible exact hold_al c3 _ _ | (simp [go_sem, c1, c2, c3, cz1, cy1]; done), by first | with_reducible assumption | (simp [go_sem]; done) | with_reducible exact hold_al c1 _ _ | with_reducible exact hold_al c2 _ _ | with_reducible exact hold_al c3 _ _ | (simp [go_sem, c1, c2, c3, cz1, cy1]; done), by first | with_reducible assumption | (simp [go_sem]; done) | with_reducible exact hold_al c1 _ _ | with_reducible exact hold_al c2 _ _ | with_reducible exact hold_al c3 _ _ | (simp [go_sem, c1, c2, c3, cz1, cy1]; done), by repeat (first | with_reducible exact Below.refl _ _ | with_reducible refine bl_alloc ?_ _ | with_reducible refine bl_drewN ?_ _ | with_reducible refine bl_drew ?_ | (with_reducible refine bl_set ?_ ?_ _; rotate_left; focus (first | (simp; done) | (simp; omega) | omega)) | with_reducible refine below_step ?_ (Bw.below _) | with_reducible refine below_step ?_ (by assumption))⟩ ?_
        rintro V2 ⟨hd1, hd2, hd3, hd4, hWd⟩ gd
        have d1 := Bw.hold hd1
        have d2 := Bw.hold hd2
        have d3 := Bw.hold hd3
        have d4 := Bw.hold hd4
        have dz1 := fun g : Bw V2 => cell_lt (d1 g)
        have dy1 := fun g : Bw V2 => Nat.le_of_lt (dz1 g)
        have dz4 := fun g : Bw V2 => cell_lt (d4 g)
        have dy4 := fun g : Bw V2 => Nat.le_of_lt (dz4 g)
        clear hd1 hd2 hd3 hd4
        clear c1 c2 c3 cz1 cy1
        go_wp2_with fail
        go_ret
        exact ⟨rfl, by repeat (first | with_reducible exact Below.refl _ _ | with_reducible refine bl_alloc ?_ _ | with_reducible refine bl_drewN ?_ _ | with_reducible refine bl_drew ?_ | (with_reducible refine bl_set ?_ ?_ _; rotate_left; focus (first | (simp; done) | (simp; omega) | omega)) | with_reducible refine below_step ?_ (Bw.below _) | with_reducible refine below_step ?_ (by assumption))⟩
      · obtain rfl : R = 0 := by omega
        rw [if_neg (by simp)]
        clear hF
        go_enter Try.func24, Try.ntmps24
        go_wp2_with fail
        refine calls_start (fun V => V.cell? ⟨w.heap.size, 0, none⟩ = some (.int .i64 0) ∧ V.cell? ⟨w.heap.size, 1, none⟩ = some (.int .i64 a) ∧ V.cell? ⟨w.heap.size, 2, none⟩ = some (.int .i64 b) ∧ Below w.heap.size w V) ⟨by first | with_reducible assumption | (simp [go_sem]; done), by first | with_reducible assumption | (simp [go_sem]; done), by first | with_reducible assumption | (simp [go_sem]; done), by repeat (first | with_reducible exact Below.refl _ _ | with_reducible refine bl_alloc ?_ _ | with_reducible refine bl_drewN ?_ _ | with_reducible refine bl_drew ?_ | (with_reducible refine bl_set ?_ ?_ _; rotate_left; focus (first | (simp; done) | (simp; omega) | omega)) | with_reducible refine below_step ?_ (Bw.below _) | with_reducible refine below_step ?_ (by assumption))⟩ ?_
        rintro V ⟨hc1, hc2, hc3, hWc⟩ gc
        have c1 := Bw.hold hc1
        have c2 := Bw.hold hc2
        have c3 := Bw.hold hc3
        have cz1 := fun g : Bw V => cell_lt (c1 g)
        have cy1 := fun g : Bw V => Nat.le_of_lt (cz1 g)
        clear hc1 hc2 hc3
        refine (WY.out _).mono ?_
        rintro e_g2 w_g2 ⟨rfl, hb_g2⟩
        obtain ⟨g2, rfl⟩ := gc.next hb_g2
        clear hb_g2
        go_wp2_with fail
        go_ret
        exact ⟨rfl, by repeat (first | with_reducible exact Below.refl _ _ | with_reducible refine bl_alloc ?_ _ | with_reducible refine bl_drewN ?_ _ | with_reducible refine bl_drew ?_ | (with_reducible refine bl_set ?_ ?_ _; rotate_left; focus (first | (simp; done) | (simp; omega) | omega)) | with_reducible refine below_step ?_ (Bw.below _) | with_reducible refine below_step ?_ (by assumption))⟩
set_option maxHeartbeats 1000000 in
theorem cell_parent (r a b : Int) (h : okB r a b = true) (h0 : r ≠ 0) (w : World) :
    Calls Try.prog 48 #[.agg #[.int .i64 r, .int .i64 a, .int .i64 b]] w fun e w' => e = .returned (.tuple #[.agg #[.int .i64 (r - 1), .int .i64 (upA a b), .int .i64 (upB a b)], .int .i64 0]) ∧ Below w.heap.size w w' := by
  obtain ⟨⟨r1, r2⟩, hz, _⟩ := okB_true h
  obtain ⟨z1, z2, z3, z4⟩ := zOk_true hz
  have OK := cell_ok r a b
  rw [h] at OK
  have HO := Lib.hid OK
  have ST := Lib.hid (cell_step r a b (by omega) (by omega) z1 z2 z3 z4)
  have n2 : (r == 0) = false := by simp [h0]
  clear OK h hz z1 z2 z3 z4
  generalize upA a b = ua at *
  generalize upB a b = ub at *
  go_enter Try.func48, Try.ntmps48
  go_wp2_with fail
  refine calls_start (fun V => V.cell? ⟨w.heap.size, 0, none⟩ = some (.int .i64 r) ∧ V.cell? ⟨w.heap.size, 1, none⟩ = some (.int .i64 a) ∧ V.cell? ⟨w.heap.size, 2, none⟩ = some (.int .i64 b) ∧ V.cell? ⟨w.heap.size + 1, 0, none⟩ = some (.int .i64 0) ∧ V.frozen? ⟨w.heap.size + 1, 0, none⟩ = false ∧ V.cell? ⟨w.heap.size + 1, 1, none⟩ = some (.int .i64 0) ∧ V.frozen? ⟨w.heap.size + 1, 1, none⟩ = false ∧ V.cell? ⟨w.heap.size + 1, 2, none⟩ = some (.int .i64 0) ∧ V.frozen? ⟨w.heap.size + 1, 2, none⟩ = false ∧ Below w.heap.size w V) ⟨by first | with_reducible assumption | (simp [go_sem]; done), by first | with_reducible assumption | (simp [go_sem]; done), by first | with_reducible assumption | (simp [go_sem]; done), by first | with_reducible assumption | (simp [go_sem]; done), by first | with_reducible assumption | (simp [go_sem]; done), by first | with_reducible assumption | (simp [go_sem]; done), by first | with_reducible assumption | (simp [go_sem]; done), by first | with_reducible assumption | (simp [go_sem]; done), by first | with_reducible assumption | (simp [go_sem]; done), by repeat (first | with_reducible exact Below.refl _ _ | with_reducible refine bl_alloc ?_ _ | with_reducible refine bl_drewN ?_ _ | with_reducible refine bl_drew ?_ | (with_reducible refine bl_set ?_ ?_ _; rotate_left; focus (first | (simp; done) | (simp; omega) | omega)) | with_reducible refine below_step ?_ (Bw.below _) | with_reducible refine below_step ?_ (by assumption))⟩ ?_
  rintro V ⟨hc1, hc2, hc3, hc4, fc4, hc5, fc5, hc6, fc6, hWc⟩ gc
  have c1 := Bw.hold hc1
  have c2 := Bw.hold hc2
  have c3 := Bw.hold hc3
  have c4 := Bw.hold hc4
  have cf4 := Bw.free hc4 fc4
  have c5 := Bw.hold hc5
  have cf5 := Bw.free hc5 fc5
  have c6 := Bw.hold hc6
  have cf6 := Bw.free hc6 fc6
  have cz1 := fun g : Bw V => cell_lt (c1 g)
  have cy1 := fun g : Bw V => Nat.le_of_lt (cz1 g)
  have cz4 := fun g : Bw V => cell_lt (c4 g)
  have cy4 := fun g : Bw V => Nat.le_of_lt (cz4 g)
  clear hc1 hc2 hc3 hc4 fc4 hc5 fc5 hc6 fc6
  refine (HO.out _).mono ?_
  rintro e_g2 w_g2 ⟨rfl, hb_g2⟩
  obtain ⟨g2, rfl⟩ := gc.next hb_g2
  clear hb_g2
  go_wp2_with fail
  refine (ST.out _).mono ?_
  rintro e_g3 w_g3 ⟨rfl, hb_g3⟩
  obtain ⟨g3, rfl⟩ := g2.next hb_g3
  clear hb_g3
  go_wp2_with fail
  refine bodyPost_ret (v := .tuple #[.agg #[.int .i64 (r - 1), .int .i64 ua, .int .i64 ub], .int .i64 0]) (by simp [results, Try.results48, go_sem, c1, c2, c3, c4, c5, c6, cz1, cz4, cy1, cy4]) rfl ⟨rfl, by repeat (first | with_reducible exact Below.refl _ _ | with_reducible refine bl_alloc ?_ _ | with_reducible refine bl_drewN ?_ _ | with_reducible refine bl_drew ?_ | (with_reducible refine bl_set ?_ ?_ _; rotate_left; focus (first | (simp; done) | (simp; omega) | omega)) | with_reducible refine below_step ?_ (Bw.below _) | with_reducible refine below_step ?_ (by assumption))⟩
set_option maxHeartbeats 1000000 in
theorem cell_parent_no (r a b : Int) (h : okB r a b = false) (w : World) :
    Calls Try.prog 48 #[.agg #[.int .i64 r, .int .i64 a, .int .i64 b]] w fun e w' => e = .returned (.tuple #[.agg #[.int .i64 0, .int .i64 0, .int .i64 0], .int .i64 2]) ∧ Below w.heap.size w w' := by
  have OK := cell_ok r a b
  rw [h] at OK
  have HO := Lib.hid OK
  clear OK h
  go_enter Try.func48, Try.ntmps48
  go_wp2_with fail
  refine calls_start (fun V => V.cell? ⟨w.heap.size, 0, none⟩ = some (.int .i64 r) ∧ V.cell? ⟨w.heap.size, 1, none⟩ = some (.int .i64 a) ∧ V.cell? ⟨w.heap.size, 2, none⟩ = some (.int .i64 b) ∧ V.cell? ⟨w.heap.size + 1, 0, none⟩ = some (.int .i64 0) ∧ V.frozen? ⟨w.heap.size + 1, 0, none⟩ = false ∧ V.cell? ⟨w.heap.size + 1, 1, none⟩ = some (.int .i64 0) ∧ V.frozen? ⟨w.heap.size + 1, 1, none⟩ = false ∧ V.cell? ⟨w.heap.size + 1, 2, none⟩ = some (.int .i64 0) ∧ V.frozen? ⟨w.heap.size + 1, 2, none⟩ = false ∧ Below w.heap.size w V) ⟨by first | with_reducible assumption | (simp [go_sem]; done), by first | with_reducible assumption | (simp [go_sem]; done), by first | with_reducible assumption | (simp [go_sem]; done), by first | with_reducible assumption | (simp [go_sem]; done), by first | with_reducible assumption | (simp [go_sem]; done), by first | with_reducible assumption | (simp [go_sem]; done), by first | with_reducible assumption | (simp [go_sem]; done), by first | with_reducible assumption | (simp [go_sem]; done), by first | with_reducible assumption | (simp [go_sem]; done), by repeat (first | with_reducible exact Below.refl _ _ | with_reducible refine bl_alloc ?_ _ | with_reducible refine bl_drewN ?_ _ | with_reducible refine bl_drew ?_ | (with_reducible refine bl_set ?_ ?_ _; rotate_left; focus (first | (simp; done) | (simp; omega) | omega)) | with_reducible refine below_step ?_ (Bw.below _) | with_reducible refine below_step ?_ (by assumption))⟩ ?_
  rintro V ⟨hc1, hc2, hc3, hc4, fc4, hc5, fc5, hc6, fc6, hWc⟩ gc
  have c1 := Bw.hold hc1
  have c2 := Bw.hold hc2
  have c3 := Bw.hold hc3
  have c4 := Bw.hold hc4
  have cf4 := Bw.free hc4 fc4
  have c5 := Bw.hold hc5
  have cf5 := Bw.free hc5 fc5
  have c6 := Bw.hold hc6
  have cf6 := Bw.free hc6 fc6
  have cz1 := fun g : Bw V => cell_lt (c1 g)
  have cy1 := fun g : Bw V => Nat.le_of_lt (cz1 g)
  have cz4 := fun g : Bw V => cell_lt (c4 g)
  have cy4 := fun g : Bw V => Nat.le_of_lt (cz4 g)
  clear hc1 hc2 hc3 hc4 fc4 hc5 fc5 hc6 fc6
  refine (HO.out _).mono ?_
  rintro e_g2 w_g2 ⟨rfl, hb_g2⟩
  obtain ⟨g2, rfl⟩ := gc.next hb_g2
  clear hb_g2
  go_wp2_with fail
  refine bodyPost_ret (v := .tuple #[.agg #[.int .i64 0, .int .i64 0, .int .i64 0], .int .i64 2]) (by simp [results, Try.results48, go_sem, c1, c2, c3, c4, c5, c6, cz1, cz4, cy1, cy4]) rfl ⟨rfl, by repeat (first | with_reducible exact Below.refl _ _ | with_reducible refine bl_alloc ?_ _ | with_reducible refine bl_drewN ?_ _ | with_reducible refine bl_drew ?_ | (with_reducible refine bl_set ?_ ?_ _; rotate_left; focus (first | (simp; done) | (simp; omega) | omega)) | with_reducible refine below_step ?_ (Bw.below _) | with_reducible refine below_step ?_ (by assumption))⟩
set_option maxHeartbeats 1000000 in
theorem cell_parent_top (a b : Int) (h : okB 0 a b = true) (w : World) :
    Calls Try.prog 48 #[.agg #[.int .i64 0, .int .i64 a, .int .i64 b]] w fun e w' => e = .returned (.tuple #[.agg #[.int .i64 0, .int .i64 0, .int .i64 0], .int .i64 3]) ∧ Below w.heap.size w w' := by
  have OK := cell_ok 0 a b
  rw [h] at OK
  have HO := Lib.hid OK
  clear OK h
  go_enter Try.func48, Try.ntmps48
  go_wp2_with fail
  refine calls_start (fun V => V.cell? ⟨w.heap.size, 0, none⟩ = some (.int .i64 0) ∧ V.cell? ⟨w.heap.size, 1, none⟩ = some (.int .i64 a) ∧ V.cell? ⟨w.heap.size, 2, none⟩ = some (.int .i64 b) ∧ V.cell? ⟨w.heap.size + 1, 0, none⟩ = some (.int .i64 0) ∧ V.frozen? ⟨w.heap.size + 1, 0, none⟩ = false ∧ V.cell? ⟨w.heap.size + 1, 1, none⟩ = some (.int .i64 0) ∧ V.frozen? ⟨w.heap.size + 1, 1, none⟩ = false ∧ V.cell? ⟨w.heap.size + 1, 2, none⟩ = some (.int .i64 0) ∧ V.frozen? ⟨w.heap.size + 1, 2, none⟩ = false ∧ Below w.heap.size w V) ⟨by first | with_reducible assumption | (simp [go_sem]; done), by first | with_reducible assumption | (simp [go_sem]; done), by first | with_reducible assumption | (simp [go_sem]; done), by first | with_reducible assumption | (simp [go_sem]; done), by first | with_reducible assumption | (simp [go_sem]; done), by first | with_reducible assumption | (simp [go_sem]; done), by first | with_reducible assumption | (simp [go_sem]; done), by first | with_reducible assumption | (simp [go_sem]; done), by first | with_reducible assumption | (simp [go_sem]; done), by repeat (first | with_reducible exact Below.refl _ _ | with_reducible refine bl_alloc ?_ _ | with_reducible refine bl_drewN ?_ _ | with_reducible refine bl_drew ?_ | (with_reducible refine bl_set ?_ ?_ _; rotate_left; focus (first | (simp; done) | (simp; omega) | omega)) | with_reducible refine below_step ?_ (Bw.below _) | with_reducible refine below_step ?_ (by assumption))⟩ ?_
  rintro V ⟨hc1, hc2, hc3, hc4, fc4, hc5, fc5, hc6, fc6, hWc⟩ gc
  have c1 := Bw.hold hc1
  have c2 := Bw.hold hc2
  have c3 := Bw.hold hc3
  have c4 := Bw.hold hc4
  have cf4 := Bw.free hc4 fc4
  have c5 := Bw.hold hc5
  have cf5 := Bw.free hc5 fc5
  have c6 := Bw.hold hc6
  have cf6 := Bw.free hc6 fc6
  have cz1 := fun g : Bw V => cell_lt (c1 g)
  have cy1 := fun g : Bw V => Nat.le_of_lt (cz1 g)
  have cz4 := fun g : Bw V => cell_lt (c4 g)
  have cy4 := fun g : Bw V => Nat.le_of_lt (cz4 g)
  clear hc1 hc2 hc3 hc4 fc4 hc5 fc5 hc6 fc6
  refine (HO.out _).mono ?_
  rintro e_g2 w_g2 ⟨rfl, hb_g2⟩
  obtain ⟨g2, rfl⟩ := gc.next hb_g2
  clear hb_g2
  go_wp2_with fail
  refine bodyPost_ret (v := .tuple #[.agg #[.int .i64 0, .int .i64 0, .int .i64 0], .int .i64 3]) (by simp [results, Try.results48, go_sem, c1, c2, c3, c4, c5, c6, cz1, cz4, cy1, cy4]) rfl ⟨rfl, by repeat (first | with_reducible exact Below.refl _ _ | with_reducible refine bl_alloc ?_ _ | with_reducible refine bl_drewN ?_ _ | with_reducible refine bl_drew ?_ | (with_reducible refine bl_set ?_ ?_ _; rotate_left; focus (first | (simp; done) | (simp; omega) | omega)) | with_reducible refine below_step ?_ (Bw.below _) | with_reducible refine below_step ?_ (by assumption))⟩
end Go.Proofs.Ytmipkloleklnkaa

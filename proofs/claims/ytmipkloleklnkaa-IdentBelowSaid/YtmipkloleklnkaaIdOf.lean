
/- The walks of ident's writer, digitOf and Of: a cell's word. -/
import Derived.Test.YtmipkloleklnkaaWordBits
import Derived.Deep.LoopGhost
namespace Go.Proofs.Ytmipkloleklnkaa
open Go.RowKit
set_option linter.unusedSimpArgs false
set_option linter.unusedVariables false
theorem dgAt_dl (a b : Int) (R j : Nat) (h1 : 1 ≤ j) (h2 : j ≤ R) : dgAt a b R R j = dl a b R j := by
  unfold dgAt dl
  rw [if_pos (by omega), if_pos h2]
theorem ret_u {x y : Int} (h : x = y) : Ending.returned (.int .u64 x) = Ending.returned (.int .u64 y) := by rw [h]
set_option maxHeartbeats 400000 in
theorem id_digit (w : Int) (k : Nat) (hk : 1 ≤ k) (hk' : k ≤ 12) (h : 0 ≤ w) (h' : w < 18446744073709551616) (W : World) :
    Calls Try.prog 31 #[.int .u64 w, .int .i64 (k : Int)] W fun e W' => e = .returned (.int .u64 (fd w k)) ∧ W = W' := by
  have hm : ∀ d : Int, bits .and .u64 d 7 = d % 8 := fun d => u64_mask d 3 (by omega)
  have HE : Hid (w / 2 ^ (33 - 3 * (k - 1)) % 8 = fd w k) := Lib.hid (by unfold fd; rw [show 33 - 3 * (k - 1) = 36 - 3 * k by omega])
  go_enter Try.func31, Try.ntmps31
  go_wp2_with fail
  go_ret
  exact ⟨ret_u HE.out, rfl⟩
set_option maxHeartbeats 400000 in
theorem id_put (X d : Int) (k b : Nat) (hk : 1 ≤ k) (hk' : k ≤ 12) (h : 0 ≤ X) (h' : X < 18446744073709551616) (hd : 0 ≤ d) (hd' : d ≤ 7) (hX : X % 2 ^ (39 - 3 * k) = 0) (W : World) (hc : W.cell? ⟨b, 0, none⟩ = some (.int .u64 X)) (hf : W.frozen? ⟨b, 0, none⟩ = false) :
    Calls Try.prog 39 #[.pointer (some ⟨b, 0, none⟩), .int .i64 (k : Int), .int .u64 d] W fun e W' => e = .returned (.tuple #[]) ∧ W' = W.setCell ⟨b, 0, none⟩ (.int .u64 (X + d * 2 ^ (36 - 3 * k))) := by
  obtain ⟨p1, p2⟩ := put_facts X d k hk hk' h h' hd hd' hX
  generalize d * 2 ^ (36 - 3 * k) = S at *
  clear hX
  go_enter Try.func39, Try.ntmps39
  go_wp2_with fail
  go_end0
  exact ⟨rfl, rfl⟩
/-- What Of's loop reads and writes. -/
def OfMem (V : World) (B C D : Nat) (R : Int) (F : Nat → Int) (X : Int) : Prop :=
  V.cell? ⟨B, 0, none⟩ = some (.int .i64 R) ∧ (∀ j : Nat, j < 13 → V.cell? ⟨C, j, none⟩ = some (.int .i64 (F j))) ∧ V.cell? ⟨D, 0, none⟩ = some (.int .u64 X) ∧ V.frozen? ⟨D, 0, none⟩ = false
theorem OfMem.put {V : World} {B C D : Nat} {R X : Int} {F : Nat → Int} (h : OfMem V B C D R F X) (hB : B ≠ D) (hC : C ≠ D) (Y : Int) : OfMem (V.setCell ⟨D, 0, none⟩ (.int .u64 Y)) B C D R F Y := by
  obtain ⟨h1, h2, h3, h4⟩ := h
  refine ⟨(set_other _ hB).trans h1, fun j hj => (set_other _ hC).trans (h2 j hj), by simp [go_sem, h3], by simp [go_sem, h4]⟩
set_option maxRecDepth 100000 in
set_option maxHeartbeats 4000000 in
theorem id_of_yes (a b : Int) (R : Nat) (h : okB (R : Int) a b = true) (w : World) :
    Calls Try.prog 17 #[.agg #[.int .i64 (R : Int), .int .i64 a, .int .i64 b]] w fun e w' => e = .returned (.tuple #[.int .u64 (wv a b R), .int .i64 0]) ∧ Below w.heap.size w w' := by
  have hmf : ∀ (fn : Fn) (first cap : Array Value) (w : World), (Instr.makeFunc fn first cap).run Try.prog w = .ok (.func fn first cap) w := fun _ _ _ _ => rfl
  obtain ⟨⟨_, r2⟩, hz, hb0⟩ := okB_true h
  have hR : R ≤ 12 := by omega
  obtain ⟨hA, hB⟩ := base_bd h
  rw [Int.toNat_natCast] at hA hB hb0
  have WY := cell_way a b R (by omega) hz
  rw [hb0] at WY
  have HWY := Lib.hid WY
  have hF := dl_bd a b R
  have XB := Lib.hid (fun k => wX_bd (zz a b R).1 (zz a b R).2 R (dl a b R) hR hA hB hF k)
  have XM := Lib.hid (fun k => wX_mod (zz a b R).1 (zz a b R).2 R (dl a b R) k)
  have XS := Lib.hid (fun k => wX_step (zz a b R).1 (zz a b R).2 R (dl a b R) k)
  have X0 := Lib.hid (wX_zero (zz a b R).1 (zz a b R).2 R (dl a b R))
  have XE : Hid (wX (zz a b R).1 (zz a b R).2 R (dl a b R) 12 = wv a b R) := Lib.hid (wX_end _ _ _ _)
  have HF := Lib.hid hF
  have HI := Lib.hid (fun j => dl_in a b R j)
  have HO := Lib.hid (fun j => dl_out a b R j)
  have HD := Lib.hid (fun j => dgAt_dl a b R j)
  obtain ⟨x1, x2, hx1, hx2, hx3⟩ := head_put (zz a b R).1 (zz a b R).2 R hR hA hB
  clear WY hF hb0 hz h r2
  generalize wX (zz a b R).1 (zz a b R).2 R (dl a b R) = X at *
  generalize wHd (zz a b R).1 (zz a b R).2 R = H0 at *
  generalize (zz a b R).1 = A at *
  generalize (zz a b R).2 = B at *
  generalize wv a b R = WV at *
  have hdv : dgVal a b R = .agg #[.int .i64 (dgAt a b R R 0), .int .i64 (dgAt a b R R 1), .int .i64 (dgAt a b R R 2), .int .i64 (dgAt a b R R 3), .int .i64 (dgAt a b R R 4), .int .i64 (dgAt a b R R 5), .int .i64 (dgAt a b R R 6), .int .i64 (dgAt a b R R 7), .int .i64 (dgAt a b R R 8), .int .i64 (dgAt a b R R 9), .int .i64 (dgAt a b R R 10), .int .i64 (dgAt a b R R 11), .int .i64 (dgAt a b R R 12)] := rfl
  rw [hdv] at HWY
  clear hdv
  generalize dl a b R = L at *
  generalize dgAt a b R R = G at *
  go_enter Try.func17, Try.ntmps17
  go_wp2_with fail
  refine calls_start (fun V => V.cell? ⟨w.heap.size, 0, none⟩ = some (.int .i64 (R : Int)) ∧ V.cell? ⟨w.heap.size, 1, none⟩ = some (.int .i64 a) ∧ V.cell? ⟨w.heap.size, 2, none⟩ = some (.int .i64 b) ∧ Below w.heap.size w V) ⟨by first | with_reducible assumption | (simp [go_sem]; done), by first | with_reducible assumption | (simp [go_sem]; done), by first | with_reducible assumption | (simp [go_sem]; done), by repeat (first | with_reducible exact Below.refl _ _ | with_reducible refine bl_alloc ?_ _ | with_reducible refine bl_drewN ?_ _ | with_reducible refine bl_drew ?_ | (with_reducible refine bl_set ?_ ?_ _; rotate_left; focus (first | (simp; done) | (simp; omega) | omega)) | with_reducible refine below_step ?_ (Bw.below _) | with_reducible refine below_step ?_ (by assumption))⟩ ?_
  rintro V ⟨hta1, hta2, hta3, hWta⟩ gta
  have ta1 := Bw.hold hta1
  have ta2 := Bw.hold hta2
  have ta3 := Bw.hold hta3
  have taz1 := fun g : Bw V => cell_lt (ta1 g)
  have tay1 := fun g : Bw V => Nat.le_of_lt (taz1 g)
  clear hta1 hta2 hta3
  refine (HWY.out _).mono ?_
  rintro e_h w_h ⟨rfl, hb_h⟩
  obtain ⟨g1, rfl⟩ := gta.next hb_h
  clear hb_h
  have hlt := taz1 g1
  go_wp2_with fail
  go_loopg [9] 12 (fun n i W => ∃ k : Nat, k + n = 12 ∧ i = .int .i64 ((k : Int) + 1) ∧ OfMem W w.heap.size (g1.out.heap.size + 1) (g1.out.heap.size + 1 + 1) R G (X k) ∧ Below w.heap.size w W)
  case atStart =>
    refine ⟨0, by omega, by simp, ⟨by exact (cell_al (by simp; omega) _).trans ((cell_al (by simp; omega) _).trans ((cell_al hlt _).trans (ta1 g1))), fun j hj => ?_, by simp [go_sem]; rw [X0.out], by simp [go_sem]⟩, by repeat (first | with_reducible exact Below.refl _ _ | with_reducible refine bl_alloc ?_ _ | with_reducible refine bl_drewN ?_ _ | with_reducible refine bl_drew ?_ | (with_reducible refine bl_set ?_ ?_ _; rotate_left; focus (first | (simp; done) | (simp; omega) | omega)) | with_reducible refine below_step ?_ (Bw.below _) | with_reducible refine below_step ?_ (by assumption))⟩
    rcases (show j = 0 ∨ j = 1 ∨ j = 2 ∨ j = 3 ∨ j = 4 ∨ j = 5 ∨ j = 6 ∨ j = 7 ∨ j = 8 ∨ j = 9 ∨ j = 10 ∨ j = 11 ∨ j = 12 by omega) with rfl | rfl | rfl | rfl | rfl | rfl | rfl | rfl | rfl | rfl | rfl | rfl | rfl <;> simp [go_sem]
  case round =>
    obtain ⟨k, hk, rfl, hmem, hb⟩ := hrel
    by_cases hlt12 : k < 12
    · have xb := XB.out k (by omega)
      have xm := XM.out k (by omega)
      have xs := XS.out k hlt12
      have hmem' := hmem
      obtain ⟨m1, m2, m3, m4⟩ := hmem'
      have hk1 : (k : Int) + 1 = ((k + 1 : Nat) : Int) := by omega
      rw [show 36 - 3 * k = 39 - 3 * (k + 1) by omega] at xm
      by_cases hkR : R < k + 1
      · have hL : L (k + 1) = 7 := HO.out (k + 1) hkR
        rw [hL] at xs
        have PT := Lib.hid (id_put (X k) 7 (k + 1) (g1.out.heap.size + 1 + 1) (by omega) (by omega) xb.1 xb.2 (by decide) (by decide) xm _ m3 m4)
        have hgt : (R : Int) < (k : Int) + 1 := by omega
        have HM := Lib.hid (hmem.put (by omega) (by omega) (X k + 7 * 2 ^ (36 - 3 * (k + 1))))
        have HXS := Lib.hid xs
        rw [← hk1] at PT
        clear xb xm xs m2 hmem hk1 hL
        go_wp2_with fail
        refine (PT.out).mono ?_
        rintro e_p w_p ⟨rfl, rfl⟩
        go_wp2_with fail
        go_roundg (12 - (k + 1))
        case measure => omega
        case rel => exact ⟨k + 1, by omega, by go_num, by rw [HXS.out]; exact HM.out, by repeat (first | with_reducible exact Below.refl _ _ | with_reducible refine bl_alloc ?_ _ | with_reducible refine bl_drewN ?_ _ | with_reducible refine bl_drew ?_ | (with_reducible refine bl_set ?_ ?_ _; rotate_left; focus (first | (simp; done) | (simp; omega) | omega)) | with_reducible refine below_step ?_ (Bw.below _) | with_reducible refine below_step ?_ (by assumption))⟩
      · have hL := HI.out (k + 1) (by omega)
        have hG := m2 (k + 1) (by omega)
        rw [HD.out (k + 1) (by omega) (by omega)] at hG
        have PT := Lib.hid (id_put (X k) (L (k + 1)) (k + 1) (g1.out.heap.size + 1 + 1) (by omega) (by omega) xb.1 xb.2 hL.1 (by omega) xm _ m3 m4)
        have hgt : ¬ (R : Int) < (k : Int) + 1 := by omega
        have HM := Lib.hid (hmem.put (by omega) (by omega) (X k + L (k + 1) * 2 ^ (36 - 3 * (k + 1))))
        have HXS := Lib.hid xs
        obtain ⟨l1, l2⟩ := hL
        have hk0 : (0 : Int) ≤ (k : Int) + 1 := by omega
        have hk13 : (k : Int) + 1 < 13 := by omega
        have htn : ((k : Int) + 1).toNat = k + 1 := by omega
        rw [← hk1] at PT
        clear xb xm xs m2 hmem hk1
        generalize L (k + 1) = d at *
        go_wp2_with fail
        refine (PT.out).mono ?_
        rintro e_p w_p ⟨rfl, rfl⟩
        go_wp2_with fail
        go_roundg (12 - (k + 1))
        case measure => omega
        case rel => exact ⟨k + 1, by omega, by go_num, by rw [HXS.out]; exact HM.out, by repeat (first | with_reducible exact Below.refl _ _ | with_reducible refine bl_alloc ?_ _ | with_reducible refine bl_drewN ?_ _ | with_reducible refine bl_drew ?_ | (with_reducible refine bl_set ?_ ?_ _; rotate_left; focus (first | (simp; done) | (simp; omega) | omega)) | with_reducible refine below_step ?_ (Bw.below _) | with_reducible refine below_step ?_ (by assumption))⟩
    · obtain rfl : k = 12 := by omega
      obtain ⟨m1, m2, m3, m4⟩ := hmem
      rw [XE.out] at m3
      clear m2
      go_wp2_with fail
      go_ret2
      exact ⟨rfl, by repeat (first | with_reducible exact Below.refl _ _ | with_reducible refine bl_alloc ?_ _ | with_reducible refine bl_drewN ?_ _ | with_reducible refine bl_drew ?_ | (with_reducible refine bl_set ?_ ?_ _; rotate_left; focus (first | (simp; done) | (simp; omega) | omega)) | with_reducible refine below_step ?_ (Bw.below _) | with_reducible refine below_step ?_ (by assumption))⟩
end Go.Proofs.Ytmipkloleklnkaa

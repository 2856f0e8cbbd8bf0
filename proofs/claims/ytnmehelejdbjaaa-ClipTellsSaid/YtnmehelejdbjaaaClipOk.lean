
/- The walk of clip's ok where a ring's numbers are small. -/
import Derived.Test.YtnmehelejdbjaaaLeaf
namespace Go.Proofs.Ytnmehelejdbjaaa
open Go.RowKit
set_option linter.unusedSimpArgs false
set_option linter.unusedVariables false
/-- A ring of few corners, near each other and near nought. -/
def Small (L : List (Int × Int)) : Prop := L.length ≤ 100 ∧ ∀ p ∈ L, -536870912 ≤ p.1 ∧ p.1 ≤ 536870912 ∧ -536870912 ≤ p.2 ∧ p.2 ≤ 536870912
theorem Small.at' {L : List (Int × Int)} (h : Small L) (j : Nat) (hj : j < L.length) : -536870912 ≤ (L.getD j (0, 0)).1 ∧ (L.getD j (0, 0)).1 ≤ 536870912 ∧ -536870912 ≤ (L.getD j (0, 0)).2 ∧ (L.getD j (0, 0)).2 ≤ 536870912 := by
  have e : L.getD j (0, 0) = L[j] := by simp [List.getD, List.getElem?_eq_getElem hj]
  rw [e]
  exact h.2 _ (List.getElem_mem hj)
set_option maxRecDepth 100000 in
set_option maxHeartbeats 8000000 in
theorem clip_ok_yes (X : Option Addr) (cap : Nat) (L : List (Int × Int)) (hS : Small L) (hcap : L.length ≤ cap) (w : World) (hr : RingAt w X L) :
    Calls Try.prog 20 #[.slice X L.length cap] w fun e w' => e = .returned (.bool true) ∧ Below w.heap.size w w' := by
  have HR := Lib.hid (fun W (hb : Below w.heap.size w W) => hr.bl hb)
  have HA := Lib.hid hS.at'
  have h100 : L.length ≤ 100 := hS.1
  clear hr hS
  obtain ⟨N, hN⟩ : ∃ N, L.length = N := ⟨_, rfl⟩
  have HN := Lib.hid hN
  rw [hN] at h100 hcap ⊢
  have hNI : (N : Int) ≤ 100 := by omega
  clear hN
  go_enter Try.func20, Try.ntmps20
  go_wp2_with fail
  go_loopg [11] 2 (fun n i W => ∃ a : Nat, a + n = 2 ∧ i = .int .i64 (a : Int) ∧ Below w.heap.size w W)
  case atStart => exact ⟨0, by omega, rfl, by repeat (first | with_reducible exact Below.refl _ _ | with_reducible refine bl_alloc ?_ _ | with_reducible refine bl_drewN ?_ _ | with_reducible refine bl_drew ?_ | (with_reducible refine bl_set ?_ ?_ _; rotate_left; focus (first | (simp; done) | (simp; omega) | omega)) | with_reducible refine below_step ?_ (Bw.below _) | with_reducible refine below_step ?_ (by assumption))⟩
  case round =>
    obtain ⟨a, ha, rfl, hb⟩ := hrel
    rcases (show a = 0 ∨ a = 1 ∨ a = 2 by omega) with h | h | h
    · subst h
      obtain ⟨gA, rfl⟩ := bw_of hb
      clear hb
      go_wp2_with fail
      go_loopg [16] N (fun n k W => ∃ j : Nat, j + n = N ∧ k = .int .i64 (j : Int) ∧ Below w.heap.size w W)
      case atStart => exact ⟨0, by omega, rfl, by repeat (first | with_reducible exact Below.refl _ _ | with_reducible refine bl_alloc ?_ _ | with_reducible refine bl_drewN ?_ _ | with_reducible refine bl_drew ?_ | (with_reducible refine bl_set ?_ ?_ _; rotate_left; focus (first | (simp; done) | (simp; omega) | omega)) | with_reducible refine below_step ?_ (Bw.below _) | with_reducible refine below_step ?_ (by assumption))⟩
      case round =>
        obtain ⟨j, hj, rfl, hb⟩ := hrel
        rcases (show j < N ∨ j = N by omega) with hlt | hlt
        · have hring := HR.out _ hb
          obtain ⟨g, o, rfl, c1, c2⟩ := hring j (by rw [HN.out]; exact hlt)
          obtain ⟨b1, b2, b3, b4⟩ := HA.out j (by rw [HN.out]; exact hlt)
          clear hring
          generalize (L.getD j (0, 0)).1 = x at *
          generalize (L.getD j (0, 0)).2 = y at *
          have k1 : ¬ x < -1099511627776 := by omega
          have k2 : ¬ 1099511627776 < x := by omega
          have hjI : (j : Int) < (N : Int) := by omega
          have hjc : j ≤ cap := by omega
          have hjcI : (j : Int) ≤ (cap : Int) := by omega
          go_wp2_with fail
          refine wp_start (fun V => V.cell? ⟨wr.heap.size, 0, none⟩ = some (.int .i64 x) ∧ V.cell? ⟨wr.heap.size, 1, none⟩ = some (.int .i64 y) ∧ Below w.heap.size w V) ⟨by first | with_reducible assumption | (simp [go_sem]; done), by first | with_reducible assumption | (simp [go_sem]; done), by repeat (first | with_reducible exact Below.refl _ _ | with_reducible refine bl_alloc ?_ _ | with_reducible refine bl_drewN ?_ _ | with_reducible refine bl_drew ?_ | (with_reducible refine bl_set ?_ ?_ _; rotate_left; focus (first | (simp; done) | (simp; omega) | omega)) | with_reducible refine below_step ?_ (Bw.below _) | with_reducible refine below_step ?_ (by assumption))⟩ ?_
          rintro V ⟨hta1, hta2, hWta⟩ gta
          have ta1 := Bw.hold hta1
          have ta2 := Bw.hold hta2
          have taz1 := fun g : Bw V => cell_lt (ta1 g)
          have tay1 := fun g : Bw V => Nat.le_of_lt (taz1 g)
          clear hta1 hta2
          clear c1 c2 hb
          go_loopg [35] j (fun n m W => ∃ i : Nat, i + n = j ∧ m = .int .i64 (i : Int) ∧ Below V.heap.size V W)
          case atStart => exact ⟨0, by omega, rfl, by repeat (first | with_reducible exact Below.refl _ _ | with_reducible refine bl_alloc ?_ _ | with_reducible refine bl_drewN ?_ _ | with_reducible refine bl_drew ?_ | (with_reducible refine bl_set ?_ ?_ _; rotate_left; focus (first | (simp; done) | (simp; omega) | omega)) | with_reducible refine below_step ?_ (Bw.below _) | with_reducible refine below_step ?_ (by assumption))⟩
          case round =>
            obtain ⟨i, hi, rfl, hb⟩ := hrel
            obtain ⟨gi, rfl⟩ := bw_of hb
            clear hb
            rcases (show i < j ∨ i = j by omega) with hilt | hilt
            · have hring := HR.out gi.out (below_step hWta (Bw.below gi))
              obtain ⟨g', o', e', c1, c2⟩ := hring i (by rw [HN.out]; omega)
              cases e'
              obtain ⟨e1, e2, e3, e4⟩ := HA.out i (by rw [HN.out]; omega)
              clear hring
              generalize (L.getD i (0, 0)).1 = u at *
              generalize (L.getD i (0, 0)).2 = v at *
              have m1 : ¬ 1073741824 < x - u := by omega
              have m2 : ¬ 1073741824 < u - x := by omega
              have m3 : IntKind.i64.wrap (x - u) = x - u := by rw [IntKind.wrap_i64]; omega
              have m4 : IntKind.i64.wrap (u - x) = u - x := by rw [IntKind.wrap_i64]; omega
              have hiI : (i : Int) < (j : Int) := by omega
              go_wp2_with fail
              go_quiet (fail)
              go_wp2_with fail
              go_roundg (j - (i + 1))
              case measure => omega
              case rel => exact ⟨i + 1, by omega, by go_num, by repeat (first | with_reducible exact Below.refl _ _ | with_reducible refine bl_alloc ?_ _ | with_reducible refine bl_drewN ?_ _ | with_reducible refine bl_drew ?_ | (with_reducible refine bl_set ?_ ?_ _; rotate_left; focus (first | (simp; done) | (simp; omega) | omega)) | with_reducible refine below_step ?_ (Bw.below _) | with_reducible refine below_step ?_ (by assumption))⟩
            · subst hilt
              go_wp2_with fail
              go_roundg (N - (i + 1))
              case measure => omega
              case rel => exact ⟨i + 1, by omega, by go_num, below_step hWta (Bw.below gi)⟩
        · subst hlt
          go_wp2_with fail
          go_roundg 1
          case measure => omega
          case rel => exact ⟨1, by omega, by first | rfl | go_num, hb⟩
    · subst h
      obtain ⟨gA, rfl⟩ := bw_of hb
      clear hb
      go_wp2_with fail
      go_loopg [16] N (fun n k W => ∃ j : Nat, j + n = N ∧ k = .int .i64 (j : Int) ∧ Below w.heap.size w W)
      case atStart => exact ⟨0, by omega, rfl, by repeat (first | with_reducible exact Below.refl _ _ | with_reducible refine bl_alloc ?_ _ | with_reducible refine bl_drewN ?_ _ | with_reducible refine bl_drew ?_ | (with_reducible refine bl_set ?_ ?_ _; rotate_left; focus (first | (simp; done) | (simp; omega) | omega)) | with_reducible refine below_step ?_ (Bw.below _) | with_reducible refine below_step ?_ (by assumption))⟩
      case round =>
        obtain ⟨j, hj, rfl, hb⟩ := hrel
        rcases (show j < N ∨ j = N by omega) with hlt | hlt
        · have hring := HR.out _ hb
          obtain ⟨g, o, rfl, c1, c2⟩ := hring j (by rw [HN.out]; exact hlt)
          obtain ⟨b1, b2, b3, b4⟩ := HA.out j (by rw [HN.out]; exact hlt)
          clear hring
          generalize (L.getD j (0, 0)).1 = x at *
          generalize (L.getD j (0, 0)).2 = y at *
          have k1 : ¬ y < -1099511627776 := by omega
          have k2 : ¬ 1099511627776 < y := by omega
          have hjI : (j : Int) < (N : Int) := by omega
          have hjc : j ≤ cap := by omega
          have hjcI : (j : Int) ≤ (cap : Int) := by omega
          go_wp2_with fail
          refine wp_start (fun V => V.cell? ⟨wr.heap.size, 0, none⟩ = some (.int .i64 x) ∧ V.cell? ⟨wr.heap.size, 1, none⟩ = some (.int .i64 y) ∧ Below w.heap.size w V) ⟨by first | with_reducible assumption | (simp [go_sem]; done), by first | with_reducible assumption | (simp [go_sem]; done), by repeat (first | with_reducible exact Below.refl _ _ | with_reducible refine bl_alloc ?_ _ | with_reducible refine bl_drewN ?_ _ | with_reducible refine bl_drew ?_ | (with_reducible refine bl_set ?_ ?_ _; rotate_left; focus (first | (simp; done) | (simp; omega) | omega)) | with_reducible refine below_step ?_ (Bw.below _) | with_reducible refine below_step ?_ (by assumption))⟩ ?_
          rintro V ⟨hta1, hta2, hWta⟩ gta
          have ta1 := Bw.hold hta1
          have ta2 := Bw.hold hta2
          have taz1 := fun g : Bw V => cell_lt (ta1 g)
          have tay1 := fun g : Bw V => Nat.le_of_lt (taz1 g)
          clear hta1 hta2
          clear c1 c2 hb
          go_loopg [35] j (fun n m W => ∃ i : Nat, i + n = j ∧ m = .int .i64 (i : Int) ∧ Below V.heap.size V W)
          case atStart => exact ⟨0, by omega, rfl, by repeat (first | with_reducible exact Below.refl _ _ | with_reducible refine bl_alloc ?_ _ | with_reducible refine bl_drewN ?_ _ | with_reducible refine bl_drew ?_ | (with_reducible refine bl_set ?_ ?_ _; rotate_left; focus (first | (simp; done) | (simp; omega) | omega)) | with_reducible refine below_step ?_ (Bw.below _) | with_reducible refine below_step ?_ (by assumption))⟩
          case round =>
            obtain ⟨i, hi, rfl, hb⟩ := hrel
            obtain ⟨gi, rfl⟩ := bw_of hb
            clear hb
            rcases (show i < j ∨ i = j by omega) with hilt | hilt
            · have hring := HR.out gi.out (below_step hWta (Bw.below gi))
              obtain ⟨g', o', e', c1, c2⟩ := hring i (by rw [HN.out]; omega)
              cases e'
              obtain ⟨e1, e2, e3, e4⟩ := HA.out i (by rw [HN.out]; omega)
              clear hring
              generalize (L.getD i (0, 0)).1 = u at *
              generalize (L.getD i (0, 0)).2 = v at *
              have m1 : ¬ 1073741824 < y - v := by omega
              have m2 : ¬ 1073741824 < v - y := by omega
              have m3 : IntKind.i64.wrap (y - v) = y - v := by rw [IntKind.wrap_i64]; omega
              have m4 : IntKind.i64.wrap (v - y) = v - y := by rw [IntKind.wrap_i64]; omega
              have hiI : (i : Int) < (j : Int) := by omega
              go_wp2_with fail
              go_quiet (fail)
              go_wp2_with fail
              go_roundg (j - (i + 1))
              case measure => omega
              case rel => exact ⟨i + 1, by omega, by go_num, by repeat (first | with_reducible exact Below.refl _ _ | with_reducible refine bl_alloc ?_ _ | with_reducible refine bl_drewN ?_ _ | with_reducible refine bl_drew ?_ | (with_reducible refine bl_set ?_ ?_ _; rotate_left; focus (first | (simp; done) | (simp; omega) | omega)) | with_reducible refine below_step ?_ (Bw.below _) | with_reducible refine below_step ?_ (by assumption))⟩
            · subst hilt
              go_wp2_with fail
              go_roundg (N - (i + 1))
              case measure => omega
              case rel => exact ⟨i + 1, by omega, by go_num, below_step hWta (Bw.below gi)⟩
        · subst hlt
          go_wp2_with fail
          go_roundg 0
          case measure => omega
          case rel => exact ⟨2, by omega, by first | rfl | go_num, hb⟩
    · subst h
      go_wp2_with fail
      go_ret
      exact ⟨rfl, hb⟩
end Go.Proofs.Ytnmehelejdbjaaa

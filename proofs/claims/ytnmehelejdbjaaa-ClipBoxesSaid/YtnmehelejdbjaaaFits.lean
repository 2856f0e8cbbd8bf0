
/- The walks of the reference's spread and Fits on small rings. -/
import Derived.Test.YtnmehelejdbjaaaBox
namespace Go.Proofs.Ytnmehelejdbjaaa
open Go.RowKit
set_option linter.unusedSimpArgs false
set_option linter.unusedVariables false
set_option maxRecDepth 100000 in
set_option maxHeartbeats 4000000 in
theorem ref_spread (X : Option Addr) (cap : Nat) (L : List (Int × Int)) (ax : Int) (hax : ax = 0 ∨ ax = 1) (hS : Small L) (w : World) (hr : RingAt w X L) :
    Calls Try.prog 28 #[.slice X L.length cap, .int .i64 ax] w fun e w' => ∃ s : Int, e = .returned (.int .i64 s) ∧ s ≤ 1073741824 ∧ -1073741824 ≤ s ∧ Below w.heap.size w w' := by
  have HR := Lib.hid (fun W (hb : Below w.heap.size w W) => hr.bl hb)
  have HA := Lib.hid hS.at'
  have h100 : L.length ≤ 100 := hS.1
  clear hr hS
  obtain ⟨N, hN⟩ : ∃ N, L.length = N := ⟨_, rfl⟩
  have HN := Lib.hid hN
  rw [hN] at h100 ⊢
  have hNI : (N : Int) ≤ 100 := by omega
  clear hN
  rcases hax with rfl | rfl
  · rcases Nat.eq_zero_or_pos N with h0 | h0
    · subst h0
      go_enter Try.func28, Try.ntmps28
      go_wp2_with fail
      go_ret
      exact ⟨0, rfl, by decide, by decide, by repeat (first | with_reducible exact Below.refl _ _ | with_reducible refine bl_alloc ?_ _ | with_reducible refine bl_drewN ?_ _ | with_reducible refine bl_drew ?_ | (with_reducible refine bl_set ?_ ?_ _; rotate_left; focus (first | (simp; done) | (simp; omega) | omega)) | with_reducible refine below_step ?_ (Bw.below _) | with_reducible refine below_step ?_ (by assumption))⟩
    · have q0 : ((N : Int) == 0) = false := by simp; omega
      have hN1 : (0 : Int) < (N : Int) := by omega
      obtain ⟨g, o, e, c1, c2⟩ := HR.out w (Below.refl _ _) 0 (by rw [HN.out]; exact h0)
      subst e
      obtain ⟨b1, b2, b3, b4⟩ := HA.out 0 (by rw [HN.out]; exact h0)
      generalize (L.getD 0 (0, 0)).1 = x at *
      generalize (L.getD 0 (0, 0)).2 = y at *
      rw [Nat.zero_mul, Nat.add_zero] at c1 c2
      go_enter Try.func28, Try.ntmps28
      go_wp2_with fail
      go_quiet (fail)
      go_wp2_with fail
      go_loopg [5, 6, 7] N (fun n lo hi i W => ∃ (j : Nat) (l h : Int), j + n = N ∧ i = .int .i64 (j : Int) ∧ lo = .int .i64 l ∧ hi = .int .i64 h ∧ (-536870912 ≤ l ∧ l ≤ 536870912) ∧ (-536870912 ≤ h ∧ h ≤ 536870912) ∧ Below w.heap.size w W)
      case atStart => exact ⟨0, x, x, by omega, rfl, rfl, rfl, by omega, by omega, by repeat (first | with_reducible exact Below.refl _ _ | with_reducible refine bl_alloc ?_ _ | with_reducible refine bl_drewN ?_ _ | with_reducible refine bl_drew ?_ | (with_reducible refine bl_set ?_ ?_ _; rotate_left; focus (first | (simp; done) | (simp; omega) | omega)) | with_reducible refine below_step ?_ (Bw.below _) | with_reducible refine below_step ?_ (by assumption))⟩
      case round =>
        clear c1 c2 b1 b2 b3 b4
        obtain ⟨j, l, h, hj, rfl, rfl, rfl, ⟨l1, l2⟩, ⟨k1, k2⟩, hb⟩ := hrel
        rcases (show j < N ∨ j = N by omega) with hlt | hlt
        · obtain ⟨g', o', e', c1, c2⟩ := HR.out wr hb j (by rw [HN.out]; exact hlt)
          cases e'
          obtain ⟨b1, b2, b3, b4⟩ := HA.out j (by rw [HN.out]; exact hlt)

          generalize (L.getD j (0, 0)).1 = x at *
          generalize (L.getD j (0, 0)).2 = y at *
          have hjI : (j : Int) < (N : Int) := by omega
          by_cases p1 : x < l <;> by_cases p2 : l < x <;> by_cases p3 : x < h <;> by_cases p4 : h < x
          all_goals first
            | (exfalso; omega)
            | (go_wp2_with fail
               go_quiet (fail)
               go_wp2_with fail
               go_roundg (N - (j + 1))
               case measure => omega
               case rel => exact ⟨j + 1, _, _, by omega, by go_num, rfl, rfl, by first | omega | (split <;> omega), by first | omega | (split <;> omega), by repeat (first | with_reducible exact Below.refl _ _ | with_reducible refine bl_alloc ?_ _ | with_reducible refine bl_drewN ?_ _ | with_reducible refine bl_drew ?_ | (with_reducible refine bl_set ?_ ?_ _; rotate_left; focus (first | (simp; done) | (simp; omega) | omega)) | with_reducible refine below_step ?_ (Bw.below _) | with_reducible refine below_step ?_ (by assumption))⟩)
        · subst hlt
          have w1 : IntKind.i64.wrap (h - l) = h - l := by rw [IntKind.wrap_i64]; omega
          go_wp2_with fail
          go_ret
          exact ⟨_, rfl, by omega, by omega, hb⟩
  · rcases Nat.eq_zero_or_pos N with h0 | h0
    · subst h0
      go_enter Try.func28, Try.ntmps28
      go_wp2_with fail
      go_ret
      exact ⟨0, rfl, by decide, by decide, by repeat (first | with_reducible exact Below.refl _ _ | with_reducible refine bl_alloc ?_ _ | with_reducible refine bl_drewN ?_ _ | with_reducible refine bl_drew ?_ | (with_reducible refine bl_set ?_ ?_ _; rotate_left; focus (first | (simp; done) | (simp; omega) | omega)) | with_reducible refine below_step ?_ (Bw.below _) | with_reducible refine below_step ?_ (by assumption))⟩
    · have q0 : ((N : Int) == 0) = false := by simp; omega
      have hN1 : (0 : Int) < (N : Int) := by omega
      obtain ⟨g, o, e, c1, c2⟩ := HR.out w (Below.refl _ _) 0 (by rw [HN.out]; exact h0)
      subst e
      obtain ⟨b1, b2, b3, b4⟩ := HA.out 0 (by rw [HN.out]; exact h0)
      generalize (L.getD 0 (0, 0)).1 = x at *
      generalize (L.getD 0 (0, 0)).2 = y at *
      rw [Nat.zero_mul, Nat.add_zero] at c1 c2
      go_enter Try.func28, Try.ntmps28
      go_wp2_with fail
      go_quiet (fail)
      go_wp2_with fail
      go_loopg [5, 6, 7] N (fun n lo hi i W => ∃ (j : Nat) (l h : Int), j + n = N ∧ i = .int .i64 (j : Int) ∧ lo = .int .i64 l ∧ hi = .int .i64 h ∧ (-536870912 ≤ l ∧ l ≤ 536870912) ∧ (-536870912 ≤ h ∧ h ≤ 536870912) ∧ Below w.heap.size w W)
      case atStart => exact ⟨0, y, y, by omega, rfl, rfl, rfl, by omega, by omega, by repeat (first | with_reducible exact Below.refl _ _ | with_reducible refine bl_alloc ?_ _ | with_reducible refine bl_drewN ?_ _ | with_reducible refine bl_drew ?_ | (with_reducible refine bl_set ?_ ?_ _; rotate_left; focus (first | (simp; done) | (simp; omega) | omega)) | with_reducible refine below_step ?_ (Bw.below _) | with_reducible refine below_step ?_ (by assumption))⟩
      case round =>
        clear c1 c2 b1 b2 b3 b4
        obtain ⟨j, l, h, hj, rfl, rfl, rfl, ⟨l1, l2⟩, ⟨k1, k2⟩, hb⟩ := hrel
        rcases (show j < N ∨ j = N by omega) with hlt | hlt
        · obtain ⟨g', o', e', c1, c2⟩ := HR.out wr hb j (by rw [HN.out]; exact hlt)
          cases e'
          obtain ⟨b1, b2, b3, b4⟩ := HA.out j (by rw [HN.out]; exact hlt)

          generalize (L.getD j (0, 0)).1 = x at *
          generalize (L.getD j (0, 0)).2 = y at *
          have hjI : (j : Int) < (N : Int) := by omega
          by_cases p1 : y < l <;> by_cases p2 : l < y <;> by_cases p3 : y < h <;> by_cases p4 : h < y
          all_goals first
            | (exfalso; omega)
            | (go_wp2_with fail
               go_quiet (fail)
               go_wp2_with fail
               go_roundg (N - (j + 1))
               case measure => omega
               case rel => exact ⟨j + 1, _, _, by omega, by go_num, rfl, rfl, by first | omega | (split <;> omega), by first | omega | (split <;> omega), by repeat (first | with_reducible exact Below.refl _ _ | with_reducible refine bl_alloc ?_ _ | with_reducible refine bl_drewN ?_ _ | with_reducible refine bl_drew ?_ | (with_reducible refine bl_set ?_ ?_ _; rotate_left; focus (first | (simp; done) | (simp; omega) | omega)) | with_reducible refine below_step ?_ (Bw.below _) | with_reducible refine below_step ?_ (by assumption))⟩)
        · subst hlt
          have w1 : IntKind.i64.wrap (h - l) = h - l := by rw [IntKind.wrap_i64]; omega
          go_wp2_with fail
          go_ret
          exact ⟨_, rfl, by omega, by omega, hb⟩
set_option maxRecDepth 100000 in
set_option maxHeartbeats 4000000 in
theorem ref_fits (X : Option Addr) (cap : Nat) (L : List (Int × Int)) (hS : Small L) (w : World) (hr : RingAt w X L) :
    Calls Try.prog 22 #[.slice X L.length cap] w fun e w' => e = .returned (.bool true) ∧ Below w.heap.size w w' := by
  have HR := Lib.hid (fun W (hb : Below w.heap.size w W) => hr.bl hb)
  have S0 := Lib.hid (fun W (hb : Below w.heap.size w W) => ref_spread X cap L 0 (by decide) hS W (hr.bl hb))
  have S1 := Lib.hid (fun W (hb : Below w.heap.size w W) => ref_spread X cap L 1 (by decide) hS W (hr.bl hb))
  have HA := Lib.hid hS.at'
  have h100 : L.length ≤ 100 := hS.1
  clear hr hS
  obtain ⟨N, hN⟩ : ∃ N, L.length = N := ⟨_, rfl⟩
  have HN := Lib.hid hN
  rw [hN] at h100 S0 S1 ⊢
  have hNI : (N : Int) ≤ 100 := by omega
  clear hN
  go_enter Try.func22, Try.ntmps22
  go_wp2_with fail
  go_loopg [3] N (fun n i W => ∃ j : Nat, j + n = N ∧ i = .int .i64 (j : Int) ∧ Below w.heap.size w W)
  case atStart => exact ⟨0, by omega, rfl, by repeat (first | with_reducible exact Below.refl _ _ | with_reducible refine bl_alloc ?_ _ | with_reducible refine bl_drewN ?_ _ | with_reducible refine bl_drew ?_ | (with_reducible refine bl_set ?_ ?_ _; rotate_left; focus (first | (simp; done) | (simp; omega) | omega)) | with_reducible refine below_step ?_ (Bw.below _) | with_reducible refine below_step ?_ (by assumption))⟩
  case round =>
    obtain ⟨j, hj, rfl, hb⟩ := hrel
    rcases (show j < N ∨ j = N by omega) with hlt | hlt
    · have hjI : (j : Int) < (N : Int) := by omega
      go_wp2_with fail
      go_loopg [4] 2 (fun n i W => ∃ k : Nat, k + n = 2 ∧ i = .int .i64 (k : Int) ∧ Below w.heap.size w W)
      case atStart => exact ⟨0, by omega, rfl, hb⟩
      case round =>
        clear hb
        obtain ⟨k, hk, rfl, hb⟩ := hrel
        obtain ⟨g, o, e, c1, c2⟩ := HR.out wr hb j (by rw [HN.out]; exact hlt)
        subst e
        obtain ⟨b1, b2, b3, b4⟩ := HA.out j (by rw [HN.out]; exact hlt)
        generalize (L.getD j (0, 0)).1 = x at *
        generalize (L.getD j (0, 0)).2 = y at *
        have k1 : ¬ x < -1099511627776 := by omega
        have k2 : ¬ 1099511627776 < x := by omega
        have k3 : ¬ y < -1099511627776 := by omega
        have k4 : ¬ 1099511627776 < y := by omega
        rcases (show k = 0 ∨ k = 1 ∨ k = 2 by omega) with h | h | h
        · subst h
          go_wp2_with fail
          go_roundg 1
          case measure => omega
          case rel => exact ⟨1, by omega, by first | rfl | go_num, hb⟩
        · subst h
          go_wp2_with fail
          go_roundg 0
          case measure => omega
          case rel => exact ⟨2, by omega, by first | rfl | go_num, hb⟩
        · subst h
          go_wp2_with fail
          go_roundg (N - (j + 1))
          case measure => omega
          case rel => exact ⟨j + 1, by omega, by go_num, hb⟩
    · subst hlt
      have S0' := Lib.hid (S0.out wr hb)
      go_wp2_with fail
      refine (S0'.out).mono ?_
      rintro e_1 w_1 ⟨s0, rfl, hs0, hs0', hb_1⟩
      have S1' := Lib.hid (S1.out w_1 (below_step hb hb_1))
      go_wp2_with fail
      refine (S1'.out).mono ?_
      rintro e_2 w_2 ⟨s1, rfl, hs1, hs1', hb_2⟩
      go_wp2_with fail
      go_ret
      exact ⟨rfl, below_step (below_step hb hb_1) hb_2⟩
theorem ref_Fits (X : Option Addr) (cap : Nat) (L : List (Int × Int)) (hS : Small L) (w : World) (hr : RingAt w X L) :
    Calls Try.prog 13 #[.slice X L.length cap] w fun e w' => e = .returned (.bool true) ∧ Below w.heap.size w w' := by
  have F := Lib.hid (ref_fits X cap L hS w hr)
  clear hr hS
  go_enter Try.func13, Try.ntmps13
  go_wp2_with fail
  refine (F.out).mono ?_
  rintro e_1 w_1 ⟨rfl, hb_1⟩
  go_wp2_with fail
  go_ret
  exact ⟨rfl, hb_1⟩
end Go.Proofs.Ytnmehelejdbjaaa

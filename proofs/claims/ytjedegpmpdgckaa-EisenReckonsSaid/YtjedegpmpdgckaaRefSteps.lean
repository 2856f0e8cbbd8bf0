/- The reference's Steps walked. -/
import Derived.Test.YtjedegpmpdgckaaStepsLaw
namespace Go.Proofs.Ytjedegpmpdgckaa
open Go.RowKit
set_option linter.unusedSimpArgs false
set_option linter.unusedVariables false
theorem mx3 (x y z : Int) (hx : 0 ≤ x) : mx (mx (mx 0 x) y) z = if (if x < y then y else x) < z then z else if x < y then y else x := by
  unfold mx
  have e : (if 0 < x then x else 0) = x := by split <;> omega
  rw [e]
theorem st_yes' (a b : Int) (ha : -9223372036854775808 ≤ a) (ha' : a ≤ 9223372036854775807) (hb : -9223372036854775808 ≤ b) (hb' : b ≤ 9223372036854775807) (h1 : i64B (a + b) = true) (h2 : a ≠ -9223372036854775808) (h3 : b ≠ -9223372036854775808) (h4 : a + b ≠ -9223372036854775808) : stB a b = true ∧ stA a b = stV a b := by
  have hB : stB a b = true := by
    unfold stB szB
    rw [h1, i64B_mk ha ha', i64B_mk hb hb']
    simp [h2, h3, h4]
  exact ⟨hB, by unfold stA; rw [if_pos hB]⟩
set_option maxHeartbeats 1000000 in
theorem ref_steps (a b : Int) (ha : -9223372036854775808 ≤ a) (ha' : a ≤ 9223372036854775807) (hb : -9223372036854775808 ≤ b) (hb' : b ≤ 9223372036854775807) (w : World) :
    Calls Try.prog 36 #[.agg #[.int .i64 a, .int .i64 b]] w fun e w' => e = .returned (.tuple #[.int .i64 (stA a b), .bool (stB a b)]) ∧ Below w.heap.size w w' := by
  have WA := Lib.hid (ref_w a ha ha')
  have WB := Lib.hid (ref_w b hb hb')
  have PL := Lib.hid (ref_plus a b)
  have SM := ref_small (a + b) (by omega) (by omega)
  rcases h1 : i64B (a + b) with _ | _
  · rw [okv_no h1, h1] at SM
    obtain ⟨f1, f2⟩ := st_no a b (.inl h1)
    have HS := Lib.hid SM
    have F1 := Lib.hid f1
    have F2 := Lib.hid f2
    clear SM f1 f2 h1
    go_enter Try.func36, Try.ntmps36
    go_wp2_with fail
    refine wp_start (fun W => W.cell? ⟨w.heap.size, 0, none⟩ = some (.int .i64 a) ∧ W.cell? ⟨w.heap.size, 1, none⟩ = some (.int .i64 b) ∧ Below w.heap.size w W) ⟨by first | with_reducible assumption | (simp [go_sem]; done), by first | with_reducible assumption | (simp [go_sem]; done), by repeat (first | with_reducible exact Below.refl _ _ | with_reducible refine bl_alloc ?_ _ | with_reducible refine bl_drewN ?_ _ | with_reducible refine bl_drew ?_ | (with_reducible refine bl_set ?_ ?_ _; rotate_left; focus (first | (simp; done) | (simp; omega) | omega)) | with_reducible refine below_step ?_ (Bw.below _) | with_reducible refine below_step ?_ (by assumption))⟩ ?_
    rintro W ⟨hc1, hc2, hWc⟩ gc
    have c1 := Bw.hold hc1
    have c2 := Bw.hold hc2
    have cz1 := fun g : Bw W => cell_lt (c1 g)
    have cy1 := fun g : Bw W => Nat.le_of_lt (cz1 g)
    clear hc1 hc2
    refine wp_region_bw (by kernel_rfl) (by kernel_rfl) gc ?_
    repeat (go_big_quiet_step ((first
      | (go_at_call 30; first | with_reducible exact bw_call (WA.out _) | with_reducible exact bw_call (WB.out _))
      | (go_at_call 31; with_reducible exact bw_call (PL.out _))
      | (go_at_call 35; with_reducible exact bw_call (HS.out _)))))
    refine wpQuiet_nil ?_
    rintro _ ⟨g2, rfl⟩
    go_wp2_with fail
    go_ret2
    exact ⟨ret_ib F2.out.symm F1.out.symm, by repeat (first | with_reducible exact Below.refl _ _ | with_reducible refine bl_alloc ?_ _ | with_reducible refine bl_drewN ?_ _ | with_reducible refine bl_drew ?_ | (with_reducible refine bl_set ?_ ?_ _; rotate_left; focus (first | (simp; done) | (simp; omega) | omega)) | with_reducible refine below_step ?_ (Bw.below _) | with_reducible refine below_step ?_ (by assumption))⟩
  · obtain ⟨s1, s2⟩ := i64B_true h1
    rw [okv_yes h1, h1] at SM
    have HS := Lib.hid SM
    by_cases hm : a = -9223372036854775808 ∨ b = -9223372036854775808 ∨ a + b = -9223372036854775808
    · obtain ⟨f1, f2⟩ := st_no a b (.inr hm)
      have F1 := Lib.hid f1
      have F2 := Lib.hid f2
      clear SM f1 f2 h1
      by_cases ma : a = -9223372036854775808
      · have m1 : (a == -9223372036854775808) = true := by simp [ma]
        have M1 := Lib.hid m1
        clear hm ma m1
        go_enter Try.func36, Try.ntmps36
        go_wp2_with fail
        refine wp_start (fun W => W.cell? ⟨w.heap.size, 0, none⟩ = some (.int .i64 a) ∧ W.cell? ⟨w.heap.size, 1, none⟩ = some (.int .i64 b) ∧ Below w.heap.size w W) ⟨by first | with_reducible assumption | (simp [go_sem]; done), by first | with_reducible assumption | (simp [go_sem]; done), by repeat (first | with_reducible exact Below.refl _ _ | with_reducible refine bl_alloc ?_ _ | with_reducible refine bl_drewN ?_ _ | with_reducible refine bl_drew ?_ | (with_reducible refine bl_set ?_ ?_ _; rotate_left; focus (first | (simp; done) | (simp; omega) | omega)) | with_reducible refine below_step ?_ (Bw.below _) | with_reducible refine below_step ?_ (by assumption))⟩ ?_
        rintro W ⟨hc1, hc2, hWc⟩ gc
        have c1 := Bw.hold hc1
        have c2 := Bw.hold hc2
        have cz1 := fun g : Bw W => cell_lt (c1 g)
        have cy1 := fun g : Bw W => Nat.le_of_lt (cz1 g)
        clear hc1 hc2
        refine wp_region_bw (by kernel_rfl) (by kernel_rfl) gc ?_
        repeat (go_big_quiet_step ((first
          | (go_at_call 30; first | with_reducible exact bw_call (WA.out _) | with_reducible exact bw_call (WB.out _))
          | (go_at_call 31; with_reducible exact bw_call (PL.out _))
          | (go_at_call 35; with_reducible exact bw_call (HS.out _)))))
        refine wpQuiet_nil ?_
        rintro _ ⟨g2, rfl⟩
        have m1 := M1.out
        go_wp2_with fail
        go_ret2
        exact ⟨ret_ib F2.out.symm F1.out.symm, by repeat (first | with_reducible exact Below.refl _ _ | with_reducible refine bl_alloc ?_ _ | with_reducible refine bl_drewN ?_ _ | with_reducible refine bl_drew ?_ | (with_reducible refine bl_set ?_ ?_ _; rotate_left; focus (first | (simp; done) | (simp; omega) | omega)) | with_reducible refine below_step ?_ (Bw.below _) | with_reducible refine below_step ?_ (by assumption))⟩
      · have m1 : (a == -9223372036854775808) = false := by simp [ma]
        by_cases mb : b = -9223372036854775808
        · have m2 : (b == -9223372036854775808) = true := by simp [mb]
          have M2 := Lib.hid m2
          clear hm ma mb m2
          go_enter Try.func36, Try.ntmps36
          go_wp2_with fail
          refine wp_start (fun W => W.cell? ⟨w.heap.size, 0, none⟩ = some (.int .i64 a) ∧ W.cell? ⟨w.heap.size, 1, none⟩ = some (.int .i64 b) ∧ Below w.heap.size w W) ⟨by first | with_reducible assumption | (simp [go_sem]; done), by first | with_reducible assumption | (simp [go_sem]; done), by repeat (first | with_reducible exact Below.refl _ _ | with_reducible refine bl_alloc ?_ _ | with_reducible refine bl_drewN ?_ _ | with_reducible refine bl_drew ?_ | (with_reducible refine bl_set ?_ ?_ _; rotate_left; focus (first | (simp; done) | (simp; omega) | omega)) | with_reducible refine below_step ?_ (Bw.below _) | with_reducible refine below_step ?_ (by assumption))⟩ ?_
          rintro W ⟨hc1, hc2, hWc⟩ gc
          have c1 := Bw.hold hc1
          have c2 := Bw.hold hc2
          have cz1 := fun g : Bw W => cell_lt (c1 g)
          have cy1 := fun g : Bw W => Nat.le_of_lt (cz1 g)
          clear hc1 hc2
          refine wp_region_bw (by kernel_rfl) (by kernel_rfl) gc ?_
          repeat (go_big_quiet_step ((first
            | (go_at_call 30; first | with_reducible exact bw_call (WA.out _) | with_reducible exact bw_call (WB.out _))
            | (go_at_call 31; with_reducible exact bw_call (PL.out _))
            | (go_at_call 35; with_reducible exact bw_call (HS.out _)))))
          refine wpQuiet_nil ?_
          rintro _ ⟨g2, rfl⟩
          have m2 := M2.out
          go_wp2_with fail
          go_ret2
          exact ⟨ret_ib F2.out.symm F1.out.symm, by repeat (first | with_reducible exact Below.refl _ _ | with_reducible refine bl_alloc ?_ _ | with_reducible refine bl_drewN ?_ _ | with_reducible refine bl_drew ?_ | (with_reducible refine bl_set ?_ ?_ _; rotate_left; focus (first | (simp; done) | (simp; omega) | omega)) | with_reducible refine below_step ?_ (Bw.below _) | with_reducible refine below_step ?_ (by assumption))⟩
        · have m2 : (b == -9223372036854775808) = false := by simp [mb]
          have m3 : (a + b == -9223372036854775808) = true := by simp; omega
          have M3 := Lib.hid m3
          clear hm ma mb m3
          go_enter Try.func36, Try.ntmps36
          go_wp2_with fail
          refine wp_start (fun W => W.cell? ⟨w.heap.size, 0, none⟩ = some (.int .i64 a) ∧ W.cell? ⟨w.heap.size, 1, none⟩ = some (.int .i64 b) ∧ Below w.heap.size w W) ⟨by first | with_reducible assumption | (simp [go_sem]; done), by first | with_reducible assumption | (simp [go_sem]; done), by repeat (first | with_reducible exact Below.refl _ _ | with_reducible refine bl_alloc ?_ _ | with_reducible refine bl_drewN ?_ _ | with_reducible refine bl_drew ?_ | (with_reducible refine bl_set ?_ ?_ _; rotate_left; focus (first | (simp; done) | (simp; omega) | omega)) | with_reducible refine below_step ?_ (Bw.below _) | with_reducible refine below_step ?_ (by assumption))⟩ ?_
          rintro W ⟨hc1, hc2, hWc⟩ gc
          have c1 := Bw.hold hc1
          have c2 := Bw.hold hc2
          have cz1 := fun g : Bw W => cell_lt (c1 g)
          have cy1 := fun g : Bw W => Nat.le_of_lt (cz1 g)
          clear hc1 hc2
          refine wp_region_bw (by kernel_rfl) (by kernel_rfl) gc ?_
          repeat (go_big_quiet_step ((first
            | (go_at_call 30; first | with_reducible exact bw_call (WA.out _) | with_reducible exact bw_call (WB.out _))
            | (go_at_call 31; with_reducible exact bw_call (PL.out _))
            | (go_at_call 35; with_reducible exact bw_call (HS.out _)))))
          refine wpQuiet_nil ?_
          rintro _ ⟨g2, rfl⟩
          have m3 := M3.out
          go_wp2_with fail
          go_ret2
          exact ⟨ret_ib F2.out.symm F1.out.symm, by repeat (first | with_reducible exact Below.refl _ _ | with_reducible refine bl_alloc ?_ _ | with_reducible refine bl_drewN ?_ _ | with_reducible refine bl_drew ?_ | (with_reducible refine bl_set ?_ ?_ _; rotate_left; focus (first | (simp; done) | (simp; omega) | omega)) | with_reducible refine below_step ?_ (Bw.below _) | with_reducible refine below_step ?_ (by assumption))⟩
    · have ma : a ≠ -9223372036854775808 := fun h => hm (.inl h)
      have mb : b ≠ -9223372036854775808 := fun h => hm (.inr (.inl h))
      have mc : a + b ≠ -9223372036854775808 := fun h => hm (.inr (.inr h))
      have m1 : (a == -9223372036854775808) = false := by simp [ma]
      have m2 : (b == -9223372036854775808) = false := by simp [mb]
      have m3 : (a + b == -9223372036854775808) = false := by simp [mc]
      obtain ⟨f1, f2⟩ := st_yes' a b ha ha' hb hb' h1 ma mb mc
      have f3 : stA a b = _ := f2.trans (mx3 (szI a) (szI b) (szI (a + b)) (szI_nonneg a))
      have F1 := Lib.hid f1
      have F3 := Lib.hid f3
      have ZA := Lib.hid (ref_size a (by omega) (by omega))
      have ZB := Lib.hid (ref_size b (by omega) (by omega))
      have ZC := Lib.hid (ref_size (a + b) (by omega) (by omega))
      clear SM hm ma mb mc f1 f2 f3 h1
      go_enter Try.func36, Try.ntmps36
      go_wp2_with fail
      refine wp_start (fun W => W.cell? ⟨w.heap.size, 0, none⟩ = some (.int .i64 a) ∧ W.cell? ⟨w.heap.size, 1, none⟩ = some (.int .i64 b) ∧ Below w.heap.size w W) ⟨by first | with_reducible assumption | (simp [go_sem]; done), by first | with_reducible assumption | (simp [go_sem]; done), by repeat (first | with_reducible exact Below.refl _ _ | with_reducible refine bl_alloc ?_ _ | with_reducible refine bl_drewN ?_ _ | with_reducible refine bl_drew ?_ | (with_reducible refine bl_set ?_ ?_ _; rotate_left; focus (first | (simp; done) | (simp; omega) | omega)) | with_reducible refine below_step ?_ (Bw.below _) | with_reducible refine below_step ?_ (by assumption))⟩ ?_
      rintro W ⟨hc1, hc2, hWc⟩ gc
      have c1 := Bw.hold hc1
      have c2 := Bw.hold hc2
      have cz1 := fun g : Bw W => cell_lt (c1 g)
      have cy1 := fun g : Bw W => Nat.le_of_lt (cz1 g)
      clear hc1 hc2
      refine wp_region_bw (by kernel_rfl) (by kernel_rfl) gc ?_
      repeat (go_big_quiet_step ((first
        | (go_at_call 30; first | with_reducible exact bw_call (WA.out _) | with_reducible exact bw_call (WB.out _))
        | (go_at_call 31; with_reducible exact bw_call (PL.out _))
        | (go_at_call 35; with_reducible exact bw_call (HS.out _)))))
      refine wpQuiet_nil ?_
      rintro _ ⟨g2, rfl⟩
      go_wp2_with fail
      refine wp_region_bw_tail 8 (by kernel_rfl) (by kernel_rfl) g2 ?_
      simp only [List.take_succ_cons, List.take_zero, List.drop_succ_cons, List.drop_zero]
      repeat (go_big_quiet_step ((go_at_call 53; first | with_reducible exact bw_call_same (ZA.out _) | with_reducible exact bw_call_same (ZB.out _) | with_reducible exact bw_call_same (ZC.out _))))
      refine wpQuiet_nil ?_
      rintro _ ⟨g3, rfl⟩
      go_wp2_with fail
      all_goals go_ret2
      all_goals exact ⟨ret_ib (by
        have f := F3.out
        clear F1 F3 ZA ZB ZC HS PL WA WB
        rw [f]
        first | omega | (split <;> omega) | (split <;> split <;> omega) | grind) F1.out.symm, by repeat (first | with_reducible exact Below.refl _ _ | with_reducible refine bl_alloc ?_ _ | with_reducible refine bl_drewN ?_ _ | with_reducible refine bl_drew ?_ | (with_reducible refine bl_set ?_ ?_ _; rotate_left; focus (first | (simp; done) | (simp; omega) | omega)) | with_reducible refine below_step ?_ (Bw.below _) | with_reducible refine below_step ?_ (by assumption))⟩
end Go.Proofs.Ytjedegpmpdgckaa

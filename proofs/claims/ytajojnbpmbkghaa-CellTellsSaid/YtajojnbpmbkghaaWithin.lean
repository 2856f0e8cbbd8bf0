/- The walk of cell's Within. -/
import Derived.Test.YtajojnbpmbkghaaCellUps
namespace Go.Proofs.Ytajojnbpmbkghaa
open Go.RowKit
set_option linter.unusedSimpArgs false
set_option linter.unusedVariables false
/-- Is a cell another one, or within it? -/
def wthB (r a b s c d : Int) : Bool := okB r a b && okB s c d && decide (s ≤ r) && decide ((zz a b (r - s).toNat).1 = c ∧ (zz a b (r - s).toNat).2 = d)
set_option maxRecDepth 100000 in
set_option maxHeartbeats 4000000 in
theorem cell_within (r a b s c d : Int) (w : World) :
    Calls Try.prog 16 #[.agg #[.int .i64 r, .int .i64 a, .int .i64 b], .agg #[.int .i64 s, .int .i64 c, .int .i64 d]] w fun e w' => e = .returned (.bool (wthB r a b s c d)) ∧ Below w.heap.size w w' := by
  have O1 := cell_ok r a b
  have O2 := cell_ok s c d
  rcases ho1 : okB r a b with _ | _
  · rw [ho1] at O1
    have H1 := Lib.hid O1
    have hw : wthB r a b s c d = false := by unfold wthB; rw [ho1]; rfl
    rw [hw]
    clear O1 O2 ho1 hw
    go_enter Try.func16, Try.ntmps16
    go_wp2_with fail
    refine wp_start (fun V => V.cell? ⟨w.heap.size, 0, none⟩ = some (.int .i64 r) ∧ V.cell? ⟨w.heap.size, 1, none⟩ = some (.int .i64 a) ∧ V.cell? ⟨w.heap.size, 2, none⟩ = some (.int .i64 b) ∧ V.cell? ⟨w.heap.size + 1, 0, none⟩ = some (.int .i64 s) ∧ V.cell? ⟨w.heap.size + 1, 1, none⟩ = some (.int .i64 c) ∧ V.cell? ⟨w.heap.size + 1, 2, none⟩ = some (.int .i64 d) ∧ Below w.heap.size w V) ⟨by first | with_reducible assumption | (simp [go_sem]; done), by first | with_reducible assumption | (simp [go_sem]; done), by first | with_reducible assumption | (simp [go_sem]; done), by first | with_reducible assumption | (simp [go_sem]; done), by first | with_reducible assumption | (simp [go_sem]; done), by first | with_reducible assumption | (simp [go_sem]; done), by repeat (first | with_reducible exact Below.refl _ _ | with_reducible refine bl_alloc ?_ _ | with_reducible refine bl_drewN ?_ _ | with_reducible refine bl_drew ?_ | (with_reducible refine bl_set ?_ ?_ _; rotate_left; focus (first | (simp; done) | (simp; omega) | omega)) | with_reducible refine below_step ?_ (Bw.below _) | with_reducible refine below_step ?_ (by assumption))⟩ ?_
    rintro V ⟨hta1, hta2, hta3, hta4, hta5, hta6, hWta⟩ gta
    have ta1 := Bw.hold hta1
    have ta2 := Bw.hold hta2
    have ta3 := Bw.hold hta3
    have ta4 := Bw.hold hta4
    have ta5 := Bw.hold hta5
    have ta6 := Bw.hold hta6
    have taz1 := fun g : Bw V => cell_lt (ta1 g)
    have tay1 := fun g : Bw V => Nat.le_of_lt (taz1 g)
    have taz4 := fun g : Bw V => cell_lt (ta4 g)
    have tay4 := fun g : Bw V => Nat.le_of_lt (taz4 g)
    clear hta1 hta2 hta3 hta4 hta5 hta6
    refine wp_region_bw (by kernel_rfl) (by kernel_rfl) gta ?_
    repeat (go_big_quiet_step ((first
      | (go_at_call 21; with_reducible exact bw_call (H1.out _)))))
    refine wpQuiet_nil ?_
    rintro _ ⟨g3, rfl⟩
    go_wp2_with fail
    go_ret
    exact ⟨rfl, by repeat (first | with_reducible exact Below.refl _ _ | with_reducible refine bl_alloc ?_ _ | with_reducible refine bl_drewN ?_ _ | with_reducible refine bl_drew ?_ | (with_reducible refine bl_set ?_ ?_ _; rotate_left; focus (first | (simp; done) | (simp; omega) | omega)) | with_reducible refine below_step ?_ (Bw.below _) | with_reducible refine below_step ?_ (by assumption))⟩
  · rw [ho1] at O1
    have H1 := Lib.hid O1
    rcases ho2 : okB s c d with _ | _
    · rw [ho2] at O2
      have H2 := Lib.hid O2
      have hw : wthB r a b s c d = false := by unfold wthB; rw [ho1, ho2]; rfl
      rw [hw]
      clear O1 O2 ho1 ho2 hw
      go_enter Try.func16, Try.ntmps16
      go_wp2_with fail
      refine wp_start (fun V => V.cell? ⟨w.heap.size, 0, none⟩ = some (.int .i64 r) ∧ V.cell? ⟨w.heap.size, 1, none⟩ = some (.int .i64 a) ∧ V.cell? ⟨w.heap.size, 2, none⟩ = some (.int .i64 b) ∧ V.cell? ⟨w.heap.size + 1, 0, none⟩ = some (.int .i64 s) ∧ V.cell? ⟨w.heap.size + 1, 1, none⟩ = some (.int .i64 c) ∧ V.cell? ⟨w.heap.size + 1, 2, none⟩ = some (.int .i64 d) ∧ Below w.heap.size w V) ⟨by first | with_reducible assumption | (simp [go_sem]; done), by first | with_reducible assumption | (simp [go_sem]; done), by first | with_reducible assumption | (simp [go_sem]; done), by first | with_reducible assumption | (simp [go_sem]; done), by first | with_reducible assumption | (simp [go_sem]; done), by first | with_reducible assumption | (simp [go_sem]; done), by repeat (first | with_reducible exact Below.refl _ _ | with_reducible refine bl_alloc ?_ _ | with_reducible refine bl_drewN ?_ _ | with_reducible refine bl_drew ?_ | (with_reducible refine bl_set ?_ ?_ _; rotate_left; focus (first | (simp; done) | (simp; omega) | omega)) | with_reducible refine below_step ?_ (Bw.below _) | with_reducible refine below_step ?_ (by assumption))⟩ ?_
      rintro V ⟨hta1, hta2, hta3, hta4, hta5, hta6, hWta⟩ gta
      have ta1 := Bw.hold hta1
      have ta2 := Bw.hold hta2
      have ta3 := Bw.hold hta3
      have ta4 := Bw.hold hta4
      have ta5 := Bw.hold hta5
      have ta6 := Bw.hold hta6
      have taz1 := fun g : Bw V => cell_lt (ta1 g)
      have tay1 := fun g : Bw V => Nat.le_of_lt (taz1 g)
      have taz4 := fun g : Bw V => cell_lt (ta4 g)
      have tay4 := fun g : Bw V => Nat.le_of_lt (taz4 g)
      clear hta1 hta2 hta3 hta4 hta5 hta6
      refine wp_region_bw (by kernel_rfl) (by kernel_rfl) gta ?_
      repeat (go_big_quiet_step ((first
        | (go_at_call 21; first | with_reducible exact bw_call (H1.out _) | with_reducible exact bw_call (H2.out _)))))
      refine wpQuiet_nil ?_
      rintro _ ⟨g3, rfl⟩
      go_wp2_with fail
      go_ret
      exact ⟨rfl, by repeat (first | with_reducible exact Below.refl _ _ | with_reducible refine bl_alloc ?_ _ | with_reducible refine bl_drewN ?_ _ | with_reducible refine bl_drew ?_ | (with_reducible refine bl_set ?_ ?_ _; rotate_left; focus (first | (simp; done) | (simp; omega) | omega)) | with_reducible refine below_step ?_ (Bw.below _) | with_reducible refine below_step ?_ (by assumption))⟩
    · rw [ho2] at O2
      have H2 := Lib.hid O2
      obtain ⟨⟨r1, r2⟩, hz, _⟩ := okB_true ho1
      obtain ⟨⟨s1, s2⟩, _, _⟩ := okB_true ho2
      by_cases hsr : s ≤ r
      · have hd0 : decide (s ≤ r) = true := decide_eq_true hsr
        obtain ⟨n, hn⟩ : ∃ n : Nat, r - s = (n : Int) := ⟨(r - s).toNat, by omega⟩
        have CL := Lib.hid (cell_climb r s a b n hn s1 r2 hz)
        have hw : wthB r a b s c d = (decide ((zz a b n).1 = c ∧ (zz a b n).2 = d)) := by unfold wthB; rw [ho1, ho2, hd0, hn]; rfl
        have HW := Lib.hid hw
        clear O1 O2 ho1 ho2 hw hz hn
        generalize (zz a b n).1 = p at *
        generalize (zz a b n).2 = q at *
        by_cases hp : p = c
        · by_cases hq : q = d
          · have q1 : (p == c) = true := by simp [hp]
            have q2 : (q == d) = true := by simp [hq]
            have HB := Lib.hid (decide_eq_true (p := p = c ∧ q = d) ⟨hp, hq⟩)
            clear hp hq
            go_enter Try.func16, Try.ntmps16
            go_wp2_with fail
            refine wp_start (fun V => V.cell? ⟨w.heap.size, 0, none⟩ = some (.int .i64 r) ∧ V.cell? ⟨w.heap.size, 1, none⟩ = some (.int .i64 a) ∧ V.cell? ⟨w.heap.size, 2, none⟩ = some (.int .i64 b) ∧ V.cell? ⟨w.heap.size + 1, 0, none⟩ = some (.int .i64 s) ∧ V.cell? ⟨w.heap.size + 1, 1, none⟩ = some (.int .i64 c) ∧ V.cell? ⟨w.heap.size + 1, 2, none⟩ = some (.int .i64 d) ∧ Below w.heap.size w V) ⟨by first | with_reducible assumption | (simp [go_sem]; done), by first | with_reducible assumption | (simp [go_sem]; done), by first | with_reducible assumption | (simp [go_sem]; done), by first | with_reducible assumption | (simp [go_sem]; done), by first | with_reducible assumption | (simp [go_sem]; done), by first | with_reducible assumption | (simp [go_sem]; done), by repeat (first | with_reducible exact Below.refl _ _ | with_reducible refine bl_alloc ?_ _ | with_reducible refine bl_drewN ?_ _ | with_reducible refine bl_drew ?_ | (with_reducible refine bl_set ?_ ?_ _; rotate_left; focus (first | (simp; done) | (simp; omega) | omega)) | with_reducible refine below_step ?_ (Bw.below _) | with_reducible refine below_step ?_ (by assumption))⟩ ?_
            rintro V ⟨hta1, hta2, hta3, hta4, hta5, hta6, hWta⟩ gta
            have ta1 := Bw.hold hta1
            have ta2 := Bw.hold hta2
            have ta3 := Bw.hold hta3
            have ta4 := Bw.hold hta4
            have ta5 := Bw.hold hta5
            have ta6 := Bw.hold hta6
            have taz1 := fun g : Bw V => cell_lt (ta1 g)
            have tay1 := fun g : Bw V => Nat.le_of_lt (taz1 g)
            have taz4 := fun g : Bw V => cell_lt (ta4 g)
            have tay4 := fun g : Bw V => Nat.le_of_lt (taz4 g)
            clear hta1 hta2 hta3 hta4 hta5 hta6
            refine wp_region_bw (by kernel_rfl) (by kernel_rfl) gta ?_
            repeat (go_big_quiet_step ((first
              | (go_at_call 21; first | with_reducible exact bw_call (H1.out _) | with_reducible exact bw_call (H2.out _))
              | (go_at_call 34; with_reducible exact bw_call (CL.out _)))))
            refine wpQuiet_nil ?_
            rintro _ ⟨g3, rfl⟩
            go_wp2_with fail
            go_ret
            exact ⟨ret_b (HW.out.trans HB.out).symm, by repeat (first | with_reducible exact Below.refl _ _ | with_reducible refine bl_alloc ?_ _ | with_reducible refine bl_drewN ?_ _ | with_reducible refine bl_drew ?_ | (with_reducible refine bl_set ?_ ?_ _; rotate_left; focus (first | (simp; done) | (simp; omega) | omega)) | with_reducible refine below_step ?_ (Bw.below _) | with_reducible refine below_step ?_ (by assumption))⟩
          · have q1 : (p == c) = true := by simp [hp]
            have q2 : (q == d) = false := by simp [hq]
            have HB := Lib.hid (decide_eq_false (p := p = c ∧ q = d) (fun h => hq h.2))
            clear hp hq
            go_enter Try.func16, Try.ntmps16
            go_wp2_with fail
            refine wp_start (fun V => V.cell? ⟨w.heap.size, 0, none⟩ = some (.int .i64 r) ∧ V.cell? ⟨w.heap.size, 1, none⟩ = some (.int .i64 a) ∧ V.cell? ⟨w.heap.size, 2, none⟩ = some (.int .i64 b) ∧ V.cell? ⟨w.heap.size + 1, 0, none⟩ = some (.int .i64 s) ∧ V.cell? ⟨w.heap.size + 1, 1, none⟩ = some (.int .i64 c) ∧ V.cell? ⟨w.heap.size + 1, 2, none⟩ = some (.int .i64 d) ∧ Below w.heap.size w V) ⟨by first | with_reducible assumption | (simp [go_sem]; done), by first | with_reducible assumption | (simp [go_sem]; done), by first | with_reducible assumption | (simp [go_sem]; done), by first | with_reducible assumption | (simp [go_sem]; done), by first | with_reducible assumption | (simp [go_sem]; done), by first | with_reducible assumption | (simp [go_sem]; done), by repeat (first | with_reducible exact Below.refl _ _ | with_reducible refine bl_alloc ?_ _ | with_reducible refine bl_drewN ?_ _ | with_reducible refine bl_drew ?_ | (with_reducible refine bl_set ?_ ?_ _; rotate_left; focus (first | (simp; done) | (simp; omega) | omega)) | with_reducible refine below_step ?_ (Bw.below _) | with_reducible refine below_step ?_ (by assumption))⟩ ?_
            rintro V ⟨hta1, hta2, hta3, hta4, hta5, hta6, hWta⟩ gta
            have ta1 := Bw.hold hta1
            have ta2 := Bw.hold hta2
            have ta3 := Bw.hold hta3
            have ta4 := Bw.hold hta4
            have ta5 := Bw.hold hta5
            have ta6 := Bw.hold hta6
            have taz1 := fun g : Bw V => cell_lt (ta1 g)
            have tay1 := fun g : Bw V => Nat.le_of_lt (taz1 g)
            have taz4 := fun g : Bw V => cell_lt (ta4 g)
            have tay4 := fun g : Bw V => Nat.le_of_lt (taz4 g)
            clear hta1 hta2 hta3 hta4 hta5 hta6
            refine wp_region_bw (by kernel_rfl) (by kernel_rfl) gta ?_
            repeat (go_big_quiet_step ((first
              | (go_at_call 21; first | with_reducible exact bw_call (H1.out _) | with_reducible exact bw_call (H2.out _))
              | (go_at_call 34; with_reducible exact bw_call (CL.out _)))))
            refine wpQuiet_nil ?_
            rintro _ ⟨g3, rfl⟩
            go_wp2_with fail
            go_ret
            exact ⟨ret_b (HW.out.trans HB.out).symm, by repeat (first | with_reducible exact Below.refl _ _ | with_reducible refine bl_alloc ?_ _ | with_reducible refine bl_drewN ?_ _ | with_reducible refine bl_drew ?_ | (with_reducible refine bl_set ?_ ?_ _; rotate_left; focus (first | (simp; done) | (simp; omega) | omega)) | with_reducible refine below_step ?_ (Bw.below _) | with_reducible refine below_step ?_ (by assumption))⟩
        · have q1 : (p == c) = false := by simp [hp]
          have HB := Lib.hid (decide_eq_false (p := p = c ∧ q = d) (fun h => hp h.1))
          clear hp
          go_enter Try.func16, Try.ntmps16
          go_wp2_with fail
          refine wp_start (fun V => V.cell? ⟨w.heap.size, 0, none⟩ = some (.int .i64 r) ∧ V.cell? ⟨w.heap.size, 1, none⟩ = some (.int .i64 a) ∧ V.cell? ⟨w.heap.size, 2, none⟩ = some (.int .i64 b) ∧ V.cell? ⟨w.heap.size + 1, 0, none⟩ = some (.int .i64 s) ∧ V.cell? ⟨w.heap.size + 1, 1, none⟩ = some (.int .i64 c) ∧ V.cell? ⟨w.heap.size + 1, 2, none⟩ = some (.int .i64 d) ∧ Below w.heap.size w V) ⟨by first | with_reducible assumption | (simp [go_sem]; done), by first | with_reducible assumption | (simp [go_sem]; done), by first | with_reducible assumption | (simp [go_sem]; done), by first | with_reducible assumption | (simp [go_sem]; done), by first | with_reducible assumption | (simp [go_sem]; done), by first | with_reducible assumption | (simp [go_sem]; done), by repeat (first | with_reducible exact Below.refl _ _ | with_reducible refine bl_alloc ?_ _ | with_reducible refine bl_drewN ?_ _ | with_reducible refine bl_drew ?_ | (with_reducible refine bl_set ?_ ?_ _; rotate_left; focus (first | (simp; done) | (simp; omega) | omega)) | with_reducible refine below_step ?_ (Bw.below _) | with_reducible refine below_step ?_ (by assumption))⟩ ?_
          rintro V ⟨hta1, hta2, hta3, hta4, hta5, hta6, hWta⟩ gta
          have ta1 := Bw.hold hta1
          have ta2 := Bw.hold hta2
          have ta3 := Bw.hold hta3
          have ta4 := Bw.hold hta4
          have ta5 := Bw.hold hta5
          have ta6 := Bw.hold hta6
          have taz1 := fun g : Bw V => cell_lt (ta1 g)
          have tay1 := fun g : Bw V => Nat.le_of_lt (taz1 g)
          have taz4 := fun g : Bw V => cell_lt (ta4 g)
          have tay4 := fun g : Bw V => Nat.le_of_lt (taz4 g)
          clear hta1 hta2 hta3 hta4 hta5 hta6
          refine wp_region_bw (by kernel_rfl) (by kernel_rfl) gta ?_
          repeat (go_big_quiet_step ((first
            | (go_at_call 21; first | with_reducible exact bw_call (H1.out _) | with_reducible exact bw_call (H2.out _))
            | (go_at_call 34; with_reducible exact bw_call (CL.out _)))))
          refine wpQuiet_nil ?_
          rintro _ ⟨g3, rfl⟩
          go_wp2_with fail
          go_ret
          exact ⟨ret_b (HW.out.trans HB.out).symm, by repeat (first | with_reducible exact Below.refl _ _ | with_reducible refine bl_alloc ?_ _ | with_reducible refine bl_drewN ?_ _ | with_reducible refine bl_drew ?_ | (with_reducible refine bl_set ?_ ?_ _; rotate_left; focus (first | (simp; done) | (simp; omega) | omega)) | with_reducible refine below_step ?_ (Bw.below _) | with_reducible refine below_step ?_ (by assumption))⟩
      · have hd0 : decide (s ≤ r) = false := decide_eq_false hsr
        have hw : wthB r a b s c d = false := by unfold wthB; rw [ho1, ho2, hd0]; rfl
        rw [hw]
        clear O1 O2 ho1 ho2 hw hz
        go_enter Try.func16, Try.ntmps16
        go_wp2_with fail
        refine wp_start (fun V => V.cell? ⟨w.heap.size, 0, none⟩ = some (.int .i64 r) ∧ V.cell? ⟨w.heap.size, 1, none⟩ = some (.int .i64 a) ∧ V.cell? ⟨w.heap.size, 2, none⟩ = some (.int .i64 b) ∧ V.cell? ⟨w.heap.size + 1, 0, none⟩ = some (.int .i64 s) ∧ V.cell? ⟨w.heap.size + 1, 1, none⟩ = some (.int .i64 c) ∧ V.cell? ⟨w.heap.size + 1, 2, none⟩ = some (.int .i64 d) ∧ Below w.heap.size w V) ⟨by first | with_reducible assumption | (simp [go_sem]; done), by first | with_reducible assumption | (simp [go_sem]; done), by first | with_reducible assumption | (simp [go_sem]; done), by first | with_reducible assumption | (simp [go_sem]; done), by first | with_reducible assumption | (simp [go_sem]; done), by first | with_reducible assumption | (simp [go_sem]; done), by repeat (first | with_reducible exact Below.refl _ _ | with_reducible refine bl_alloc ?_ _ | with_reducible refine bl_drewN ?_ _ | with_reducible refine bl_drew ?_ | (with_reducible refine bl_set ?_ ?_ _; rotate_left; focus (first | (simp; done) | (simp; omega) | omega)) | with_reducible refine below_step ?_ (Bw.below _) | with_reducible refine below_step ?_ (by assumption))⟩ ?_
        rintro V ⟨hta1, hta2, hta3, hta4, hta5, hta6, hWta⟩ gta
        have ta1 := Bw.hold hta1
        have ta2 := Bw.hold hta2
        have ta3 := Bw.hold hta3
        have ta4 := Bw.hold hta4
        have ta5 := Bw.hold hta5
        have ta6 := Bw.hold hta6
        have taz1 := fun g : Bw V => cell_lt (ta1 g)
        have tay1 := fun g : Bw V => Nat.le_of_lt (taz1 g)
        have taz4 := fun g : Bw V => cell_lt (ta4 g)
        have tay4 := fun g : Bw V => Nat.le_of_lt (taz4 g)
        clear hta1 hta2 hta3 hta4 hta5 hta6
        refine wp_region_bw (by kernel_rfl) (by kernel_rfl) gta ?_
        repeat (go_big_quiet_step ((first
          | (go_at_call 21; first | with_reducible exact bw_call (H1.out _) | with_reducible exact bw_call (H2.out _)))))
        refine wpQuiet_nil ?_
        rintro _ ⟨g3, rfl⟩
        go_wp2_with fail
        go_ret
        exact ⟨rfl, by repeat (first | with_reducible exact Below.refl _ _ | with_reducible refine bl_alloc ?_ _ | with_reducible refine bl_drewN ?_ _ | with_reducible refine bl_drew ?_ | (with_reducible refine bl_set ?_ ?_ _; rotate_left; focus (first | (simp; done) | (simp; omega) | omega)) | with_reducible refine below_step ?_ (Bw.below _) | with_reducible refine below_step ?_ (by assumption))⟩
end Go.Proofs.Ytajojnbpmbkghaa

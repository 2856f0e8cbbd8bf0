/- The walks of Steps: the program's and the reference's. -/
import Derived.Test.YtjedegpmpdgckaaRefRound
import Derived.Test.YtjedegpmpdgckaaFit
namespace Go.Proofs.Ytjedegpmpdgckaa
open Go.RowKit
set_option linter.unusedSimpArgs false
set_option linter.unusedVariables false
/-- Has a number a size? -/
def szB (n : Int) : Bool := i64B n && decide (n ≠ -9223372036854775808)
def stB (a b : Int) : Bool := szB (a + b) && szB a && szB b
/-- The greater of two, as Go has it. -/
def mx (x y : Int) : Int := if x < y then y else x
def stV (a b : Int) : Int := mx (mx (mx 0 (szI a)) (szI b)) (szI (a + b))
def stA (a b : Int) : Int := if stB a b = true then stV a b else 0
def stn (a b : Int) (k : Nat) : Int := if k = 0 then a else if k = 1 then b else a + b
def stm (a b : Int) : Nat → Int
  | 0 => 0
  | k + 1 => mx (stm a b k) (szI (stn a b k))
theorem st_yes (a b : Int) (ha : -9223372036854775808 ≤ a) (ha' : a ≤ 9223372036854775807) (hb : -9223372036854775808 ≤ b) (hb' : b ≤ 9223372036854775807) (h1 : i64B (a + b) = true) (h : ∀ k, k < 3 → stn a b k ≠ -9223372036854775808) : stB a b = true ∧ stA a b = stm a b 3 := by
  have e0 : a ≠ -9223372036854775808 := h 0 (by omega)
  have e1 : b ≠ -9223372036854775808 := h 1 (by omega)
  have e2 : a + b ≠ -9223372036854775808 := h 2 (by omega)
  have hB : stB a b = true := by
    unfold stB szB
    rw [h1, i64B_mk ha ha', i64B_mk hb hb']
    simp [e0, e1, e2]
  refine ⟨hB, ?_⟩
  unfold stA
  rw [if_pos hB]
  simp [stV, stm, stn]
theorem st_no (a b : Int) (h : i64B (a + b) = false ∨ a = -9223372036854775808 ∨ b = -9223372036854775808 ∨ a + b = -9223372036854775808) : stB a b = false ∧ stA a b = 0 := by
  have hB : stB a b = false := by
    unfold stB szB
    rcases h with h | h | h | h
    · rw [h]; simp
    · simp [h]
    · simp [h]
    · simp [h]
  exact ⟨hB, by unfold stA; rw [hB]; rfl⟩
theorem st_next {a b B F : Int} {k : Nat} (hB : B = stm a b k) (hF : szI (stn a b k) = F) : Value.int .i64 (if B < F then F else B) = .int .i64 (stm a b (k + 1)) := by
  subst hB hF; rfl
theorem st_more {a b : Int} {k : Nat} (h : ∀ j, j < k → stn a b j ≠ -9223372036854775808) (hk : stn a b k ≠ -9223372036854775808) : ∀ j, j < k + 1 → stn a b j ≠ -9223372036854775808 := fun j hj => by
  by_cases e : j = k
  · subst e; exact hk
  · exact h j (by omega)
set_option maxHeartbeats 1000000 in
theorem eis_steps (a b : Int) (ha : -9223372036854775808 ≤ a) (ha' : a ≤ 9223372036854775807) (hb : -9223372036854775808 ≤ b) (hb' : b ≤ 9223372036854775807) (w : World) :
    Calls Try.prog 27 #[.agg #[.int .i64 a, .int .i64 b]] w fun e w' => e = .returned (.tuple #[.int .i64 (stA a b), .bool (stB a b)]) ∧ Below w.heap.size w w' := by
  have N0 := num_add a b ha ha' hb hb'
  by_cases h1 : i64B (a + b) = true
  · obtain ⟨s1, s2⟩ := i64B_true h1
    rw [okv_yes h1, h1] at N0
    have HN := Lib.hid N0
    have YES := Lib.hid (st_yes a b ha ha' hb hb' h1)
    have NO := Lib.hid (st_no a b)
    clear N0 h1
    go_enter Try.func27, Try.ntmps27
    go_wp2_with fail
    refine (HN.out _).mono ?_
    rintro e w' ⟨rfl, rfl⟩
    go_wp2_with fail
    refine wp_start (fun W => W.cell? ⟨w.heap.size + 1, 0, none⟩ = some (.int .i64 a) ∧ W.cell? ⟨w.heap.size + 1, 1, none⟩ = some (.int .i64 b) ∧ W.cell? ⟨w.heap.size + 1, 2, none⟩ = some (.int .i64 (a + b)) ∧ Below w.heap.size w W) ⟨by first | with_reducible assumption | (simp [go_sem]; done), by first | with_reducible assumption | (simp [go_sem]; done), by first | with_reducible assumption | (simp [go_sem]; done), by repeat (first | with_reducible exact Below.refl _ _ | with_reducible refine bl_alloc ?_ _ | with_reducible refine bl_drewN ?_ _ | with_reducible refine bl_drew ?_ | (with_reducible refine bl_set ?_ ?_ _; rotate_left; focus (first | (simp; done) | (simp; omega) | omega)) | with_reducible refine below_step ?_ (Bw.below _) | with_reducible refine below_step ?_ (by assumption))⟩ ?_
    rintro W ⟨hc1, hc2, hc3, hWc⟩ gc
    have c1 := Bw.hold hc1
    have c2 := Bw.hold hc2
    have c3 := Bw.hold hc3
    have cz1 := fun g : Bw W => cell_lt (c1 g)
    have cy1 := fun g : Bw W => Nat.le_of_lt (cz1 g)
    clear hc1 hc2 hc3
    go_loop [5, 6, 26] (fun ok m i => ∃ k : Nat, k ≤ 3 ∧ i = .int .i64 k ∧ ok = .bool true ∧ m = .int .i64 (stm a b k) ∧ Hid (∀ j, j < k → stn a b j ≠ -9223372036854775808)) (fun _ _ i => 3 - (intOf i).toNat)
    case atStart => exact ⟨0, by omega, rfl, rfl, rfl, Lib.hid (fun j hj => absurd hj (by omega))⟩
    case round =>
      obtain ⟨k, hk, rfl, rfl, rfl, HJ⟩ := hrel
      obtain ⟨B, hB⟩ : ∃ B, B = stm a b k := ⟨_, rfl⟩
      rw [← hB]
      have HB := Lib.hid hB
      clear hB
      have hk4 : k = 0 ∨ k = 1 ∨ k = 2 ∨ k = 3 := by omega
      rcases hk4 with rfl | rfl | rfl | rfl
      · by_cases hn : a < 0
        · have NG := num_neg (a) (by omega) (by omega)
          by_cases hm : a = -9223372036854775808
          · have hb2 : i64B (-(a)) = false := i64B_no (by omega)
            rw [okv_no hb2, hb2] at NG
            have HG := Lib.hid NG
            have HM := Lib.hid hm
            clear NG hb2 hm
            go_wp2_with fail
            refine (HG.out _).mono ?_
            rintro e w' ⟨rfl, rfl⟩
            go_wp2_with fail
            obtain ⟨f1, f2⟩ := NO.out (by have := HM.out; omega)
            go_ret2
            exact ⟨ret_ib f2.symm f1.symm, by repeat (first | with_reducible exact Below.refl _ _ | with_reducible refine bl_alloc ?_ _ | with_reducible refine bl_drewN ?_ _ | with_reducible refine bl_drew ?_ | (with_reducible refine bl_set ?_ ?_ _; rotate_left; focus (first | (simp; done) | (simp; omega) | omega)) | with_reducible refine below_step ?_ (Bw.below _) | with_reducible refine below_step ?_ (by assumption))⟩
          · have hb2 : i64B (-(a)) = true := i64B_mk (by omega) (by omega)
            rw [okv_yes hb2, hb2] at NG
            have HG := Lib.hid NG
            have HM := Lib.hid hm
            have HZ := Lib.hid (szI_neg hn)
            clear NG hb2 hm
            go_wp2_with fail
            refine (HG.out _).mono ?_
            rintro e w' ⟨rfl, rfl⟩
            go_wp2_with fail
            go_round
            case rel => exact ⟨0 + 1, by omega, by go_num, rfl, st_next HB.out (HZ.out), Lib.hid (st_more HJ.out HM.out)⟩
            case measure => simp [intOf]
        · have HZ := Lib.hid (szI_pos hn)
          go_wp2_with fail
          go_round
          case rel => exact ⟨0 + 1, by omega, by go_num, rfl, st_next HB.out (HZ.out), Lib.hid (st_more HJ.out (by show a ≠ _; omega))⟩
          case measure => simp [intOf]
      · by_cases hn : b < 0
        · have NG := num_neg (b) (by omega) (by omega)
          by_cases hm : b = -9223372036854775808
          · have hb2 : i64B (-(b)) = false := i64B_no (by omega)
            rw [okv_no hb2, hb2] at NG
            have HG := Lib.hid NG
            have HM := Lib.hid hm
            clear NG hb2 hm
            go_wp2_with fail
            refine (HG.out _).mono ?_
            rintro e w' ⟨rfl, rfl⟩
            go_wp2_with fail
            obtain ⟨f1, f2⟩ := NO.out (by have := HM.out; omega)
            go_ret2
            exact ⟨ret_ib f2.symm f1.symm, by repeat (first | with_reducible exact Below.refl _ _ | with_reducible refine bl_alloc ?_ _ | with_reducible refine bl_drewN ?_ _ | with_reducible refine bl_drew ?_ | (with_reducible refine bl_set ?_ ?_ _; rotate_left; focus (first | (simp; done) | (simp; omega) | omega)) | with_reducible refine below_step ?_ (Bw.below _) | with_reducible refine below_step ?_ (by assumption))⟩
          · have hb2 : i64B (-(b)) = true := i64B_mk (by omega) (by omega)
            rw [okv_yes hb2, hb2] at NG
            have HG := Lib.hid NG
            have HM := Lib.hid hm
            have HZ := Lib.hid (szI_neg hn)
            clear NG hb2 hm
            go_wp2_with fail
            refine (HG.out _).mono ?_
            rintro e w' ⟨rfl, rfl⟩
            go_wp2_with fail
            go_round
            case rel => exact ⟨1 + 1, by omega, by go_num, rfl, st_next HB.out (HZ.out), Lib.hid (st_more HJ.out HM.out)⟩
            case measure => simp [intOf]
        · have HZ := Lib.hid (szI_pos hn)
          go_wp2_with fail
          go_round
          case rel => exact ⟨1 + 1, by omega, by go_num, rfl, st_next HB.out (HZ.out), Lib.hid (st_more HJ.out (by show b ≠ _; omega))⟩
          case measure => simp [intOf]
      · by_cases hn : a + b < 0
        · have NG := num_neg (a + b) (by omega) (by omega)
          by_cases hm : a + b = -9223372036854775808
          · have hb2 : i64B (-(a + b)) = false := i64B_no (by omega)
            rw [okv_no hb2, hb2] at NG
            have HG := Lib.hid NG
            have HM := Lib.hid hm
            clear NG hb2 hm
            go_wp2_with fail
            refine (HG.out _).mono ?_
            rintro e w' ⟨rfl, rfl⟩
            go_wp2_with fail
            obtain ⟨f1, f2⟩ := NO.out (by have := HM.out; omega)
            go_ret2
            exact ⟨ret_ib f2.symm f1.symm, by repeat (first | with_reducible exact Below.refl _ _ | with_reducible refine bl_alloc ?_ _ | with_reducible refine bl_drewN ?_ _ | with_reducible refine bl_drew ?_ | (with_reducible refine bl_set ?_ ?_ _; rotate_left; focus (first | (simp; done) | (simp; omega) | omega)) | with_reducible refine below_step ?_ (Bw.below _) | with_reducible refine below_step ?_ (by assumption))⟩
          · have hb2 : i64B (-(a + b)) = true := i64B_mk (by omega) (by omega)
            rw [okv_yes hb2, hb2] at NG
            have HG := Lib.hid NG
            have HM := Lib.hid hm
            have HZ := Lib.hid (szI_neg hn)
            clear NG hb2 hm
            go_wp2_with fail
            refine (HG.out _).mono ?_
            rintro e w' ⟨rfl, rfl⟩
            go_wp2_with fail
            go_round
            case rel => exact ⟨2 + 1, by omega, by go_num, rfl, st_next HB.out (HZ.out), Lib.hid (st_more HJ.out HM.out)⟩
            case measure => simp [intOf]
        · have HZ := Lib.hid (szI_pos hn)
          go_wp2_with fail
          go_round
          case rel => exact ⟨2 + 1, by omega, by go_num, rfl, st_next HB.out (HZ.out), Lib.hid (st_more HJ.out (by show a + b ≠ _; omega))⟩
          case measure => simp [intOf]
      · obtain ⟨f1, f2⟩ := YES.out HJ.out
        have F1 := Lib.hid f1
        have F2 := Lib.hid (f2.trans HB.out.symm)
        clear f1 f2
        go_wp2_with fail
        go_ret2
        exact ⟨ret_ib F2.out.symm F1.out.symm, by repeat (first | with_reducible exact Below.refl _ _ | with_reducible refine bl_alloc ?_ _ | with_reducible refine bl_drewN ?_ _ | with_reducible refine bl_drew ?_ | (with_reducible refine bl_set ?_ ?_ _; rotate_left; focus (first | (simp; done) | (simp; omega) | omega)) | with_reducible refine below_step ?_ (Bw.below _) | with_reducible refine below_step ?_ (by assumption))⟩
  · have hh : i64B (a + b) = false := by simpa using h1
    rw [okv_no hh, hh] at N0
    have HN := Lib.hid N0
    obtain ⟨f1, f2⟩ := st_no a b (.inl hh)
    have F1 := Lib.hid f1
    have F2 := Lib.hid f2
    clear N0 h1 hh f1 f2
    go_enter Try.func27, Try.ntmps27
    go_wp2_with fail
    refine (HN.out _).mono ?_
    rintro e w' ⟨rfl, rfl⟩
    go_wp2_with fail
    go_ret2
    exact ⟨ret_ib F2.out.symm F1.out.symm, by repeat (first | with_reducible exact Below.refl _ _ | with_reducible refine bl_alloc ?_ _ | with_reducible refine bl_drewN ?_ _ | with_reducible refine bl_drew ?_ | (with_reducible refine bl_set ?_ ?_ _; rotate_left; focus (first | (simp; done) | (simp; omega) | omega)) | with_reducible refine below_step ?_ (Bw.below _) | with_reducible refine below_step ?_ (by assumption))⟩
end Go.Proofs.Ytjedegpmpdgckaa

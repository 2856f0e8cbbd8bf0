
/- The walks of eisen: Conj, Norm, Unit. -/
import Derived.Test.YtmipkloleklnkaaEis
namespace Go.Proofs.Ytmipkloleklnkaa
open Go.RowKit

/-- The six units' parts. -/
def uA (j : Int) : Int := if j = 0 then 1 else if j = 1 then 0 else if j = 2 then -1 else if j = 3 then -1 else if j = 4 then 0 else 1
def uB (j : Int) : Int := if j = 0 then 0 else if j = 1 then 1 else if j = 2 then 1 else if j = 3 then 0 else if j = 4 then -1 else -1
theorem tmod6 (k : Int) : (k.tmod 6 = 0 ∧ k % 6 = 0) ∨ (k.tmod 6 = 1 ∧ k % 6 = 1) ∨ (k.tmod 6 = 2 ∧ k % 6 = 2) ∨ (k.tmod 6 = 3 ∧ k % 6 = 3) ∨ (k.tmod 6 = 4 ∧ k % 6 = 4) ∨ (k.tmod 6 = 5 ∧ k % 6 = 5)
    ∨ (k.tmod 6 = -1 ∧ k % 6 = 5) ∨ (k.tmod 6 = -2 ∧ k % 6 = 4) ∨ (k.tmod 6 = -3 ∧ k % 6 = 3) ∨ (k.tmod 6 = -4 ∧ k % 6 = 2) ∨ (k.tmod 6 = -5 ∧ k % 6 = 1) := by
  have e := Int.tmod_eq_emod (a := k) (b := 6)
  have h6 : ((6 : Int).natAbs : Int) = 6 := rfl
  have hj : k % 6 = 0 ∨ k % 6 = 1 ∨ k % 6 = 2 ∨ k % 6 = 3 ∨ k % 6 = 4 ∨ k % 6 = 5 := by omega
  by_cases h : 0 ≤ k ∨ (6 : Int) ∣ k
  · rw [if_pos h] at e
    rcases hj with hj | hj | hj | hj | hj | hj <;> rw [hj] at e <;> simp [hj, e]
  · rw [if_neg h, h6] at e
    have : k % 6 ≠ 0 := fun hh => h (.inr (Int.dvd_of_emod_eq_zero hh))
    rcases hj with hj | hj | hj | hj | hj | hj <;> rw [hj] at e <;> first | exact absurd hj this | simp [hj, e]
set_option maxHeartbeats 1000000 in
theorem eis_unit (k : Int) (w : World) :
    Calls Try.prog 34 #[.int .i64 k] w fun e w' => e = .returned (.agg #[.int .i64 (uA (k % 6)), .int .i64 (uB (k % 6))]) ∧ Below w.heap.size w w' := by
  rcases tmod6 k with ⟨t, j⟩ | ⟨t, j⟩ | ⟨t, j⟩ | ⟨t, j⟩ | ⟨t, j⟩ | ⟨t, j⟩ | ⟨t, j⟩ | ⟨t, j⟩ | ⟨t, j⟩ | ⟨t, j⟩ | ⟨t, j⟩
  all_goals
    rw [j]
    clear j
    go_enter Try.func34, Try.ntmps34
    go_wp2
    refine bodyPost_ret (v := .agg #[.int .i64 (uA _), .int .i64 (uB _)]) (by simp [results, Try.results34, go_sem, uA, uB]; done) rfl ⟨rfl, ?_⟩
    repeat (first | exact Below.refl _ _ | refine bl_alloc ?_ _ | refine bl_drewN ?_ _ | refine bl_drew ?_ | refine bl_set ?_ (by first | (simp; done) | (simp; omega) | omega) _ | refine below_step ?_ (by assumption) | refine below_step ?_ (Bw.below _))
theorem conj_core (a b : Int) : (if (i64B (a + b) && i64B (-b)) = true then okv (a + b) else 0) = eA (a + b) (-b) (a + b) := eA_okv _ _
set_option maxHeartbeats 400000 in
theorem eis_conj (a b : Int) (ha : -9223372036854775808 ≤ a) (ha' : a ≤ 9223372036854775807) (hb : -9223372036854775808 ≤ b) (hb' : b ≤ 9223372036854775807) (w : World) :
    Calls Try.prog 78 #[.agg #[.int .i64 a, .int .i64 b]] w fun e w' => e = .returned (.tuple #[.agg #[.int .i64 (eA (a + b) (-b) (a + b)), .int .i64 (eA (a + b) (-b) (-b))], .bool (eB (a + b) (-b))]) ∧ Below w.heap.size w w' := by
  go_enter Try.func78, Try.ntmps78
  go_wp2_with fail
  refine (num_add a b ha ha' hb hb' _).mono ?_
  rintro e w' ⟨rfl, rfl⟩
  go_wp2_with fail
  refine (num_neg b hb hb' _).mono ?_
  rintro e w' ⟨rfl, rfl⟩
  go_wp2_with fail
  refine (eis_both' (a + b) (-b) _).mono ?_
  rintro e w1 ⟨rfl, hbw⟩
  obtain ⟨hcell, hfree⟩ := bcell hbw
  go_wp2_with fail
  refine bodyPost_ret (v := .tuple #[.agg #[.int .i64 (eA (a + b) (-b) (a + b)), .int .i64 (eA (a + b) (-b) (-b))], .bool (eB (a + b) (-b))]) (by simp [results, Try.results78, go_sem, hcell]) rfl ⟨rfl, ?_⟩
  repeat (first | exact Below.refl _ _ | refine bl_alloc ?_ _ | refine bl_drewN ?_ _ | refine bl_drew ?_ | refine bl_set ?_ (by first | (simp; done) | (simp; omega) | omega) _ | refine below_step ?_ (by assumption) | refine below_step ?_ (Bw.below _))

end Go.Proofs.Ytmipkloleklnkaa

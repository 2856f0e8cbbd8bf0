/- The walks of eisen: Conj, Norm, Unit. -/
import Derived.Test.YtjedegpmpdgckaaEis
namespace Go.Proofs.Ytjedegpmpdgckaa
open Go.RowKit

/-- The six units' parts. -/
def uA (j : Int) : Int := if j = 0 then 1 else if j = 1 then 0 else if j = 2 then -1 else if j = 3 then -1 else if j = 4 then 0 else 1
def uB (j : Int) : Int := if j = 0 then 0 else if j = 1 then 1 else if j = 2 then 1 else if j = 3 then 0 else if j = 4 then -1 else -1
theorem tmod6 (k : Int) : (k.tmod 6 = 0 ∧ k % 6 = 0) ∨ (k.tmod 6 = 1 ∧ k % 6 = 1) ∨ (k.tmod 6 = 2 ∧ k % 6 = 2) ∨ (k.tmod 6 = 3 ∧ k % 6 = 3) ∨ (k.tmod 6 = 4 ∧ k % 6 = 4) ∨ (k.tmod 6 = 5 ∧ k % 6 = 5)
    ∨ (k.tmod 6 = -1 ∧ k % 6 = 5) ∨ (k.tmod 6 = -2 ∧ k % 6 = 4) ∨ (k.tmod 6 = -3 ∧ k % 6 = 3) ∨ (k.tmod 6 = -4 ∧ k % 6 = 2) ∨ (k.tmod 6 = -5 ∧ k % 6 = 1) := by
  have e := Int.tmod_eq_emod (a := k) (b := 6)
  have h6 : ((6 : Int).natAbs : Int) = 6 := rfl
  have hj : k % 6 = 0 ∨ k % 6 = 1 ∨ k % 6 = 2 ∨ k % 6 = 3 ∨ k % 6 = 4 ∨ k % 6 = 5 := by omega
  by_cases h : 0 ≤ k ∨ (6 : Int) ∣ k
  · rw [if_pos h] at e
    rcases hj with hj | hj | hj | hj | hj | hj <;> rw [hj] at e <;> simp [hj, e]
  · rw [if_neg h, h6] at e
    have : k % 6 ≠ 0 := fun hh => h (.inr (Int.dvd_of_emod_eq_zero hh))
    rcases hj with hj | hj | hj | hj | hj | hj <;> rw [hj] at e <;> first | exact absurd hj this | simp [hj, e]
set_option maxHeartbeats 1000000 in
theorem eis_unit (k : Int) (w : World) :
    Calls Try.prog 16 #[.int .i64 k] w fun e w' => e = .returned (.agg #[.int .i64 (uA (k % 6)), .int .i64 (uB (k % 6))]) ∧ Below w.heap.size w w' := by
  rcases tmod6 k with ⟨t, j⟩ | ⟨t, j⟩ | ⟨t, j⟩ | ⟨t, j⟩ | ⟨t, j⟩ | ⟨t, j⟩ | ⟨t, j⟩ | ⟨t, j⟩ | ⟨t, j⟩ | ⟨t, j⟩ | ⟨t, j⟩
  all_goals
    rw [j]
    clear j
    go_enter Try.func16, Try.ntmps16
    go_wp2
    refine bodyPost_ret (v := .agg #[.int .i64 (uA _), .int .i64 (uB _)]) (by simp [results, Try.results16, go_sem, uA, uB]; done) rfl ⟨rfl, ?_⟩
    repeat (first | exact Below.refl _ _ | refine bl_alloc ?_ _ | refine bl_drewN ?_ _ | refine bl_drew ?_ | refine bl_set ?_ (by first | (simp; done) | (simp; omega) | omega) _ | refine below_step ?_ (by assumption) | refine below_step ?_ (Bw.below _))
theorem conj_core (a b : Int) : (if (i64B (a + b) && i64B (-b)) = true then okv (a + b) else 0) = eA (a + b) (-b) (a + b) := eA_okv _ _
set_option maxHeartbeats 400000 in
theorem eis_conj (a b : Int) (ha : -9223372036854775808 ≤ a) (ha' : a ≤ 9223372036854775807) (hb : -9223372036854775808 ≤ b) (hb' : b ≤ 9223372036854775807) (w : World) :
    Calls Try.prog 26 #[.agg #[.int .i64 a, .int .i64 b]] w fun e w' => e = .returned (.tuple #[.agg #[.int .i64 (eA (a + b) (-b) (a + b)), .int .i64 (eA (a + b) (-b) (-b))], .bool (eB (a + b) (-b))]) ∧ Below w.heap.size w w' := by
  go_enter Try.func26, Try.ntmps26
  go_wp2_with fail
  refine (num_add a b ha ha' hb hb' _).mono ?_
  rintro e w' ⟨rfl, rfl⟩
  go_wp2_with fail
  refine (num_neg b hb hb' _).mono ?_
  rintro e w' ⟨rfl, rfl⟩
  go_wp2_with fail
  refine (eis_both' (a + b) (-b) _).mono ?_
  rintro e w1 ⟨rfl, hbw⟩
  obtain ⟨hcell, hfree⟩ := bcell hbw
  go_wp2_with fail
  refine bodyPost_ret (v := .tuple #[.agg #[.int .i64 (eA (a + b) (-b) (a + b)), .int .i64 (eA (a + b) (-b) (-b))], .bool (eB (a + b) (-b))]) (by simp [results, Try.results26, go_sem, hcell]) rfl ⟨rfl, ?_⟩
  repeat (first | exact Below.refl _ _ | refine bl_alloc ?_ _ | refine bl_drewN ?_ _ | refine bl_drew ?_ | refine bl_set ?_ (by first | (simp; done) | (simp; omega) | omega) _ | refine below_step ?_ (by assumption) | refine below_step ?_ (Bw.below _))

set_option maxHeartbeats 400000 in
theorem eis_norm (a b : Int) (ha : -9223372036854775808 ≤ a) (ha' : a ≤ 9223372036854775807) (hb : -9223372036854775808 ≤ b) (hb' : b ≤ 9223372036854775807) (w : World) :
    Calls Try.prog 15 #[.agg #[.int .i64 a, .int .i64 b]] w fun e w' => e = .returned (.tuple #[.int .i64 (okv (a * a + a * b + b * b)), .bool (i64B (a * a + a * b + b * b))]) ∧ Below w.heap.size w w' := by
  obtain ⟨q1, q2⟩ := p126 a a ha ha' ha ha'
  obtain ⟨q3, q4⟩ := p126 a b ha ha' hb hb'
  obtain ⟨q5, q6⟩ := p126 b b hb hb' hb hb'
  have k1 : -340282366920938463444927863358058659840 ≤ a * a + a * b + b * b := by omega
  have k2 : a * a + a * b + b * b ≤ 340282366920938463444927863358058659840 := by omega
  clear q1 q2 q3 q4 q5 q6
  go_enter Try.func15, Try.ntmps15
  go_wp2_with fail
  refine wp_start (fun W => W.cell? ⟨w.heap.size, 0, none⟩ = some (.int .i64 a) ∧ W.cell? ⟨w.heap.size, 1, none⟩ = some (.int .i64 b) ∧ Below w.heap.size w W) ⟨by simp [go_sem], by simp [go_sem], by repeat (first | exact Below.refl _ _ | refine bl_alloc ?_ _ | refine bl_drewN ?_ _ | refine bl_drew ?_ | refine bl_set ?_ (by first | (simp; done) | (simp; omega) | omega) _ | refine below_step ?_ (by assumption) | refine below_step ?_ (Bw.below _))⟩ ?_
  rintro W ⟨h1, h2, hW⟩ g
  have c1 := Bw.hold h1
  have c2 := Bw.hold h2
  clear h1 h2
  refine wp_region_bw (by kernel_rfl) (by kernel_rfl) g ?_
  repeat (go_big_quiet_step ((first
    | (go_at_call 38; first | with_reducible exact bw_call (eis_times a a ha ha' ha ha' _) | with_reducible exact bw_call (eis_times a b ha ha' hb hb' _) | with_reducible exact bw_call (eis_times b b hb hb' hb hb' _))
    | (go_at_call 37; first | with_reducible exact bw_call (eis_plus (a * a) (a * b) _) | with_reducible exact bw_call (eis_plus (a * a + a * b) (b * b) _))
    | (go_at_call 39; with_reducible exact bw_call (eis_short (a * a + a * b + b * b) k1 k2 _)))))
  refine wpQuiet_nil ?_
  rintro _ ⟨g2, rfl⟩
  go_wp2_with fail
  go_ret2
  exact ⟨rfl, by repeat (first | exact Below.refl _ _ | refine bl_alloc ?_ _ | refine bl_drewN ?_ _ | refine bl_drew ?_ | refine bl_set ?_ (by first | (simp; done) | (simp; omega) | omega) _ | refine below_step ?_ (by assumption) | refine below_step ?_ (Bw.below _))⟩
end Go.Proofs.Ytjedegpmpdgckaa

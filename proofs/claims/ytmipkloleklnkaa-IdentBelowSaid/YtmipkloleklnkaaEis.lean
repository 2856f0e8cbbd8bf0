
/- The walks of eisen: Add, Sub, Mul, Conj, Norm, Unit. -/
import Derived.Test.YtmipkloleklnkaaEisW
namespace Go.Proofs.Ytmipkloleklnkaa
open Go.RowKit

/-- Do both parts fit? -/
def eB (a b : Int) : Bool := i64B a && i64B b
/-- A part of an answer: nought if one of the two does not fit. -/
def eA (a b x : Int) : Int := if eB a b = true then x else 0
theorem eA_okv (a b : Int) : (if (i64B a && i64B b) = true then okv a else 0) = eA a b a := by
  unfold eA eB okv
  by_cases h : i64B a = true <;> simp [h]
theorem eA_okv' (a b : Int) : (if (i64B a && i64B b) = true then okv b else 0) = eA a b b := by
  unfold eA eB okv
  by_cases h : i64B a = true <;> by_cases h' : i64B b = true <;> simp [h, h']
theorem eis_both' (a b : Int) (w : World) :
    Calls Try.prog 57 #[.int .i64 (okv a), .bool (i64B a), .int .i64 (okv b), .bool (i64B b)] w fun e w' => e = .returned (.tuple #[.agg #[.int .i64 (eA a b a), .int .i64 (eA a b b)], .bool (eB a b)]) ∧ Below w.heap.size w w' := by
  have h := eis_both (okv a) (okv b) (i64B a) (i64B b) w
  rw [eA_okv, eA_okv'] at h
  exact h
set_option maxHeartbeats 400000 in
theorem eis_sides_add (a b c d : Int) (ha : -9223372036854775808 ≤ a) (ha' : a ≤ 9223372036854775807) (hb : -9223372036854775808 ≤ b) (hb' : b ≤ 9223372036854775807) (hc : -9223372036854775808 ≤ c) (hc' : c ≤ 9223372036854775807) (hd : -9223372036854775808 ≤ d) (hd' : d ≤ 9223372036854775807) (w : World) :
    Calls Try.prog 58 #[.agg #[.int .i64 a, .int .i64 b], .agg #[.int .i64 c, .int .i64 d], .func (.func 59) #[] #[]] w fun e w' => e = .returned (.tuple #[.agg #[.int .i64 (eA (a + c) (b + d) (a + c)), .int .i64 (eA (a + c) (b + d) (b + d))], .bool (eB (a + c) (b + d))]) ∧ Below w.heap.size w w' := by
  go_enter Try.func58, Try.ntmps58
  go_wp2_with fail
  refine (num_add a c ha ha' hc hc' _).mono ?_
  rintro e w' ⟨rfl, rfl⟩
  go_wp2_with fail
  refine (num_add b d hb hb' hd hd' _).mono ?_
  rintro e w' ⟨rfl, rfl⟩
  go_wp2_with fail
  refine (eis_both' (a + c) (b + d) _).mono ?_
  rintro e w1 ⟨rfl, hbw⟩
  obtain ⟨hcell, hfree⟩ := bcell hbw
  go_wp2_with fail
  refine bodyPost_ret (v := .tuple #[.agg #[.int .i64 (eA (a + c) (b + d) (a + c)), .int .i64 (eA (a + c) (b + d) (b + d))], .bool (eB (a + c) (b + d))]) (by simp [results, Try.results58, go_sem, hcell]) rfl ⟨rfl, ?_⟩
  repeat (first | exact Below.refl _ _ | refine bl_alloc ?_ _ | refine bl_drewN ?_ _ | refine bl_drew ?_ | refine bl_set ?_ (by first | (simp; done) | (simp; omega) | omega) _ | refine below_step ?_ (by assumption) | refine below_step ?_ (Bw.below _))
set_option maxHeartbeats 400000 in
theorem eis_add (a b c d : Int) (ha : -9223372036854775808 ≤ a) (ha' : a ≤ 9223372036854775807) (hb : -9223372036854775808 ≤ b) (hb' : b ≤ 9223372036854775807) (hc : -9223372036854775808 ≤ c) (hc' : c ≤ 9223372036854775807) (hd : -9223372036854775808 ≤ d) (hd' : d ≤ 9223372036854775807) (w : World) :
    Calls Try.prog 33 #[.agg #[.int .i64 a, .int .i64 b], .agg #[.int .i64 c, .int .i64 d]] w fun e w' => e = .returned (.tuple #[.agg #[.int .i64 (eA (a + c) (b + d) (a + c)), .int .i64 (eA (a + c) (b + d) (b + d))], .bool (eB (a + c) (b + d))]) ∧ Below w.heap.size w w' := by
  go_enter Try.func33, Try.ntmps33
  go_wp2_with fail
  refine (eis_sides_add a b c d ha ha' hb hb' hc hc' hd hd' _).mono ?_
  rintro e w1 ⟨rfl, hbw⟩
  obtain ⟨hcell, hfree⟩ := bcell hbw
  go_wp2_with fail
  refine bodyPost_ret (v := .tuple #[.agg #[.int .i64 (eA (a + c) (b + d) (a + c)), .int .i64 (eA (a + c) (b + d) (b + d))], .bool (eB (a + c) (b + d))]) (by simp [results, Try.results33, go_sem, hcell]) rfl ⟨rfl, ?_⟩
  repeat (first | exact Below.refl _ _ | refine bl_alloc ?_ _ | refine bl_drewN ?_ _ | refine bl_drew ?_ | refine bl_set ?_ (by first | (simp; done) | (simp; omega) | omega) _ | refine below_step ?_ (by assumption) | refine below_step ?_ (Bw.below _))
set_option maxHeartbeats 400000 in
theorem eis_sides_sub (a b c d : Int) (ha : -9223372036854775808 ≤ a) (ha' : a ≤ 9223372036854775807) (hb : -9223372036854775808 ≤ b) (hb' : b ≤ 9223372036854775807) (hc : -9223372036854775808 ≤ c) (hc' : c ≤ 9223372036854775807) (hd : -9223372036854775808 ≤ d) (hd' : d ≤ 9223372036854775807) (w : World) :
    Calls Try.prog 58 #[.agg #[.int .i64 a, .int .i64 b], .agg #[.int .i64 c, .int .i64 d], .func (.func 88) #[] #[]] w fun e w' => e = .returned (.tuple #[.agg #[.int .i64 (eA (a - c) (b - d) (a - c)), .int .i64 (eA (a - c) (b - d) (b - d))], .bool (eB (a - c) (b - d))]) ∧ Below w.heap.size w w' := by
  go_enter Try.func58, Try.ntmps58
  go_wp2_with fail
  refine (num_sub a c ha ha' hc hc' _).mono ?_
  rintro e w' ⟨rfl, rfl⟩
  go_wp2_with fail
  refine (num_sub b d hb hb' hd hd' _).mono ?_
  rintro e w' ⟨rfl, rfl⟩
  go_wp2_with fail
  refine (eis_both' (a - c) (b - d) _).mono ?_
  rintro e w1 ⟨rfl, hbw⟩
  obtain ⟨hcell, hfree⟩ := bcell hbw
  go_wp2_with fail
  refine bodyPost_ret (v := .tuple #[.agg #[.int .i64 (eA (a - c) (b - d) (a - c)), .int .i64 (eA (a - c) (b - d) (b - d))], .bool (eB (a - c) (b - d))]) (by simp [results, Try.results58, go_sem, hcell]) rfl ⟨rfl, ?_⟩
  repeat (first | exact Below.refl _ _ | refine bl_alloc ?_ _ | refine bl_drewN ?_ _ | refine bl_drew ?_ | refine bl_set ?_ (by first | (simp; done) | (simp; omega) | omega) _ | refine below_step ?_ (by assumption) | refine below_step ?_ (Bw.below _))
set_option maxHeartbeats 400000 in
theorem eis_sub (a b c d : Int) (ha : -9223372036854775808 ≤ a) (ha' : a ≤ 9223372036854775807) (hb : -9223372036854775808 ≤ b) (hb' : b ≤ 9223372036854775807) (hc : -9223372036854775808 ≤ c) (hc' : c ≤ 9223372036854775807) (hd : -9223372036854775808 ≤ d) (hd' : d ≤ 9223372036854775807) (w : World) :
    Calls Try.prog 80 #[.agg #[.int .i64 a, .int .i64 b], .agg #[.int .i64 c, .int .i64 d]] w fun e w' => e = .returned (.tuple #[.agg #[.int .i64 (eA (a - c) (b - d) (a - c)), .int .i64 (eA (a - c) (b - d) (b - d))], .bool (eB (a - c) (b - d))]) ∧ Below w.heap.size w w' := by
  go_enter Try.func80, Try.ntmps80
  go_wp2_with fail
  refine (eis_sides_sub a b c d ha ha' hb hb' hc hc' hd hd' _).mono ?_
  rintro e w1 ⟨rfl, hbw⟩
  obtain ⟨hcell, hfree⟩ := bcell hbw
  go_wp2_with fail
  refine bodyPost_ret (v := .tuple #[.agg #[.int .i64 (eA (a - c) (b - d) (a - c)), .int .i64 (eA (a - c) (b - d) (b - d))], .bool (eB (a - c) (b - d))]) (by simp [results, Try.results80, go_sem, hcell]) rfl ⟨rfl, ?_⟩
  repeat (first | exact Below.refl _ _ | refine bl_alloc ?_ _ | refine bl_drewN ?_ _ | refine bl_drew ?_ | refine bl_set ?_ (by first | (simp; done) | (simp; omega) | omega) _ | refine below_step ?_ (by assumption) | refine below_step ?_ (Bw.below _))

theorem p126 (a b : Int) (ha : -9223372036854775808 ≤ a) (ha' : a ≤ 9223372036854775807) (hb : -9223372036854775808 ≤ b) (hb' : b ≤ 9223372036854775807) : -85070591730234615865843651857942052864 ≤ a * b ∧ a * b ≤ 85070591730234615865843651857942052864 := by
  have e1 : (9223372036854775808 - a) * (9223372036854775808 - b) = 85070591730234615865843651857942052864 - 9223372036854775808 * a - 9223372036854775808 * b + a * b := by grind
  have e2 : (9223372036854775808 + a) * (9223372036854775808 + b) = 85070591730234615865843651857942052864 + 9223372036854775808 * a + 9223372036854775808 * b + a * b := by grind
  have e3 : (9223372036854775808 - a) * (9223372036854775808 + b) = 85070591730234615865843651857942052864 - 9223372036854775808 * a + 9223372036854775808 * b - a * b := by grind
  have e4 : (9223372036854775808 + a) * (9223372036854775808 - b) = 85070591730234615865843651857942052864 + 9223372036854775808 * a - 9223372036854775808 * b - a * b := by grind
  have n1 := Int.mul_nonneg (show 0 ≤ 9223372036854775808 - a by omega) (show 0 ≤ 9223372036854775808 - b by omega)
  have n2 := Int.mul_nonneg (show 0 ≤ 9223372036854775808 + a by omega) (show 0 ≤ 9223372036854775808 + b by omega)
  have n3 := Int.mul_nonneg (show 0 ≤ 9223372036854775808 - a by omega) (show 0 ≤ 9223372036854775808 + b by omega)
  have n4 := Int.mul_nonneg (show 0 ≤ 9223372036854775808 + a by omega) (show 0 ≤ 9223372036854775808 - b by omega)
  omega
set_option maxHeartbeats 400000 in
theorem eis_mul (a b c d : Int) (ha : -9223372036854775808 ≤ a) (ha' : a ≤ 9223372036854775807) (hb : -9223372036854775808 ≤ b) (hb' : b ≤ 9223372036854775807) (hc : -9223372036854775808 ≤ c) (hc' : c ≤ 9223372036854775807) (hd : -9223372036854775808 ≤ d) (hd' : d ≤ 9223372036854775807) (w : World) :
    Calls Try.prog 32 #[.agg #[.int .i64 a, .int .i64 b], .agg #[.int .i64 c, .int .i64 d]] w fun e w' => e = .returned (.tuple #[.agg #[.int .i64 (eA (a * c - b * d) (a * d + b * c + b * d) (a * c - b * d)), .int .i64 (eA (a * c - b * d) (a * d + b * c + b * d) (a * d + b * c + b * d))], .bool (eB (a * c - b * d) (a * d + b * c + b * d))]) ∧ Below w.heap.size w w' := by
  obtain ⟨q1, q2⟩ := p126 a c ha ha' hc hc'
  obtain ⟨q3, q4⟩ := p126 a d ha ha' hd hd'
  obtain ⟨q5, q6⟩ := p126 b c hb hb' hc hc'
  obtain ⟨q7, q8⟩ := p126 b d hb hb' hd hd'
  have k1 : -340282366920938463444927863358058659840 ≤ a * c - b * d := by omega
  have k2 : a * c - b * d ≤ 340282366920938463444927863358058659840 := by omega
  have k3 : -340282366920938463444927863358058659840 ≤ a * d + b * c + b * d := by omega
  have k4 : a * d + b * c + b * d ≤ 340282366920938463444927863358058659840 := by omega
  clear q1 q2 q3 q4 q5 q6 q7 q8
  go_enter Try.func32, Try.ntmps32
  go_wp2_with fail
  refine calls_start (fun W => W.cell? ⟨w.heap.size, 0, none⟩ = some (.int .i64 a) ∧ W.cell? ⟨w.heap.size, 1, none⟩ = some (.int .i64 b)
      ∧ W.cell? ⟨w.heap.size + 1, 0, none⟩ = some (.int .i64 c) ∧ W.cell? ⟨w.heap.size + 1, 1, none⟩ = some (.int .i64 d)
      ∧ W.cell? ⟨w.heap.size + 1 + 1, 0, none⟩ = some (.int .i64 0) ∧ W.cell? ⟨w.heap.size + 1 + 1, 1, none⟩ = some (.int .i64 0) ∧ W.frozen? ⟨w.heap.size + 1 + 1, 0, none⟩ = false ∧ W.frozen? ⟨w.heap.size + 1 + 1, 1, none⟩ = false
      ∧ Below w.heap.size w W) ⟨by simp [go_sem], by simp [go_sem], by simp [go_sem], by simp [go_sem], by simp [go_sem], by simp [go_sem], by simp [go_sem], by simp [go_sem], by repeat (first | exact Below.refl _ _ | refine bl_alloc ?_ _ | refine bl_drewN ?_ _ | refine bl_drew ?_ | refine bl_set ?_ (by first | (simp; done) | (simp; omega) | omega) _ | refine below_step ?_ (by assumption) | refine below_step ?_ (Bw.below _))⟩ ?_
  rintro W ⟨h1, h2, h3, h4, h5, h6, h7, h8, hW⟩ g
  refine (eis_times b d hb hb' hd hd' _).mono ?_
  rintro e w1 ⟨rfl, hbw1⟩
  obtain ⟨g1, rfl⟩ := g.next hbw1
  go_wp2_with fail
  refine wp_start (fun V => V.cell? ⟨w.heap.size, 0, none⟩ = some (.int .i64 a) ∧ V.cell? ⟨w.heap.size, 1, none⟩ = some (.int .i64 b)
      ∧ V.cell? ⟨w.heap.size + 1, 0, none⟩ = some (.int .i64 c) ∧ V.cell? ⟨w.heap.size + 1, 1, none⟩ = some (.int .i64 d)
      ∧ V.cell? ⟨w.heap.size + 1 + 1, 0, none⟩ = some (.int .i64 0) ∧ V.cell? ⟨w.heap.size + 1 + 1, 1, none⟩ = some (.int .i64 0) ∧ V.frozen? ⟨w.heap.size + 1 + 1, 0, none⟩ = false ∧ V.frozen? ⟨w.heap.size + 1 + 1, 1, none⟩ = false
      ∧ V.cell? ⟨g1.out.heap.size, 0, none⟩ = some (.int .i64 (hi64 (b * d))) ∧ V.cell? ⟨g1.out.heap.size, 1, none⟩ = some (.int .u64 (lo64 (b * d))) ∧ Below w.heap.size w V)
    ⟨g1.al h1 _, g1.al h2 _, g1.al h3 _, g1.al h4 _, g1.al h5 _, g1.al h6 _, g1.alF h5 h7 _, g1.alF h6 h8 _, by simp [go_sem], by simp [go_sem], by repeat (first | exact Below.refl _ _ | refine bl_alloc ?_ _ | refine bl_drewN ?_ _ | refine bl_drew ?_ | refine bl_set ?_ (by first | (simp; done) | (simp; omega) | omega) _ | refine below_step ?_ (by assumption) | refine below_step ?_ (Bw.below _))⟩ ?_
  clear h1 h2 h3 h4 h5 h6 h7 h8
  rintro V ⟨h1, h2, h3, h4, h5, h6, h7, h8, h9, h10, hV⟩ g
  have c1 := Bw.hold h1
  have c2 := Bw.hold h2
  have c3 := Bw.hold h3
  have c4 := Bw.hold h4
  have c5 := Bw.hold h5
  have c6 := Bw.hold h6
  have c7 := Bw.free h5 h7
  have c8 := Bw.free h6 h8
  have c9 := Bw.hold h9
  have c10 := Bw.hold h10
  clear h1 h2 h3 h4 h5 h6 h7 h8 h9 h10
  refine wp_region_bw (by kernel_rfl) (by kernel_rfl) g ?_
  repeat (go_big_quiet_step ((first
    | (go_at_call 54; with_reducible exact bw_call (eis_times a c ha ha' hc hc' _))
    | (go_at_call 55; with_reducible exact bw_call (eis_minus (a * c) (b * d) _))
    | (go_at_call 56; with_reducible exact bw_call (eis_short (a * c - b * d) k1 k2 _)))))
  refine wpQuiet_nil ?_
  rintro _ ⟨g2, rfl⟩
  go_wp2_with fail
  refine wp_region_bw (by kernel_rfl) (by kernel_rfl) g2 ?_
  repeat (go_big_quiet_step ((first
    | (go_at_call 54; first | with_reducible exact bw_call (eis_times a d ha ha' hd hd' _) | with_reducible exact bw_call (eis_times b c hb hb' hc hc' _))
    | (go_at_call 53; first | with_reducible exact bw_call (eis_plus (a * d) (b * c) _) | with_reducible exact bw_call (eis_plus (a * d + b * c) (b * d) _))
    | (go_at_call 56; with_reducible exact bw_call (eis_short (a * d + b * c + b * d) k3 k4 _)))))
  refine wpQuiet_nil ?_
  rintro _ ⟨g3, rfl⟩
  go_wp2_with fail
  refine (eis_both' (a * c - b * d) (a * d + b * c + b * d) _).mono ?_
  rintro e w3 ⟨rfl, hbw3⟩
  obtain ⟨g4, rfl⟩ := g3.next hbw3
  go_wp2_with fail
  refine bodyPost_ret (v := .tuple #[.agg #[.int .i64 (eA (a * c - b * d) (a * d + b * c + b * d) (a * c - b * d)), .int .i64 (eA (a * c - b * d) (a * d + b * c + b * d) (a * d + b * c + b * d))], .bool (eB (a * c - b * d) (a * d + b * c + b * d))]) (by simp [results, Try.results32, go_sem, c5, c6]) rfl ⟨rfl, ?_⟩
  repeat (first | exact Below.refl _ _ | refine bl_alloc ?_ _ | refine bl_drewN ?_ _ | refine bl_drew ?_ | refine bl_set ?_ (by first | (simp; done) | (simp; omega) | omega) _ | refine below_step ?_ (by assumption) | refine below_step ?_ (Bw.below _))
end Go.Proofs.Ytmipkloleklnkaa

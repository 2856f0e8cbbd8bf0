
/- The walks of eisen's 128-bit numbers: times, plus, minus, short. -/
import Derived.Test.YtmipkloleklnkaaNum2
namespace Go.Proofs.Ytmipkloleklnkaa
open Go.RowKit

/-- The two words of a number of 128 bits. -/
def hi64 (x : Int) : Int := wrap64 (x / 18446744073709551616)
def lo64 (x : Int) : Int := x % 18446744073709551616
theorem bits_mul64_int (x y : Int) (hx : 0 ≤ x) (hx' : x < 18446744073709551616) (hy : 0 ≤ y) (hy' : y < 18446744073709551616) (w : World) :
    Calls Try.prog 74 #[.int .u64 x, .int .u64 y] w fun e w' => e = .returned (.tuple #[.int .u64 (x * y / 18446744073709551616), .int .u64 (x * y % 18446744073709551616)]) ∧ w = w' := by
  obtain ⟨X, rfl⟩ := Int.eq_ofNat_of_zero_le hx
  obtain ⟨Y, rfl⟩ := Int.eq_ofNat_of_zero_le hy
  have h := bits_mul64 X Y (by omega) (by omega) w
  have e : ((X : Int) * (Y : Int)) = ((X * Y : Nat) : Int) := (Int.natCast_mul X Y).symm
  rw [e]
  exact h

theorem times_part (a b s t : Int) :
    (a + s * 18446744073709551616) * (b + t * 18446744073709551616) = a * b + 18446744073709551616 * (t * a + s * b + 18446744073709551616 * (s * t)) := by
  grind
theorem times_core (p q H L s t a b : Int) (e : q = p + 18446744073709551616 * (t * a + s * b + 18446744073709551616 * (s * t))) (hH : H = q / 18446744073709551616) (hL : L = q % 18446744073709551616) :
    H = p / 18446744073709551616 + (t * a + s * b + 18446744073709551616 * (s * t)) ∧ L = p % 18446744073709551616 := by
  generalize t * a + s * b + 18446744073709551616 * (s * t) = k at *
  omega
set_option maxHeartbeats 400000 in
theorem eis_times (a b : Int) (ha : -9223372036854775808 ≤ a) (ha' : a ≤ 9223372036854775807) (hb : -9223372036854775808 ≤ b) (hb' : b ≤ 9223372036854775807) (w : World) :
    Calls Try.prog 54 #[.int .i64 a, .int .i64 b] w fun e w' => e = .returned (.agg #[.int .i64 (hi64 (a * b)), .int .u64 (lo64 (a * b))]) ∧ Below w.heap.size w w' := by
  by_cases h1 : a < 0
  · by_cases h2 : b < 0
    · have ea : IntKind.u64.wrap a = a + 18446744073709551616 := by rw [IntKind.wrap_u64]; omega
      have eb : IntKind.u64.wrap b = b + 18446744073709551616 := by rw [IntKind.wrap_u64]; omega
      have hc := bits_mul64_int (a + 18446744073709551616) (b + 18446744073709551616) (by omega) (by omega) (by omega) (by omega)
      obtain ⟨H, hH⟩ : ∃ H, H = (a + 18446744073709551616) * (b + 18446744073709551616) / 18446744073709551616 := ⟨_, rfl⟩
      obtain ⟨L, hL⟩ : ∃ L, L = (a + 18446744073709551616) * (b + 18446744073709551616) % 18446744073709551616 := ⟨_, rfl⟩
      rw [← hH, ← hL] at hc
      have hp := times_part a b 1 1
      obtain ⟨q1, q2⟩ := times_core (a * b) ((a + 18446744073709551616) * (b + 18446744073709551616)) H L 1 1 a b (by simpa using hp) hH hL
      have F : Hid (H = a * b / 18446744073709551616 + (1 * a + 1 * b + 18446744073709551616 * (1 * 1)) ∧ L = a * b % 18446744073709551616) := Lib.hid ⟨q1, q2⟩
      have C := Lib.hid hc
      clear hc hH hL q1 q2
      go_enter Try.func54, Try.ntmps54
      go_wp2_with (refine (C.out _).mono ?_; rintro e w' ⟨rfl, rfl⟩)
      obtain ⟨f1, f2⟩ := F.out
      refine bodyPost_ret (v := .agg #[.int .i64 (hi64 (a * b)), .int .u64 (lo64 (a * b))]) ?_ rfl ⟨rfl, (Below.refl _ _).alloc (Nat.le_refl _) _⟩
      simp [results, Try.results54, go_sem]
      clear F C
      unfold hi64 lo64 wrap64; omega
    · have ea : IntKind.u64.wrap a = a + 18446744073709551616 := by rw [IntKind.wrap_u64]; omega
      have eb : IntKind.u64.wrap b = b := by rw [IntKind.wrap_u64]; omega
      have hc := bits_mul64_int (a + 18446744073709551616) (b) (by omega) (by omega) (by omega) (by omega)
      obtain ⟨H, hH⟩ : ∃ H, H = (a + 18446744073709551616) * (b) / 18446744073709551616 := ⟨_, rfl⟩
      obtain ⟨L, hL⟩ : ∃ L, L = (a + 18446744073709551616) * (b) % 18446744073709551616 := ⟨_, rfl⟩
      rw [← hH, ← hL] at hc
      have hp := times_part a b 1 0
      obtain ⟨q1, q2⟩ := times_core (a * b) ((a + 18446744073709551616) * (b)) H L 1 0 a b (by simpa using hp) hH hL
      have F : Hid (H = a * b / 18446744073709551616 + (0 * a + 1 * b + 18446744073709551616 * (1 * 0)) ∧ L = a * b % 18446744073709551616) := Lib.hid ⟨q1, q2⟩
      have C := Lib.hid hc
      clear hc hH hL q1 q2
      go_enter Try.func54, Try.ntmps54
      go_wp2_with (refine (C.out _).mono ?_; rintro e w' ⟨rfl, rfl⟩)
      obtain ⟨f1, f2⟩ := F.out
      refine bodyPost_ret (v := .agg #[.int .i64 (hi64 (a * b)), .int .u64 (lo64 (a * b))]) ?_ rfl ⟨rfl, (Below.refl _ _).alloc (Nat.le_refl _) _⟩
      simp [results, Try.results54, go_sem]
      clear F C
      unfold hi64 lo64 wrap64; omega
  · by_cases h2 : b < 0
    · have ea : IntKind.u64.wrap a = a := by rw [IntKind.wrap_u64]; omega
      have eb : IntKind.u64.wrap b = b + 18446744073709551616 := by rw [IntKind.wrap_u64]; omega
      have hc := bits_mul64_int (a) (b + 18446744073709551616) (by omega) (by omega) (by omega) (by omega)
      obtain ⟨H, hH⟩ : ∃ H, H = (a) * (b + 18446744073709551616) / 18446744073709551616 := ⟨_, rfl⟩
      obtain ⟨L, hL⟩ : ∃ L, L = (a) * (b + 18446744073709551616) % 18446744073709551616 := ⟨_, rfl⟩
      rw [← hH, ← hL] at hc
      have hp := times_part a b 0 1
      obtain ⟨q1, q2⟩ := times_core (a * b) ((a) * (b + 18446744073709551616)) H L 0 1 a b (by simpa using hp) hH hL
      have F : Hid (H = a * b / 18446744073709551616 + (1 * a + 0 * b + 18446744073709551616 * (0 * 1)) ∧ L = a * b % 18446744073709551616) := Lib.hid ⟨q1, q2⟩
      have C := Lib.hid hc
      clear hc hH hL q1 q2
      go_enter Try.func54, Try.ntmps54
      go_wp2_with (refine (C.out _).mono ?_; rintro e w' ⟨rfl, rfl⟩)
      obtain ⟨f1, f2⟩ := F.out
      refine bodyPost_ret (v := .agg #[.int .i64 (hi64 (a * b)), .int .u64 (lo64 (a * b))]) ?_ rfl ⟨rfl, (Below.refl _ _).alloc (Nat.le_refl _) _⟩
      simp [results, Try.results54, go_sem]
      clear F C
      unfold hi64 lo64 wrap64; omega
    · have ea : IntKind.u64.wrap a = a := by rw [IntKind.wrap_u64]; omega
      have eb : IntKind.u64.wrap b = b := by rw [IntKind.wrap_u64]; omega
      have hc := bits_mul64_int a b (by omega) (by omega) (by omega) (by omega)
      obtain ⟨H, hH⟩ : ∃ H, H = a * b / 18446744073709551616 := ⟨_, rfl⟩
      obtain ⟨L, hL⟩ : ∃ L, L = a * b % 18446744073709551616 := ⟨_, rfl⟩
      rw [← hH, ← hL] at hc
      have F : Hid (H = a * b / 18446744073709551616 ∧ L = a * b % 18446744073709551616) := Lib.hid ⟨hH, hL⟩
      have C := Lib.hid hc
      clear hc hH hL
      go_enter Try.func54, Try.ntmps54
      go_wp2_with (refine (C.out _).mono ?_; rintro e w' ⟨rfl, rfl⟩)
      obtain ⟨f1, f2⟩ := F.out
      refine bodyPost_ret (v := .agg #[.int .i64 (hi64 (a * b)), .int .u64 (lo64 (a * b))]) ?_ rfl ⟨rfl, (Below.refl _ _).alloc (Nat.le_refl _) _⟩
      simp [results, Try.results54, go_sem]
      clear F C
      unfold hi64 lo64 wrap64; omega

theorem plus_core (x y : Int) : wrap64 (wrap64 (hi64 x + hi64 y) + (lo64 x + lo64 y) / 18446744073709551616) = hi64 (x + y) ∧ (lo64 x + lo64 y) % 18446744073709551616 = lo64 (x + y) := by
  unfold hi64 lo64 wrap64; omega
set_option maxHeartbeats 400000 in
theorem eis_plus (x y : Int) (w : World) :
    Calls Try.prog 53 #[.agg #[.int .i64 (hi64 x), .int .u64 (lo64 x)], .agg #[.int .i64 (hi64 y), .int .u64 (lo64 y)]] w fun e w' => e = .returned (.agg #[.int .i64 (hi64 (x + y)), .int .u64 (lo64 (x + y))]) ∧ Below w.heap.size w w' := by
  have lx : 0 ≤ lo64 x ∧ lo64 x < 18446744073709551616 := by unfold lo64; omega
  have ly : 0 ≤ lo64 y ∧ lo64 y < 18446744073709551616 := by unfold lo64; omega
  obtain ⟨lx1, lx2⟩ := lx
  obtain ⟨ly1, ly2⟩ := ly
  go_enter Try.func53, Try.ntmps53
  go_wp2_with (simp only [bits_add64 (lo64 x) (lo64 y) (by unfold lo64; omega) (by unfold lo64; omega)])
  refine bodyPost_ret (v := .agg #[.int .i64 (hi64 (x + y)), .int .u64 (lo64 (x + y))]) ?_ rfl ⟨rfl, bl_alloc (bl_alloc (bl_alloc (Below.refl _ _) _) _) _⟩
  simp [results, Try.results53, go_sem]
  exact plus_core x y
theorem minus_core (x y : Int) (X Y : Nat) (hx : (X : Int) = lo64 x) (hy : (Y : Int) = lo64 y) : wrap64 (wrap64 (hi64 x - hi64 y) - ((if X < Y then 1 else 0 : Nat) : Int)) = hi64 (x - y) ∧ (((X + 18446744073709551616 - Y) % 18446744073709551616 : Nat) : Int) = lo64 (x - y) := by
  unfold hi64 lo64 wrap64 at *
  split <;> omega
set_option maxHeartbeats 400000 in
theorem eis_minus (x y : Int) (w : World) :
    Calls Try.prog 55 #[.agg #[.int .i64 (hi64 x), .int .u64 (lo64 x)], .agg #[.int .i64 (hi64 y), .int .u64 (lo64 y)]] w fun e w' => e = .returned (.agg #[.int .i64 (hi64 (x - y)), .int .u64 (lo64 (x - y))]) ∧ Below w.heap.size w w' := by
  have lx : 0 ≤ lo64 x ∧ lo64 x < 18446744073709551616 := by unfold lo64; omega
  have ly : 0 ≤ lo64 y ∧ lo64 y < 18446744073709551616 := by unfold lo64; omega
  obtain ⟨X, hX⟩ := Int.eq_ofNat_of_zero_le lx.1
  obtain ⟨Y, hY⟩ := Int.eq_ofNat_of_zero_le ly.1
  have key := minus_core x y X Y hX.symm hY.symm
  obtain ⟨D, hD⟩ : ∃ D, D = (X + 18446744073709551616 - Y) % 18446744073709551616 := ⟨_, rfl⟩
  obtain ⟨B, hB⟩ : ∃ B, B = (if X < Y then 1 else 0 : Nat) := ⟨_, rfl⟩
  have hB1 : B ≤ 1 := by rw [hB]; split <;> omega
  have h := bits_sub64 X Y
  rw [← hD, ← hB] at h key
  rw [hX, hY]
  have H := Lib.hid h
  have K := Lib.hid key
  clear h key hD hB lx ly hX hY
  go_enter Try.func55, Try.ntmps55
  go_wp2_with (simp only [H.out])
  obtain ⟨k1, k2⟩ := K.out
  refine bodyPost_ret (v := .agg #[.int .i64 (hi64 (x - y)), .int .u64 (lo64 (x - y))]) ?_ rfl ⟨rfl, bl_alloc (bl_alloc (bl_alloc (Below.refl _ _) _) _) _⟩
  simp [results, Try.results55, go_sem]
  exact ⟨k1, k2⟩

theorem short_yes (x : Int) (h : i64B x = true) : wrap64 (lo64 x) = x ∧ (0 ≤ x → hi64 x = 0) ∧ (x < 0 → hi64 x = -1) := by
  obtain ⟨h1, h2⟩ := i64B_true h
  unfold lo64 hi64 wrap64
  omega
theorem short_no (x : Int) (h : -340282366920938463444927863358058659840 ≤ x) (h' : x ≤ 340282366920938463444927863358058659840) (hn : i64B x = false) :
    (0 ≤ wrap64 (lo64 x) → hi64 x ≠ 0) ∧ (wrap64 (lo64 x) < 0 → hi64 x ≠ -1) := by
  have h3 := i64B_false hn
  unfold lo64 hi64 wrap64
  omega
set_option maxHeartbeats 400000 in
theorem eis_short (x : Int) (h : -340282366920938463444927863358058659840 ≤ x) (h' : x ≤ 340282366920938463444927863358058659840) (w : World) :
    Calls Try.prog 56 #[.agg #[.int .i64 (hi64 x), .int .u64 (lo64 x)]] w fun e w' => e = .returned (.tuple #[.int .i64 (okv x), .bool (i64B x)]) ∧ Below w.heap.size w w' := by
  by_cases hx : i64B x = true
  · obtain ⟨e1, e2, e3⟩ := short_yes x hx
    obtain ⟨x1, x2⟩ := i64B_true hx
    have E := Lib.hid hx
    clear hx h h'
    by_cases hn : x < 0
    · have e4 := e3 hn
      clear e2 e3
      go_enter Try.func56, Try.ntmps56
      go_wp2
      go_ret2
      exact ⟨ret_ib (e1.trans (okv_yes E.out).symm) E.out.symm, bl_alloc (Below.refl _ _) _⟩
    · have e4 := e2 (by omega)
      clear e2 e3
      go_enter Try.func56, Try.ntmps56
      go_wp2
      go_ret2
      exact ⟨ret_ib (okv_yes E.out).symm E.out.symm, bl_alloc (Below.refl _ _) _⟩
  · have hh : i64B x = false := by simpa using hx
    obtain ⟨e1, e2⟩ := short_no x h h' hh
    have E := Lib.hid hh
    clear hx hh h h'
    by_cases hn : wrap64 (lo64 x) < 0
    · have e4 : (hi64 x == -1) = false := by simpa using e2 hn
      clear e1 e2
      go_enter Try.func56, Try.ntmps56
      go_wp2
      go_ret2
      exact ⟨ret_ib (okv_no E.out).symm E.out.symm, bl_alloc (Below.refl _ _) _⟩
    · have e4 : (hi64 x == 0) = false := by simpa using e1 (by omega)
      clear e1 e2
      go_enter Try.func56, Try.ntmps56
      go_wp2
      go_ret2
      exact ⟨ret_ib (okv_no E.out).symm E.out.symm, bl_alloc (Below.refl _ _) _⟩

/-! eisen's both -/
set_option maxHeartbeats 400000 in
theorem eis_both (a b : Int) (p q : Bool) (w : World) :
    Calls Try.prog 57 #[.int .i64 a, .bool p, .int .i64 b, .bool q] w fun e w' => e = .returned (.tuple #[.agg #[.int .i64 (if (p && q) = true then a else 0), .int .i64 (if (p && q) = true then b else 0)], .bool (p && q)]) ∧ Below w.heap.size w w' := by
  cases p <;> cases q
  all_goals
    go_enter Try.func57, Try.ntmps57
    go_wp2
  · refine bodyPost_ret (v := .tuple #[.agg #[.int .i64 0, .int .i64 0], .bool false]) (by simp [results, Try.results57, go_sem]) rfl ⟨rfl, bl_alloc (Below.refl _ _) _⟩
  · refine bodyPost_ret (v := .tuple #[.agg #[.int .i64 0, .int .i64 0], .bool false]) (by simp [results, Try.results57, go_sem]) rfl ⟨rfl, bl_alloc (Below.refl _ _) _⟩
  · refine bodyPost_ret (v := .tuple #[.agg #[.int .i64 0, .int .i64 0], .bool false]) (by simp [results, Try.results57, go_sem]) rfl ⟨rfl, bl_alloc (Below.refl _ _) _⟩
  · refine bodyPost_ret (v := .tuple #[.agg #[.int .i64 a, .int .i64 b], .bool true]) (by simp [results, Try.results57, go_sem]) rfl ⟨rfl, bl_alloc (Below.refl _ _) _⟩
end Go.Proofs.Ytmipkloleklnkaa

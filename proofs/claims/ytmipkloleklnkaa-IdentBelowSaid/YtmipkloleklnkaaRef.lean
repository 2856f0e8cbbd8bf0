
/- The walks of the reference's 128-bit numbers: W, Plus, Turned, Times, Small, Two. -/
import Derived.Test.YtmipkloleklnkaaEis
namespace Go.Proofs.Ytmipkloleklnkaa
open Go.RowKit

def hiU (x : Int) : Int := x / 18446744073709551616 % 18446744073709551616
theorem bits_add64c (x y c : Int) (hx : 0 ≤ x) (hy : 0 ≤ y) (hc : 0 ≤ c) (hc' : c ≤ 1) (w : World) :
    (callFunc 73 #[.int .u64 x, .int .u64 y, .int .u64 c]).run Try.prog w =
      .ok (.value (.tuple #[.int .u64 ((x + y + c) % 18446744073709551616), .int .u64 ((x + y + c) / 18446744073709551616)])) w := by
  rw [run_callFunc_extern Try.func73 (by kernel_rfl) (by kernel_rfl) (by kernel_rfl) (e := add64Entry) (by kernel_rfl), run_add64 x y c hx hy hc hc']
  simp [Result.andThen]

set_option maxHeartbeats 400000 in
theorem ref_w (n : Int) (hn : -9223372036854775808 ≤ n) (hn' : n ≤ 9223372036854775807) (w : World) :
    Calls Try.prog 85 #[.int .i64 n] w fun e w' => e = .returned (.agg #[.int .u64 (hiU n), .int .u64 (lo64 n)]) ∧ Below w.heap.size w w' := by
  by_cases h : n < 0
  · have e1 : IntKind.u64.wrap n = n + 18446744073709551616 := by rw [IntKind.wrap_u64]; omega
    go_enter Try.func85, Try.ntmps85
    go_wp2
    refine bodyPost_ret (v := .agg #[.int .u64 (hiU n), .int .u64 (lo64 n)]) ?_ rfl ⟨rfl, by repeat (first | exact Below.refl _ _ | refine bl_alloc ?_ _ | refine bl_drewN ?_ _ | refine bl_drew ?_ | refine bl_set ?_ (by first | (simp; done) | (simp; omega) | omega) _ | refine below_step ?_ (by assumption) | refine below_step ?_ (Bw.below _))⟩
    simp [results, Try.results85, go_sem]
    rw [IntKind.wrap_u64]; unfold hiU lo64; omega
  · have e1 : IntKind.u64.wrap n = n := by rw [IntKind.wrap_u64]; omega
    go_enter Try.func85, Try.ntmps85
    go_wp2
    refine bodyPost_ret (v := .agg #[.int .u64 (hiU n), .int .u64 (lo64 n)]) ?_ rfl ⟨rfl, by repeat (first | exact Below.refl _ _ | refine bl_alloc ?_ _ | refine bl_drewN ?_ _ | refine bl_drew ?_ | refine bl_set ?_ (by first | (simp; done) | (simp; omega) | omega) _ | refine below_step ?_ (by assumption) | refine below_step ?_ (Bw.below _))⟩
    simp [results, Try.results85, go_sem]
    unfold hiU lo64; omega

theorem rplus_core (x y : Int) : (hiU x + hiU y + (lo64 x + lo64 y) / 18446744073709551616) % 18446744073709551616 = hiU (x + y) ∧ (lo64 x + lo64 y) % 18446744073709551616 = lo64 (x + y) := by
  unfold hiU lo64; omega
set_option maxHeartbeats 400000 in
theorem ref_plus (x y : Int) (w : World) :
    Calls Try.prog 62 #[.agg #[.int .u64 (hiU x), .int .u64 (lo64 x)], .agg #[.int .u64 (hiU y), .int .u64 (lo64 y)]] w fun e w' => e = .returned (.agg #[.int .u64 (hiU (x + y)), .int .u64 (lo64 (x + y))]) ∧ Below w.heap.size w w' := by
  have A1 := bits_add64 (lo64 x) (lo64 y) (by unfold lo64; omega) (by unfold lo64; omega)
  have A2 := bits_add64c (hiU x) (hiU y) ((lo64 x + lo64 y) / 18446744073709551616) (by unfold hiU; omega) (by unfold hiU; omega) (by unfold lo64; omega) (by unfold lo64; omega)
  have H1 := Lib.hid A1
  have H2 := Lib.hid A2
  clear A1 A2
  go_enter Try.func62, Try.ntmps62
  go_wp2_with (first | simp only [H1.out] | simp only [H2.out])
  refine bodyPost_ret (v := .agg #[.int .u64 (hiU (x + y)), .int .u64 (lo64 (x + y))]) ?_ rfl ⟨rfl, by repeat (first | exact Below.refl _ _ | refine bl_alloc ?_ _ | refine bl_drewN ?_ _ | refine bl_drew ?_ | refine bl_set ?_ (by first | (simp; done) | (simp; omega) | omega) _ | refine below_step ?_ (by assumption) | refine below_step ?_ (Bw.below _))⟩
  simp [results, Try.results62, go_sem]
  exact rplus_core x y

theorem u64_not (a : Int) (h0 : 0 ≤ a) (h : a < 18446744073709551616) : bits .xor .u64 IntKind.u64.max a = 18446744073709551615 - a := by
  obtain ⟨n, rfl⟩ := Int.eq_ofNat_of_zero_le h0
  show IntKind.u64.wrap ((BitVec.ofInt 64 IntKind.u64.max ^^^ BitVec.ofInt 64 (n : Int)).toNat : Int) = _
  have h1 : BitVec.ofInt 64 IntKind.u64.max = BitVec.allOnes 64 := by decide
  rw [h1, BitVec.allOnes_xor, BitVec.toNat_not, ofInt_u64 n (by omega), IntKind.wrap_u64]
  omega
theorem rturned_core (x : Int) : 18446744073709551615 - hiU x = hiU (-x - 1) ∧ 18446744073709551615 - lo64 x = lo64 (-x - 1) := by
  unfold hiU lo64; omega
theorem one_core : hiU 1 = 0 ∧ lo64 1 = 1 := by unfold hiU lo64; omega
set_option maxHeartbeats 400000 in
theorem ref_turned (x : Int) (w : World) :
    Calls Try.prog 63 #[.agg #[.int .u64 (hiU x), .int .u64 (lo64 x)]] w fun e w' => e = .returned (.agg #[.int .u64 (hiU (-x)), .int .u64 (lo64 (-x))]) ∧ Below w.heap.size w w' := by
  have n1 := u64_not (hiU x) (by unfold hiU; omega) (by unfold hiU; omega)
  have n2 := u64_not (lo64 x) (by unfold lo64; omega) (by unfold lo64; omega)
  rw [(rturned_core x).1] at n1
  rw [(rturned_core x).2] at n2
  have hp := ref_plus (-x - 1) 1
  rw [one_core.1, one_core.2, show -x - 1 + 1 = -x by omega] at hp
  have H := Lib.hid hp
  clear hp
  go_enter Try.func63, Try.ntmps63
  go_wp2_with fail
  refine (H.out _).mono ?_
  rintro e w1 ⟨rfl, hbw⟩
  obtain ⟨hcell, hfree⟩ := bcell hbw
  go_wp2_with fail
  refine bodyPost_ret (v := .agg #[.int .u64 (hiU (-x)), .int .u64 (lo64 (-x))]) (by simp [results, Try.results63, go_sem, hcell]) rfl ⟨rfl, by repeat (first | exact Below.refl _ _ | refine bl_alloc ?_ _ | refine bl_drewN ?_ _ | refine bl_drew ?_ | refine bl_set ?_ (by first | (simp; done) | (simp; omega) | omega) _ | refine below_step ?_ (by assumption) | refine below_step ?_ (Bw.below _))⟩

theorem rtimes_core (p q : Int) (h : q = p) (h0 : 0 ≤ p) (h1 : p ≤ 85070591730234615865843651857942052864) : q / 18446744073709551616 = hiU p ∧ q % 18446744073709551616 = lo64 p := by
  subst h; unfold hiU lo64; omega
set_option maxHeartbeats 400000 in
theorem ref_times (a b : Int) (ha : -9223372036854775808 ≤ a) (ha' : a ≤ 9223372036854775807) (hb : -9223372036854775808 ≤ b) (hb' : b ≤ 9223372036854775807) (w : World) :
    Calls Try.prog 60 #[.int .i64 a, .int .i64 b] w fun e w' => e = .returned (.agg #[.int .u64 (hiU (a * b)), .int .u64 (lo64 (a * b))]) ∧ Below w.heap.size w w' := by
  obtain ⟨pl, ph⟩ := p126 a b ha ha' hb hb'
  by_cases h1 : a < 0
  · by_cases h2 : b < 0
    · have da : decide (a < 0) = true := by simp; omega
      have ea : IntKind.u64.wrap a = a + 18446744073709551616 := by rw [IntKind.wrap_u64]; omega
      have db : decide (b < 0) = true := by simp; omega
      have eb : IntKind.u64.wrap b = b + 18446744073709551616 := by rw [IntKind.wrap_u64]; omega
      have na : IntKind.u64.wrap (-(a + 18446744073709551616)) = -a := by rw [IntKind.wrap_u64]; omega
      have nb : IntKind.u64.wrap (-(b + 18446744073709551616)) = -b := by rw [IntKind.wrap_u64]; omega
      have hc := bits_mul64_int (-a) (-b) (by omega) (by omega) (by omega) (by omega)
      have hq : (-a) * (-b) = a * b := by grind
      have h0 : 0 ≤ a * b := by rw [← hq]; exact Int.mul_nonneg (by omega) (by omega)
      obtain ⟨q1, q2⟩ := rtimes_core (a * b) ((-a) * (-b)) hq h0 (by omega)
      rw [q1, q2] at hc
      have C := Lib.hid hc
      clear hc hq q1 q2 pl ph h0
      go_enter Try.func60, Try.ntmps60
      go_wp2_with fail
      refine (C.out _).mono ?_
      rintro e w1 ⟨rfl, rfl⟩
      go_wp2_with fail
      refine bodyPost_ret (v := .agg #[.int .u64 (hiU (a * b)), .int .u64 (lo64 (a * b))]) (by simp [results, Try.results60, go_sem]) rfl ⟨rfl, by repeat (first | exact Below.refl _ _ | refine bl_alloc ?_ _ | refine bl_drewN ?_ _ | refine bl_drew ?_ | refine bl_set ?_ (by first | (simp; done) | (simp; omega) | omega) _ | refine below_step ?_ (by assumption) | refine below_step ?_ (Bw.below _))⟩
    · have da : decide (a < 0) = true := by simp; omega
      have ea : IntKind.u64.wrap a = a + 18446744073709551616 := by rw [IntKind.wrap_u64]; omega
      have db : decide (b < 0) = false := by simp; omega
      have eb : IntKind.u64.wrap b = b := by rw [IntKind.wrap_u64]; omega
      have na : IntKind.u64.wrap (-(a + 18446744073709551616)) = -a := by rw [IntKind.wrap_u64]; omega
      have hc := bits_mul64_int (-a) (b) (by omega) (by omega) (by omega) (by omega)
      have hq : (-a) * (b) = -(a * b) := by grind
      have h0 : 0 ≤ -(a * b) := by rw [← hq]; exact Int.mul_nonneg (by omega) (by omega)
      obtain ⟨q1, q2⟩ := rtimes_core (-(a * b)) ((-a) * (b)) hq h0 (by omega)
      rw [q1, q2] at hc
      have C := Lib.hid hc
      clear hc hq q1 q2 pl ph h0
      have ht := ref_turned (-(a * b))
      rw [Int.neg_neg] at ht
      have T := Lib.hid ht
      clear ht
      go_enter Try.func60, Try.ntmps60
      go_wp2_with fail
      refine (C.out _).mono ?_
      rintro e w1 ⟨rfl, rfl⟩
      go_wp2_with fail
      refine (T.out _).mono ?_
      rintro e w1 ⟨rfl, hbw⟩
      obtain ⟨hcell, hfree⟩ := bcell hbw
      go_wp2_with fail
      refine bodyPost_ret (v := .agg #[.int .u64 (hiU (a * b)), .int .u64 (lo64 (a * b))]) (by simp [results, Try.results60, go_sem, hcell]) rfl ⟨rfl, by repeat (first | exact Below.refl _ _ | refine bl_alloc ?_ _ | refine bl_drewN ?_ _ | refine bl_drew ?_ | refine bl_set ?_ (by first | (simp; done) | (simp; omega) | omega) _ | refine below_step ?_ (by assumption) | refine below_step ?_ (Bw.below _))⟩
  · by_cases h2 : b < 0
    · have da : decide (a < 0) = false := by simp; omega
      have ea : IntKind.u64.wrap a = a := by rw [IntKind.wrap_u64]; omega
      have db : decide (b < 0) = true := by simp; omega
      have eb : IntKind.u64.wrap b = b + 18446744073709551616 := by rw [IntKind.wrap_u64]; omega
      have nb : IntKind.u64.wrap (-(b + 18446744073709551616)) = -b := by rw [IntKind.wrap_u64]; omega
      have hc := bits_mul64_int (a) (-b) (by omega) (by omega) (by omega) (by omega)
      have hq : (a) * (-b) = -(a * b) := by grind
      have h0 : 0 ≤ -(a * b) := by rw [← hq]; exact Int.mul_nonneg (by omega) (by omega)
      obtain ⟨q1, q2⟩ := rtimes_core (-(a * b)) ((a) * (-b)) hq h0 (by omega)
      rw [q1, q2] at hc
      have C := Lib.hid hc
      clear hc hq q1 q2 pl ph h0
      have ht := ref_turned (-(a * b))
      rw [Int.neg_neg] at ht
      have T := Lib.hid ht
      clear ht
      go_enter Try.func60, Try.ntmps60
      go_wp2_with fail
      refine (C.out _).mono ?_
      rintro e w1 ⟨rfl, rfl⟩
      go_wp2_with fail
      refine (T.out _).mono ?_
      rintro e w1 ⟨rfl, hbw⟩
      obtain ⟨hcell, hfree⟩ := bcell hbw
      go_wp2_with fail
      refine bodyPost_ret (v := .agg #[.int .u64 (hiU (a * b)), .int .u64 (lo64 (a * b))]) (by simp [results, Try.results60, go_sem, hcell]) rfl ⟨rfl, by repeat (first | exact Below.refl _ _ | refine bl_alloc ?_ _ | refine bl_drewN ?_ _ | refine bl_drew ?_ | refine bl_set ?_ (by first | (simp; done) | (simp; omega) | omega) _ | refine below_step ?_ (by assumption) | refine below_step ?_ (Bw.below _))⟩
    · have da : decide (a < 0) = false := by simp; omega
      have ea : IntKind.u64.wrap a = a := by rw [IntKind.wrap_u64]; omega
      have db : decide (b < 0) = false := by simp; omega
      have eb : IntKind.u64.wrap b = b := by rw [IntKind.wrap_u64]; omega
      have hc := bits_mul64_int (a) (b) (by omega) (by omega) (by omega) (by omega)
      have hq : (a) * (b) = a * b := by grind
      have h0 : 0 ≤ a * b := by rw [← hq]; exact Int.mul_nonneg (by omega) (by omega)
      obtain ⟨q1, q2⟩ := rtimes_core (a * b) ((a) * (b)) hq h0 (by omega)
      rw [q1, q2] at hc
      have C := Lib.hid hc
      clear hc hq q1 q2 pl ph h0
      go_enter Try.func60, Try.ntmps60
      go_wp2_with fail
      refine (C.out _).mono ?_
      rintro e w1 ⟨rfl, rfl⟩
      go_wp2_with fail
      refine bodyPost_ret (v := .agg #[.int .u64 (hiU (a * b)), .int .u64 (lo64 (a * b))]) (by simp [results, Try.results60, go_sem]) rfl ⟨rfl, by repeat (first | exact Below.refl _ _ | refine bl_alloc ?_ _ | refine bl_drewN ?_ _ | refine bl_drew ?_ | refine bl_set ?_ (by first | (simp; done) | (simp; omega) | omega) _ | refine below_step ?_ (by assumption) | refine below_step ?_ (Bw.below _))⟩
end Go.Proofs.Ytmipkloleklnkaa

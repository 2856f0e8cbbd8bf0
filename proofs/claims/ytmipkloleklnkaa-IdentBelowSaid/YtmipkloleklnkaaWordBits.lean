
/- Plain laws of words: what their bits are, put together and taken apart. -/
import Derived.Test.YtmipkloleklnkaaWordLaw
import Derived.Test.YtmipkloleklnkaaTame
namespace Go.Proofs.Ytmipkloleklnkaa
open Go.RowKit
theorem u64_mask (d : Int) (k : Nat) (hk : k < 63) : bits .and .u64 d ((2 ^ k - 1 : Nat) : Int) = d % ((2 ^ k : Nat) : Int) := by
  have hp : 2 ^ k ≤ 2 ^ 62 := Nat.pow_le_pow_right (by omega) (by omega)
  have hp0 : 0 < 2 ^ k := Nat.two_pow_pos k
  show IntKind.u64.wrap ((BitVec.ofInt 64 d &&& BitVec.ofInt 64 ((2 ^ k - 1 : Nat) : Int)).toNat : Int) = _
  rw [BitVec.toNat_and, BitVec.toNat_ofInt, BitVec.ofInt_natCast, BitVec.toNat_ofNat, Nat.mod_eq_of_lt (a := 2 ^ k - 1) (by omega), Nat.and_two_pow_sub_one_eq_mod, IntKind.wrap_u64]
  have h1 : ((d % ((2 ^ 64 : Nat) : Int)).toNat : Int) = d % ((2 ^ 64 : Nat) : Int) := Int.toNat_of_nonneg (Int.emod_nonneg _ (by decide))
  have h2 : (((d % ((2 ^ 64 : Nat) : Int)).toNat % 2 ^ k : Nat) : Int) = d % ((2 ^ k : Nat) : Int) := by
    rw [Int.natCast_emod, h1]
    exact Int.emod_emod_of_dvd d (Int.natCast_dvd_natCast.2 (Nat.pow_dvd_pow 2 (by omega)))
  rw [h2]
  have h3 := Int.emod_nonneg d (b := ((2 ^ k : Nat) : Int)) (by omega)
  have h4 := Int.emod_lt_of_pos d (b := ((2 ^ k : Nat) : Int)) (by omega)
  omega
theorem pow8 (k : Nat) : (8 : Int) ^ k = 2 ^ (3 * k) := by rw [show (8 : Int) = 2 ^ 3 by decide, ← Int.pow_mul]
theorem pow_cut (k : Nat) (hk : k < 12) : (2 : Int) ^ (36 - 3 * k) = 2 ^ (36 - 3 * (k + 1)) * 8 := by
  rw [show 36 - 3 * k = 36 - 3 * (k + 1) + 3 by omega, Int.pow_add]
  rfl
theorem pow_pos (s : Nat) : (0 : Int) < 2 ^ s := Int.pow_pos (by omega)
theorem pow_le (s t : Nat) (h : s ≤ t) : (2 : Int) ^ s ≤ 2 ^ t := by
  have := Nat.pow_le_pow_right (n := 2) (by omega) h
  exact_mod_cast this
/-- A word of which k digits are put. -/
def wX (A B : Int) (R : Nat) (F : Nat → Int) (k : Nat) : Int := wHd A B R + ds F k * 2 ^ (36 - 3 * k)
theorem wX_zero (A B : Int) (R : Nat) (F : Nat → Int) : wX A B R F 0 = wHd A B R := by
  show wHd A B R + 0 * _ = _
  omega
theorem wX_end (A B : Int) (R : Nat) (F : Nat → Int) : wX A B R F 12 = wHd A B R + ds F 12 := by
  show wHd A B R + ds F 12 * 1 = _
  omega
theorem wX_step (A B : Int) (R : Nat) (F : Nat → Int) (k : Nat) (hk : k < 12) : wX A B R F (k + 1) = wX A B R F k + F (k + 1) * 2 ^ (36 - 3 * (k + 1)) := by
  unfold wX
  rw [pow_cut k hk]
  show _ + (8 * ds F k + F (k + 1)) * _ = _
  generalize (2 : Int) ^ (36 - 3 * (k + 1)) = p
  grind
theorem wX_mod (A B : Int) (R : Nat) (F : Nat → Int) (k : Nat) (hk : k ≤ 12) : wX A B R F k % 2 ^ (36 - 3 * k) = 0 := by
  unfold wX
  rw [Int.add_mul_emod_self_right]
  have e : wHd A B R = 2 ^ (36 - 3 * k) * (2 ^ (3 * k) * (16777216 + (R : Int) * 1048576 + (A + 512) * 1024 + (B + 512))) := by
    rw [← Int.mul_assoc, ← Int.pow_add, show 36 - 3 * k + 3 * k = 36 by omega, show (2 : Int) ^ 36 = 68719476736 by decide]
    unfold wHd
    omega
  rw [e]
  exact Int.mul_emod_right _ _
theorem wX_low (F : Nat → Int) (hF : ∀ j, 0 ≤ F j ∧ F j ≤ 7) (k : Nat) (hk : k ≤ 12) : 0 ≤ ds F k * 2 ^ (36 - 3 * k) ∧ ds F k * 2 ^ (36 - 3 * k) < 68719476736 := by
  obtain ⟨h1, h2⟩ := ds_bd F hF k
  have hp := pow_pos (36 - 3 * k)
  have e : (8 : Int) ^ k * 2 ^ (36 - 3 * k) = 68719476736 := by
    rw [pow8, ← Int.pow_add, show 3 * k + (36 - 3 * k) = 36 by omega]
    decide
  refine ⟨Int.mul_nonneg h1 (by omega), ?_⟩
  rw [← e]
  exact Int.mul_lt_mul_of_pos_right h2 hp
theorem hd_bd (A B : Int) (R : Nat) (hR : R ≤ 12) (hA : -512 ≤ A ∧ A < 512) (hB : -512 ≤ B ∧ B < 512) : 0 ≤ wHd A B R ∧ wHd A B R ≤ 18446744073709551615 - 68719476736 := by
  unfold wHd
  omega
theorem wX_bd (A B : Int) (R : Nat) (F : Nat → Int) (hR : R ≤ 12) (hA : -512 ≤ A ∧ A < 512) (hB : -512 ≤ B ∧ B < 512) (hF : ∀ j, 0 ≤ F j ∧ F j ≤ 7) (k : Nat) (hk : k ≤ 12) : 0 ≤ wX A B R F k ∧ wX A B R F k < 18446744073709551616 := by
  have h1 := hd_bd A B R hR hA hB
  have h2 := wX_low F hF k hk
  unfold wX
  omega
/-- A digit is put where nothing stands yet. -/
theorem put_facts (X d : Int) (k : Nat) (hk : 1 ≤ k) (hk' : k ≤ 12) (h : 0 ≤ X) (h' : X < 18446744073709551616) (hd : 0 ≤ d) (hd' : d ≤ 7) (hX : X % 2 ^ (39 - 3 * k) = 0) :
    IntKind.u64.wrap (d * 2 ^ (33 - 3 * ((k : Int) - 1)).toNat) = d * 2 ^ (36 - 3 * k) ∧ bits .or .u64 X (d * 2 ^ (36 - 3 * k)) = X + d * 2 ^ (36 - 3 * k) := by
  have hp := pow_pos (36 - 3 * k)
  have hp2 := pow_le (36 - 3 * k) 33 (by omega)
  have e8 : (2 : Int) ^ (39 - 3 * k) = 2 ^ (36 - 3 * k) * 8 := by
    rw [show 39 - 3 * k = 36 - 3 * k + 3 by omega, Int.pow_add]
    rfl
  have h1 := Int.mul_nonneg hd (Int.le_of_lt hp)
  have h2 := Int.mul_le_mul_of_nonneg_right hd' (Int.le_of_lt hp)
  have e33 : (2 : Int) ^ 33 = 8589934592 := by decide
  constructor
  · rw [show (33 - 3 * ((k : Int) - 1)).toNat = 36 - 3 * k by omega, IntKind.wrap_u64]
    omega
  · exact or_join X _ (39 - 3 * k) (by omega) h h' h1 (by omega) hX
theorem nib_swap (H t d s : Nat) (ht : t < 2 ^ s) (hd : d < 8) (hx : H * 2 ^ (s + 3) + 7 * 2 ^ s + t < 2 ^ 64) :
    (H * 2 ^ (s + 3) + 7 * 2 ^ s + t) &&& (18446744073709551615 - 7 * 2 ^ s) = H * 2 ^ (s + 3) + t ∧ (H * 2 ^ (s + 3) + t) ||| (d * 2 ^ s) = H * 2 ^ (s + 3) + d * 2 ^ s + t := by
  have e3 : (2 : Nat) ^ (s + 3) = 2 ^ s * 8 := by rw [Nat.pow_add]
  have hp : 0 < 2 ^ s := Nat.two_pow_pos s
  constructor
  · apply Nat.eq_of_testBit_eq
    intro j
    have ex : H * 2 ^ (s + 3) + 7 * 2 ^ s + t = 2 ^ s * (2 ^ 3 * H + 7) + t := by rw [e3]; generalize 2 ^ s = p; grind
    have ey : H * 2 ^ (s + 3) + t = 2 ^ s * (2 ^ 3 * H + 0) + t := by rw [e3]; generalize 2 ^ s = p; grind
    have e7 : 7 * 2 ^ s < 2 ^ 64 := by omega
    have ec : 18446744073709551615 - 7 * 2 ^ s = 2 ^ 64 - (7 * 2 ^ s + 1) := by omega
    have e7' : 7 * 2 ^ s = 2 ^ s * 7 + 0 := by omega
    rw [Nat.testBit_and, ec, Nat.testBit_two_pow_sub_succ e7]
    by_cases hj : j < 64
    · rw [ex, ey, e7', Nat.testBit_two_pow_mul_add _ ht, Nat.testBit_two_pow_mul_add _ ht, Nat.testBit_two_pow_mul_add _ hp]
      by_cases hs : j < s
      · simp [hs, hj]
      · rw [if_neg hs, if_neg hs, if_neg hs, Nat.testBit_two_pow_mul_add _ (by omega), Nat.testBit_two_pow_mul_add _ (by omega)]
        by_cases h3 : j - s < 3
        · rw [if_pos h3, if_pos h3]
          rcases (show j - s = 0 ∨ j - s = 1 ∨ j - s = 2 by omega) with e | e | e <;> rw [e] <;> simp [hj] <;> decide
        · rw [if_neg h3, if_neg h3]
          have : Nat.testBit 7 (j - s) = false := Nat.testBit_lt_two_pow (Nat.lt_of_lt_of_le (show 7 < 2 ^ 3 by decide) (Nat.pow_le_pow_right (by omega) (by omega)))
          rw [this]
          simp [hj]
    · have h1 : (H * 2 ^ (s + 3) + 7 * 2 ^ s + t).testBit j = false := Nat.testBit_lt_two_pow (Nat.lt_of_lt_of_le hx (Nat.pow_le_pow_right (by omega) (by omega)))
      have h2 : (H * 2 ^ (s + 3) + t).testBit j = false := Nat.testBit_lt_two_pow (Nat.lt_of_lt_of_le (show _ < 2 ^ 64 by omega) (Nat.pow_le_pow_right (by omega) (by omega)))
      rw [h1, h2]
      rfl
  · have m1 : H * 2 ^ (s + 3) % 2 ^ (s + 3) = 0 := Nat.mul_mod_left _ _
    have m2 : d * 2 ^ s % 2 ^ s = 0 := Nat.mul_mod_left _ _
    have hdm : d * 2 ^ s ≤ 7 * 2 ^ s := Nat.mul_le_mul_right _ (by omega)
    rw [← nat_join (s + 3) _ t m1 (by omega), Nat.or_assoc, Nat.or_comm t, nat_join s _ t m2 ht, nat_join (s + 3) _ _ m1 (by omega)]
    omega
def dt (F : Nat → Int) (i : Nat) : Nat → Int
  | 0 => 0
  | n + 1 => 8 * dt F i n + F (i + n + 1)
theorem ds_split (F : Nat → Int) (i n : Nat) : ds F (i + n) = ds F i * 8 ^ n + dt F i n := by
  induction n with
  | zero =>
    show ds F i = ds F i * 1 + 0
    omega
  | succ n ih =>
    show 8 * ds F (i + n) + F (i + n + 1) = ds F i * 8 ^ (n + 1) + (8 * dt F i n + F (i + n + 1))
    rw [ih, Int.pow_succ]
    generalize (8 : Int) ^ n = M
    grind
theorem dt_bd (F : Nat → Int) (h : ∀ j, 0 ≤ F j ∧ F j ≤ 7) (i n : Nat) : 0 ≤ dt F i n ∧ dt F i n < 8 ^ n := by
  induction n with
  | zero => exact ⟨Int.le_refl 0, by show (0 : Int) < 1; decide⟩
  | succ n ih =>
    have h1 := h (i + n + 1)
    have e : dt F i (n + 1) = 8 * dt F i n + F (i + n + 1) := rfl
    rw [e, Int.pow_succ]
    generalize (8 : Int) ^ n = M at *
    omega
theorem dt_congr (F G : Nat → Int) (i n : Nat) (h : ∀ j, i < j → F j = G j) : dt F i n = dt G i n := by
  induction n with
  | zero => rfl
  | succ n ih =>
    show 8 * dt F i n + F (i + n + 1) = 8 * dt G i n + G (i + n + 1)
    rw [ih, h (i + n + 1) (by omega)]
/-- The digits from a size on, sevens ahead of them. -/
def gW (a b : Int) (R i j : Nat) : Int := if j ≤ i then 7 else dl a b R j
theorem gW_bd (a b : Int) (R i j : Nat) : 0 ≤ gW a b R i j ∧ gW a b R i j ≤ 7 := by
  unfold gW
  split
  · omega
  · exact dl_bd a b R j
def gV (a b : Int) (R i : Nat) : Int := ds (gW a b R i) 12
theorem gV_bd (a b : Int) (R i : Nat) : 0 ≤ gV a b R i ∧ gV a b R i < 68719476736 := ds_12 _ (gW_bd a b R i)
theorem gV_start (a b : Int) (R : Nat) : gV a b R R = 68719476735 := by
  have e : gV a b R R = ds (fun _ => 7) 12 := by
    refine ds_congr _ _ 12 fun j _ _ => ?_
    show (if j ≤ R then (7 : Int) else dl a b R j) = 7
    by_cases h : j ≤ R
    · rw [if_pos h]
    · rw [if_neg h, dl_out a b R j (by omega)]
  rw [e]
  decide
theorem gV_end (a b : Int) (R : Nat) : gV a b R 0 = ds (dl a b R) 12 := ds_congr _ _ 12 fun j h _ => if_neg (by omega)
/-- One digit for a seven. -/
theorem wr_step (a b : Int) (R m : Nat) (hm : m < 12) : ∃ v2 : Int,
    IntKind.u64.wrap (7 * 2 ^ (36 - 3 * ((m : Int) + 1)).toNat) = 7 * 2 ^ (33 - 3 * m) ∧ bits .andNot .u64 (gV a b R (m + 1)) (7 * 2 ^ (33 - 3 * m)) = v2 ∧
    IntKind.u64.wrap (dl a b R (m + 1) * 2 ^ (36 - 3 * ((m : Int) + 1)).toNat) = dl a b R (m + 1) * 2 ^ (33 - 3 * m) ∧ bits .or .u64 v2 (dl a b R (m + 1) * 2 ^ (33 - 3 * m)) = gV a b R m := by
  have hp := pow_pos (33 - 3 * m)
  have hp2 := pow_le (33 - 3 * m) 33 (by omega)
  have e33 : (2 : Int) ^ 33 = 8589934592 := by decide
  have hd := dl_bd a b R (m + 1)
  have h1 := Int.mul_nonneg hd.1 (Int.le_of_lt hp)
  have h2 := Int.mul_le_mul_of_nonneg_right hd.2 (Int.le_of_lt hp)
  have q1 := ds_split (gW a b R (m + 1)) (m + 1) (11 - m)
  have q2 := ds_split (gW a b R m) (m + 1) (11 - m)
  rw [show m + 1 + (11 - m) = 12 by omega] at q1 q2
  have p1 : ds (gW a b R (m + 1)) (m + 1) = 8 * ds (gW a b R m) m + 7 := by
    show 8 * ds (gW a b R (m + 1)) m + gW a b R (m + 1) (m + 1) = _
    rw [show gW a b R (m + 1) (m + 1) = 7 from if_pos (Nat.le_refl _), ds_congr (gW a b R (m + 1)) (gW a b R m) m fun j _ hj => by show (if j ≤ m + 1 then (7 : Int) else _) = if j ≤ m then (7 : Int) else _; rw [if_pos (by omega), if_pos hj]]
  have p2 : ds (gW a b R m) (m + 1) = 8 * ds (gW a b R m) m + dl a b R (m + 1) := by
    show 8 * ds (gW a b R m) m + gW a b R m (m + 1) = _
    rw [show gW a b R m (m + 1) = dl a b R (m + 1) from if_neg (by omega)]
  have p3 : dt (gW a b R (m + 1)) (m + 1) (11 - m) = dt (gW a b R m) (m + 1) (11 - m) := dt_congr _ _ _ _ fun j hj => by show (if j ≤ m + 1 then (7 : Int) else _) = if j ≤ m then (7 : Int) else _; rw [if_neg (by omega), if_neg (by omega)]
  rw [p1, p3] at q1
  rw [p2] at q2
  obtain ⟨t1, t2⟩ := dt_bd (gW a b R m) (gW_bd a b R m) (m + 1) (11 - m)
  obtain ⟨s1, _⟩ := ds_bd (gW a b R m) (gW_bd a b R m) m
  have g1 := gV_bd a b R (m + 1)
  have eM : (8 : Int) ^ (11 - m) = 2 ^ (33 - 3 * m) := by rw [pow8, show 3 * (11 - m) = 33 - 3 * m by omega]
  rw [eM] at q1 q2 t2
  change gV a b R (m + 1) = _ at q1
  change gV a b R m = _ at q2
  generalize dt (gW a b R m) (m + 1) (11 - m) = t at *
  generalize ds (gW a b R m) m = H at *
  generalize dl a b R (m + 1) = d at *
  clear p1 p2 p3 eM
  have et : (36 - 3 * ((m : Int) + 1)).toNat = 33 - 3 * m := by omega
  generalize 33 - 3 * m = s at *
  obtain ⟨H', rfl⟩ := Int.eq_ofNat_of_zero_le s1
  obtain ⟨t', rfl⟩ := Int.eq_ofNat_of_zero_le t1
  obtain ⟨d', rfl⟩ := Int.eq_ofNat_of_zero_le hd.1
  have ht' : t' < 2 ^ s := by exact_mod_cast t2
  have e3 : (2 : Nat) ^ (s + 3) = 2 ^ s * 8 := by rw [Nat.pow_add]
  have c1 : gV a b R (m + 1) = ((H' * 2 ^ (s + 3) + 7 * 2 ^ s + t' : Nat) : Int) := by
    rw [q1, e3]
    push_cast
    generalize (2 : Int) ^ s = p
    grind
  have c2 : gV a b R m = ((H' * 2 ^ (s + 3) + d' * 2 ^ s + t' : Nat) : Int) := by
    rw [q2, e3]
    push_cast
    generalize (2 : Int) ^ s = p
    grind
  have hx : H' * 2 ^ (s + 3) + 7 * 2 ^ s + t' < 2 ^ 64 := by
    have : ((H' * 2 ^ (s + 3) + 7 * 2 ^ s + t' : Nat) : Int) < 68719476736 := by rw [← c1]; exact g1.2
    omega
  obtain ⟨n1, n2⟩ := nib_swap H' t' d' s ht' (by omega) hx
  have hN : ((2 ^ s : Nat) : Int) = 2 ^ s := by push_cast; rfl
  have b7 : ((7 * 2 ^ s : Nat) : Int) = 7 * 2 ^ s := by push_cast; rfl
  have bd : ((d' * 2 ^ s : Nat) : Int) = (d' : Int) * 2 ^ s := by push_cast; rfl
  refine ⟨((H' * 2 ^ (s + 3) + t' : Nat) : Int), ?_, ?_, ?_, ?_⟩
  · rw [et, IntKind.wrap_u64]
    omega
  · rw [c1, ← b7, u64_andNot_nat _ _ (by omega) (by omega), n1]
  · rw [et, IntKind.wrap_u64]
    omega
  · rw [c2, ← bd, u64_or_nat _ _ (by omega) (by omega), n2]
/-- A word's head, put together. -/
theorem head_put (A B : Int) (R : Nat) (hR : R ≤ 12) (hA : -512 ≤ A ∧ A < 512) (hB : -512 ≤ B ∧ B < 512) : ∃ x1 x2 : Int,
    bits .or .u64 1152921504606846976 ((R : Int) * 72057594037927936) = x1 ∧ bits .or .u64 x1 ((A + 512) * 70368744177664) = x2 ∧ bits .or .u64 x2 ((B + 512) * 68719476736) = wHd A B R := by
  obtain ⟨r, hr⟩ : ∃ r : Int, (R : Int) = r := ⟨_, rfl⟩
  have h1 : 0 ≤ r ∧ r ≤ 12 := by omega
  unfold wHd
  rw [hr]
  clear hR hr
  have a1 := or_join 1152921504606846976 (r * 72057594037927936) 60 (by omega) (by omega) (by omega) (by omega) (by rw [show (2 : Int) ^ 60 = 1152921504606846976 by decide]; omega) (by decide)
  have a2 := or_join (1152921504606846976 + r * 72057594037927936) ((A + 512) * 70368744177664) 56 (by omega) (by omega) (by omega) (by omega) (by rw [show (2 : Int) ^ 56 = 72057594037927936 by decide]; omega) (by rw [show (2 : Int) ^ 56 = 72057594037927936 by decide]; omega)
  have a3 := or_join (1152921504606846976 + r * 72057594037927936 + (A + 512) * 70368744177664) ((B + 512) * 68719476736) 46 (by omega) (by omega) (by omega) (by omega) (by rw [show (2 : Int) ^ 46 = 70368744177664 by decide]; omega) (by rw [show (2 : Int) ^ 46 = 70368744177664 by decide]; omega)
  exact ⟨_, _, a1, a2, a3⟩
/-- .. and behind its digits. -/
theorem tail_put (A B V : Int) (R : Nat) (hR : R ≤ 12) (hA : -512 ≤ A ∧ A < 512) (hB : -512 ≤ B ∧ B < 512) (hV : 0 ≤ V ∧ V < 68719476736) : ∃ x1 x2 x3 : Int,
    bits .or .u64 V 1152921504606846976 = x1 ∧ bits .or .u64 x1 ((R : Int) * 72057594037927936) = x2 ∧ bits .or .u64 x2 ((A + 512) * 70368744177664) = x3 ∧ bits .or .u64 x3 ((B + 512) * 68719476736) = wHd A B R + V := by
  obtain ⟨v, rfl⟩ := Int.eq_ofNat_of_zero_le hV.1
  obtain ⟨a, ha⟩ := Int.eq_ofNat_of_zero_le (show 0 ≤ A + 512 by omega)
  obtain ⟨b, hb⟩ := Int.eq_ofNat_of_zero_le (show 0 ≤ B + 512 by omega)
  have k1 : v ||| 1152921504606846976 = 1152921504606846976 + v := by rw [Nat.or_comm, nat_join 60 _ _ (by decide) (by omega)]
  have k2 : (1152921504606846976 + v) ||| R * 72057594037927936 = 1152921504606846976 + R * 72057594037927936 + v := by
    rw [← nat_join 60 1152921504606846976 v (by decide) (by omega), Nat.or_assoc, Nat.or_comm v, nat_join 56 (R * 72057594037927936) v (by omega) (by omega), nat_join 60 _ _ (by decide) (by omega)]
    omega
  have k3 : (1152921504606846976 + R * 72057594037927936 + v) ||| a * 70368744177664 = 1152921504606846976 + R * 72057594037927936 + a * 70368744177664 + v := by
    rw [← nat_join 56 (1152921504606846976 + R * 72057594037927936) v (by omega) (by omega), Nat.or_assoc, Nat.or_comm v, nat_join 46 (a * 70368744177664) v (by omega) (by omega), nat_join 56 _ _ (by omega) (by omega)]
    omega
  have k4 : (1152921504606846976 + R * 72057594037927936 + a * 70368744177664 + v) ||| b * 68719476736 = 1152921504606846976 + R * 72057594037927936 + a * 70368744177664 + b * 68719476736 + v := by
    rw [← nat_join 46 (1152921504606846976 + R * 72057594037927936 + a * 70368744177664) v (by omega) (by omega), Nat.or_assoc, Nat.or_comm v, nat_join 36 (b * 68719476736) v (by omega) (by omega), nat_join 46 _ _ (by omega) (by omega)]
    omega
  refine ⟨((1152921504606846976 + v : Nat) : Int), ((1152921504606846976 + R * 72057594037927936 + v : Nat) : Int), ((1152921504606846976 + R * 72057594037927936 + a * 70368744177664 + v : Nat) : Int), ?_, ?_, ?_, ?_⟩
  · have := u64_or_nat v 1152921504606846976 (by omega) (by omega)
    rw [k1] at this
    exact this
  · have := u64_or_nat (1152921504606846976 + v) (R * 72057594037927936) (by omega) (by omega)
    rw [k2, show ((R * 72057594037927936 : Nat) : Int) = (R : Int) * 72057594037927936 by omega] at this
    exact this
  · have := u64_or_nat (1152921504606846976 + R * 72057594037927936 + v) (a * 70368744177664) (by omega) (by omega)
    rw [k3, show ((a * 70368744177664 : Nat) : Int) = (a : Int) * 70368744177664 by omega] at this
    rw [ha]
    exact this
  · have := u64_or_nat (1152921504606846976 + R * 72057594037927936 + a * 70368744177664 + v) (b * 68719476736) (by omega) (by omega)
    rw [k4, show ((b * 68719476736 : Nat) : Int) = (b : Int) * 68719476736 by omega] at this
    unfold wHd
    rw [ha, hb, this]
    omega
end Go.Proofs.Ytmipkloleklnkaa


/- Plain laws of words of one size, and of a seven put where one stands. -/
import Derived.Test.YtmipkloleklnkaaIdMore
namespace Go.Proofs.Ytmipkloleklnkaa
open Go.RowKit
theorem or_seven (p : Int) (s : Nat) (hs : s ≤ 33) (h : 0 ≤ p) (h' : p < 18446744073709551616) (hd : p / 2 ^ s % 8 = 7) : bits .or .u64 p (7 * 2 ^ s) = p := by
  obtain ⟨P, rfl⟩ := Int.eq_ofNat_of_zero_le h
  have hp : 0 < 2 ^ s := Nat.two_pow_pos s
  have hp2 : 2 ^ s ≤ 2 ^ 33 := Nat.pow_le_pow_right (by omega) hs
  have e3 : (2 : Nat) ^ (s + 3) = 2 ^ s * 8 := by rw [Nat.pow_add]
  have hdN : P / 2 ^ s % 8 = 7 := by
    have : ((P / 2 ^ s % 8 : Nat) : Int) = 7 := by push_cast; exact hd
    omega
  have eP : P = (P / 2 ^ s / 8) * 2 ^ (s + 3) + (7 * 2 ^ s + P % 2 ^ s) := by
    have h1 := Nat.div_add_mod P (2 ^ s)
    have h2 : P / 2 ^ s = 8 * (P / 2 ^ s / 8) + 7 := by omega
    rw [e3]
    generalize P / 2 ^ s / 8 = H at *
    generalize P % 2 ^ s = t at *
    generalize 2 ^ s = M at *
    rw [h2] at h1
    rw [← h1]
    grind
  have ht := Nat.mod_lt P hp
  have hb7 : ((7 * 2 ^ s : Nat) : Int) = 7 * 2 ^ s := by push_cast; rfl
  have m1 : (P / 2 ^ s / 8) * 2 ^ (s + 3) % 2 ^ (s + 3) = 0 := Nat.mul_mod_left _ _
  have m2 : 7 * 2 ^ s % 2 ^ s = 0 := Nat.mul_mod_left _ _
  have key : P ||| 7 * 2 ^ s = P := by
    generalize P % 2 ^ s = t at *
    generalize P / 2 ^ s / 8 = H at *
    rw [eP, ← nat_join (s + 3) _ _ m1 (by omega), ← nat_join s _ t m2 ht, Nat.or_assoc, Nat.or_assoc, Nat.or_comm t, ← Nat.or_assoc (7 * 2 ^ s), Nat.or_self]
  rw [← hb7, u64_or_nat _ _ (by omega) (by omega), key]
/-- Which of its size a cell is. -/
def pr (a b : Int) (n : Nat) : Int := (((zz a b n).1 + 512) * 1024 + ((zz a b n).2 + 512)) * 8 ^ n + ds (dl a b n) n
theorem ds_sevens (F : Nat → Int) (n : Nat) : ∀ i : Nat, (∀ j, n < j → F j = 7) → ds F (n + i) = (ds F n + 1) * 8 ^ i - 1 := by
  intro i
  induction i with
  | zero => intro _; show ds F n = (ds F n + 1) * 1 - 1; omega
  | succ i ih =>
    intro h
    show 8 * ds F (n + i) + F (n + i + 1) = _
    rw [ih h, h (n + i + 1) (by omega), Int.pow_succ]
    generalize (8 : Int) ^ i = M
    grind
theorem wv_pr (a b : Int) (n : Nat) (hn : n ≤ 12) : wv a b n = 1152921504606846976 + (n : Int) * 72057594037927936 + (pr a b n + 1) * 8 ^ (12 - n) - 1 := by
  have e := ds_sevens (dl a b n) n (12 - n) fun j hj => dl_out a b n j hj
  rw [show n + (12 - n) = 12 by omega] at e
  unfold wv wHd pr
  rw [e]
  have e12 : (8 : Int) ^ n * 8 ^ (12 - n) = 68719476736 := by
    rw [← Int.pow_add, show n + (12 - n) = 12 by omega]
    decide
  generalize (8 : Int) ^ n = M at *
  generalize (8 : Int) ^ (12 - n) = N at *
  generalize ds (dl a b n) n = D
  generalize (zz a b n).1 = A
  generalize (zz a b n).2 = B
  have h1 : ((A + 512) * 1024 + (B + 512)) * M * N = ((A + 512) * 1024 + (B + 512)) * 68719476736 := by rw [Int.mul_assoc, e12]
  have h2 : (((A + 512) * 1024 + (B + 512)) * M + D + 1) * N = ((A + 512) * 1024 + (B + 512)) * M * N + (D + 1) * N := by grind
  rw [h2, h1]
  omega
theorem pr_step (a b : Int) (n : Nat) : pr a b (n + 1) = 8 * pr (upA a b) (upB a b) n + dgz a b := by
  unfold pr
  have e : ds (dl a b (n + 1)) (n + 1) = 8 * ds (dl (upA a b) (upB a b) n) n + dgz a b := by
    show 8 * ds (dl a b (n + 1)) n + dl a b (n + 1) (n + 1) = _
    have e1 : dl a b (n + 1) (n + 1) = dgz a b := by
      unfold dl
      rw [if_pos (Nat.le_refl _), Nat.sub_self]
      rfl
    rw [e1, ds_congr (dl a b (n + 1)) (dl (upA a b) (upB a b) n) n fun j _ hj => by
      unfold dl
      rw [if_pos (by omega), if_pos hj]
      have hz := zz_add a b 1 (n - j)
      rw [show 1 + (n - j) = n + 1 - j by omega] at hz
      have h1 : zz a b 1 = (upA a b, upB a b) := rfl
      rw [h1] at hz
      rw [← hz]]
  have hz := zz_add a b 1 n
  rw [show 1 + n = n + 1 by omega] at hz
  have h1 : zz a b 1 = (upA a b, upB a b) := rfl
  rw [h1] at hz
  rw [e, ← hz, Int.pow_succ]
  generalize (8 : Int) ^ n = M
  grind
/-- Words of one size, and their parents'. -/
theorem rises (a b c d : Int) (n : Nat) (hn : n < 12) (h : wv a b (n + 1) ≤ wv c d (n + 1)) :
    wv (upA a b) (upB a b) n ≤ wv (upA c d) (upB c d) n ∧ (wv (upA a b) (upB a b) n = wv (upA c d) (upB c d) n → (dgz a b < dgz c d ↔ wv a b (n + 1) < wv c d (n + 1))) ∧
    (wv (upA a b) (upB a b) n ≠ wv (upA c d) (upB c d) n → wv a b (n + 1) < wv c d (n + 1)) := by
  rw [wv_pr _ _ (n + 1) (by omega), wv_pr _ _ (n + 1) (by omega), pr_step, pr_step] at *
  rw [wv_pr _ _ n (by omega), wv_pr _ _ n (by omega)]
  have d1 := dgz_bd a b
  have d2 := dgz_bd c d
  have e8 : (8 : Int) ^ (12 - n) = 8 ^ (12 - (n + 1)) * 8 := by rw [show 12 - n = 12 - (n + 1) + 1 by omega, Int.pow_succ]
  have hN : (0 : Int) < 8 ^ (12 - (n + 1)) := Int.pow_pos (by omega)
  rw [e8]
  generalize (8 : Int) ^ (12 - (n + 1)) = N at *
  generalize pr (upA a b) (upB a b) n = x at *
  generalize pr (upA c d) (upB c d) n = y at *
  generalize dgz a b = da at *
  generalize dgz c d = dc at *
  have mono : ∀ s t : Int, (s + 1) * N ≤ (t + 1) * N → s ≤ t := fun s t hst => by
    have := Int.le_of_mul_le_mul_right hst hN
    omega
  have mono2 : ∀ s t : Int, s ≤ t → (s + 1) * N ≤ (t + 1) * N := fun s t hst => Int.mul_le_mul_of_nonneg_right (by omega) (Int.le_of_lt hN)
  have h1 : 8 * x + da ≤ 8 * y + dc := mono _ _ (by omega)
  have hxy : x ≤ y := by omega
  have e1 : ∀ s : Int, (s + 1) * (N * 8) = (8 * s + 7 + 1) * N := fun s => by grind
  rw [e1, e1]
  refine ⟨?_, ?_, ?_⟩
  · have := mono2 (8 * x + 7) (8 * y + 7) (by omega)
    omega
  · intro heq
    have hx : x = y := by
      have h3 := mono (8 * y + 7) (8 * x + 7) (by omega)
      omega
    subst hx
    constructor
    · intro hde
      have h4 : ¬ (8 * x + dc + 1) * N ≤ (8 * x + da + 1) * N := fun h5 => by have := mono _ _ h5; omega
      omega
    · intro hlt
      have h4 : ¬ 8 * x + dc ≤ 8 * x + da := fun h5 => by have := mono2 _ _ h5; omega
      omega
  · intro hne
    have hx : x ≠ y := fun e => hne (by rw [e])
    have h4 : ¬ (8 * y + dc + 1) * N ≤ (8 * x + da + 1) * N := fun h5 => by have := mono _ _ h5; omega
    omega
end Go.Proofs.Ytmipkloleklnkaa


/- Plain laws of the words below a cell: where they stand among the words of their size. -/
import Derived.Test.YtmipkloleklnkaaIdSizesLaw
namespace Go.Proofs.Ytmipkloleklnkaa
open Go.RowKit
/-- How far the last of a cell's descendants stands behind the first. -/
def wd : Nat → Int
  | 0 => 0
  | m + 1 => 8 * wd m + 6
theorem wd_bd (m : Nat) : 0 ≤ wd m ∧ wd m < 8 ^ m := by
  induction m with
  | zero => exact ⟨Int.le_refl 0, by show (0 : Int) < 1; decide⟩
  | succ m ih =>
    show 0 ≤ 8 * wd m + 6 ∧ 8 * wd m + 6 < 8 ^ (m + 1)
    rw [Int.pow_succ]
    generalize (8 : Int) ^ m = M at *
    omega
/-- A word of size n, below a cell whose place among those of its size is P, m sizes down, e behind the first. -/
def Dn (P : Int) (n m : Nat) (e x : Int) : Prop := ∃ p q : Int, okB (n : Int) p q = true ∧ pr p q n = 8 ^ m * P + e ∧ x = wv p q n
/-- One of the words below. -/
def Dw (P : Int) (n m : Nat) (x : Int) : Prop := ∃ e, 0 ≤ e ∧ e ≤ wd m ∧ Dn P n m e x
theorem dn_start (a b : Int) (n : Nat) (h : okB (n : Int) a b = true) : Dn (pr a b n) n 0 0 (wv a b n) := ⟨a, b, h, by rw [Int.pow_zero]; omega, rfl⟩
theorem dn_kid (P : Int) (n m : Nat) (e p q : Int) (hn : n < 12) (j : Nat) (hj : j < 7) (h : okB (n : Int) p q = true) (hp : pr p q n = 8 ^ m * P + e) :
    Dn P (n + 1) (m + 1) (8 * e + j) (wv (chX (2 * p - q) j) (chY (p + 3 * q) j) (n + 1)) := by
  refine ⟨_, _, kid_ok p q n j hn hj h, ?_, rfl⟩
  obtain ⟨h1, h2⟩ := ch_up p q j hj
  rw [pr_step, h1, h2, hp, ch_dgz p q j hj, Int.pow_succ]
  generalize (8 : Int) ^ m = M
  grind
theorem wv_mono (a b c d : Int) (n : Nat) (hn : n ≤ 12) : (wv a b n ≤ wv c d n ↔ pr a b n ≤ pr c d n) := by
  rw [wv_pr a b n hn, wv_pr c d n hn]
  have hN : (0 : Int) < 8 ^ (12 - n) := Int.pow_pos (by omega)
  generalize (8 : Int) ^ (12 - n) = N at *
  generalize pr a b n = x
  generalize pr c d n = y
  constructor
  · intro h
    have h2 : (x + 1) * N ≤ (y + 1) * N := by omega
    have := Int.le_of_mul_le_mul_right h2 hN
    omega
  · intro h
    have := Int.mul_le_mul_of_nonneg_right (show x + 1 ≤ y + 1 by omega) (Int.le_of_lt hN)
    omega
theorem wv_eq (a b c d : Int) (n : Nat) (hn : n ≤ 12) : (wv a b n = wv c d n ↔ pr a b n = pr c d n) := by
  have h1 := wv_mono a b c d n hn
  have h2 := wv_mono c d a b n hn
  omega
/-- What is below another cell stands elsewhere; what is below this one between the first and the last. -/
theorem below_law (P Q : Int) (n m : Nat) (hn : n ≤ 12) (lo hi x : Int) (h1 : Dn P n m 0 lo) (h2 : Dn P n m (wd m) hi) (h3 : Dw Q n m x) : ((lo ≤ x ∧ x ≤ hi) ↔ P = Q) := by
  obtain ⟨p1, q1, _, e1, rfl⟩ := h1
  obtain ⟨p2, q2, _, e2, rfl⟩ := h2
  obtain ⟨e, he, he', p3, q3, _, e3, rfl⟩ := h3
  rw [wv_mono _ _ _ _ n hn, wv_mono _ _ _ _ n hn, e1, e2, e3]
  obtain ⟨w1, w2⟩ := wd_bd m
  have hM : (0 : Int) < 8 ^ m := Int.pow_pos (by omega)
  generalize (8 : Int) ^ m = M at *
  generalize wd m = S at *
  constructor
  · rintro ⟨g1, g2⟩
    rcases Int.lt_trichotomy P Q with h | h | h
    · have := Int.mul_le_mul_of_nonneg_left (show P + 1 ≤ Q by omega) (Int.le_of_lt hM)
      rw [Int.mul_add, Int.mul_one] at this
      omega
    · exact h
    · have := Int.mul_le_mul_of_nonneg_left (show Q + 1 ≤ P by omega) (Int.le_of_lt hM)
      rw [Int.mul_add, Int.mul_one] at this
      omega
  · rintro rfl
    omega
theorem below_lt (P : Int) (n m : Nat) (hn : n ≤ 12) (hm : 0 < m) (lo hi : Int) (h1 : Dn P n m 0 lo) (h2 : Dn P n m (wd m) hi) : lo < hi := by
  obtain ⟨p1, q1, _, e1, rfl⟩ := h1
  obtain ⟨p2, q2, _, e2, rfl⟩ := h2
  have h := wv_mono p2 q2 p1 q1 n hn
  rw [e1, e2] at h
  obtain ⟨k, rfl⟩ : ∃ k, m = k + 1 := ⟨m - 1, by omega⟩
  have hw : 6 ≤ wd (k + 1) := by
    show 6 ≤ 8 * wd k + 6
    have := (wd_bd k).1
    omega
  omega
/-- The words of a cell's children. -/
def kwL (p q : Int) (n : Nat) : Nat → List Int
  | 0 => []
  | k + 1 => kwL p q n k ++ [wv (chX (2 * p - q) k) (chY (p + 3 * q) k) (n + 1)]
theorem kwL_len (p q : Int) (n k : Nat) : (kwL p q n k).length = k := by
  induction k with
  | zero => rfl
  | succ k ih => simp [kwL, ih]
theorem kwL_dw (P : Int) (n m : Nat) (e p q : Int) (hn : n < 12) (he : 0 ≤ e) (he' : e ≤ wd m) (h : okB (n : Int) p q = true) (hp : pr p q n = 8 ^ m * P + e) :
    ∀ k : Nat, k ≤ 7 → ∀ x ∈ kwL p q n k, Dw P (n + 1) (m + 1) x := by
  intro k
  induction k with
  | zero => intro _ x hx; simp [kwL] at hx
  | succ k ih =>
    intro hk x hx
    rcases List.mem_append.1 hx with h1 | h1
    · exact ih (by omega) x h1
    · simp only [List.mem_singleton] at h1
      subst h1
      exact ⟨8 * e + k, by omega, by show _ ≤ 8 * wd m + 6; omega, dn_kid P n m e p q hn k (by omega) h hp⟩
end Go.Proofs.Ytmipkloleklnkaa

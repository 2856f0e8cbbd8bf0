
/- Plain laws of words: what a cell's word is, what a word says, and that each is read back. -/
import Derived.Test.YtmipkloleklnkaaKidsLaw
import Derived.Laws.BitsAllLaws
namespace Go.Proofs.Ytmipkloleklnkaa
open Go.RowKit
theorem self_kid5 (a b : Int) : ∃ j : Nat, j < 7 ∧ chX (2 * upA a b - upB a b) j = a ∧ chY (upA a b + 3 * upB a b) j = b ∧ dgz a b = j := by
  obtain ⟨e1, e2⟩ := up_down a b
  have key : ∃ j : Nat, j < 7 ∧ chX (2 * upA a b - upB a b) j = a ∧ chY (upA a b + 3 * upB a b) j = b := by
    rcases lf_cases a b with ⟨h1, h2⟩ | ⟨h1, h2⟩ | ⟨h1, h2⟩ | ⟨h1, h2⟩ | ⟨h1, h2⟩ | ⟨h1, h2⟩ | ⟨h1, h2⟩
    all_goals first
      | exact ⟨0, by omega, by simp [chX]; omega, by simp [chY]; omega⟩
      | exact ⟨1, by omega, by simp [chX, show uA 0 = 1 from rfl]; omega, by simp [chY, show uB 0 = 0 from rfl]; omega⟩
      | exact ⟨2, by omega, by simp [chX, show uA 1 = 0 from rfl]; omega, by simp [chY, show uB 1 = 1 from rfl]; omega⟩
      | exact ⟨3, by omega, by simp [chX, show uA 2 = -1 from rfl]; omega, by simp [chY, show uB 2 = 1 from rfl]; omega⟩
      | exact ⟨4, by omega, by simp [chX, show uA 3 = -1 from rfl]; omega, by simp [chY, show uB 3 = 0 from rfl]; omega⟩
      | exact ⟨5, by omega, by simp [chX, show uA 4 = 0 from rfl]; omega, by simp [chY, show uB 4 = -1 from rfl]; omega⟩
      | exact ⟨6, by omega, by simp [chX, show uA 5 = 1 from rfl]; omega, by simp [chY, show uB 5 = -1 from rfl]; omega⟩
  obtain ⟨j, hj, h1, h2⟩ := key
  refine ⟨j, hj, h1, h2, ?_⟩
  have := ch_dgz (upA a b) (upB a b) j hj
  rw [h1, h2] at this
  exact this
theorem dgz_bd (a b : Int) : 0 ≤ dgz a b ∧ dgz a b ≤ 6 := by
  obtain ⟨j, hj, _, _, h⟩ := self_kid5 a b
  omega
/-- A cell's digit of a size; 7: it has none. -/
def dl (a b : Int) (R j : Nat) : Int := if j ≤ R then dgz (zz a b (R - j)).1 (zz a b (R - j)).2 else 7
theorem dl_bd (a b : Int) (R j : Nat) : 0 ≤ dl a b R j ∧ dl a b R j ≤ 7 := by
  unfold dl
  split
  · have := dgz_bd (zz a b (R - j)).1 (zz a b (R - j)).2; omega
  · omega
theorem dl_in (a b : Int) (R j : Nat) (h : j ≤ R) : 0 ≤ dl a b R j ∧ dl a b R j ≤ 6 := by
  unfold dl
  rw [if_pos h]
  exact dgz_bd _ _
theorem dl_out (a b : Int) (R j : Nat) (h : R < j) : dl a b R j = 7 := if_neg (by omega)
/-- Digits put behind each other. -/
def ds (F : Nat → Int) : Nat → Int
  | 0 => 0
  | k + 1 => 8 * ds F k + F (k + 1)
theorem ds_bd (F : Nat → Int) (h : ∀ j, 0 ≤ F j ∧ F j ≤ 7) (k : Nat) : 0 ≤ ds F k ∧ ds F k < 8 ^ k := by
  induction k with
  | zero => exact ⟨Int.le_refl 0, by show (0 : Int) < 1; decide⟩
  | succ k ih =>
    have h1 := h (k + 1)
    have e : ds F (k + 1) = 8 * ds F k + F (k + 1) := rfl
    rw [e, Int.pow_succ]
    generalize (8 : Int) ^ k = M at *
    omega
theorem ds_inj (F G : Nat → Int) (hF : ∀ j, 0 ≤ F j ∧ F j ≤ 7) (hG : ∀ j, 0 ≤ G j ∧ G j ≤ 7) (k : Nat) (h : ds F k = ds G k) : ∀ j, 1 ≤ j → j ≤ k → F j = G j := by
  induction k with
  | zero => intro j h1 h2; omega
  | succ k ih =>
    intro j h1 h2
    have e1 : ds F (k + 1) = 8 * ds F k + F (k + 1) := rfl
    have e2 : ds G (k + 1) = 8 * ds G k + G (k + 1) := rfl
    have b1 := hF (k + 1)
    have b2 := hG (k + 1)
    rcases Nat.lt_or_ge k j with hj | hj
    · rw [show j = k + 1 by omega]; omega
    · exact ih (by omega) j h1 hj
theorem ds_congr (F G : Nat → Int) (k : Nat) (h : ∀ j, 1 ≤ j → j ≤ k → F j = G j) : ds F k = ds G k := by
  induction k with
  | zero => rfl
  | succ k ih =>
    show 8 * ds F k + F (k + 1) = 8 * ds G k + G (k + 1)
    rw [ih fun j h1 h2 => h j h1 (by omega), h (k + 1) (by omega) (by omega)]
theorem or_join (x y : Int) (s : Nat) (hs : s ≤ 63) (h1 : 0 ≤ x) (h2 : x < 18446744073709551616) (h3 : 0 ≤ y) (h4 : y < 2 ^ s) (hx : x % 2 ^ s = 0) : bits .or .u64 x y = x + y := by
  obtain ⟨X, rfl⟩ := Int.eq_ofNat_of_zero_le h1
  obtain ⟨Y, rfl⟩ := Int.eq_ofNat_of_zero_le h3
  have hy : Y < 2 ^ s := by exact_mod_cast h4
  have hp : 2 ^ s ≤ 2 ^ 63 := Nat.pow_le_pow_right (by omega) hs
  have hX : X % 2 ^ s = 0 := by exact_mod_cast hx
  rw [u64_or_nat X Y (by omega) (by omega), nat_join s X Y hX hy]
  exact_mod_cast rfl
theorem emod8 (u M : Int) (hM : 0 < M) : 8 * (u / 8 % M) + u % 8 = u % (M * 8) := by
  have e1 : u = 8 * (u / 8) + u % 8 := by omega
  have e2 := Int.mul_ediv_add_emod (u / 8) M
  have b1 := Int.emod_nonneg (u / 8) (show M ≠ 0 by omega)
  have b2 := Int.emod_lt_of_pos (u / 8) hM
  generalize u / 8 % M = t at *
  generalize u / 8 / M = q at *
  have e : u = (8 * t + u % 8) + (M * 8) * q := by
    have : M * 8 * q = 8 * (M * q) := by grind
    omega
  have hs : 0 ≤ u % 8 ∧ u % 8 < 8 := by omega
  generalize u % 8 = s at *
  subst e
  rw [Int.add_mul_emod_self_left, Int.emod_eq_of_lt (by omega) (by omega)]
/-- A word's digit. -/
def fd (w : Int) (j : Nat) : Int := w / 2 ^ (36 - 3 * j) % 8
theorem fd_bd (w : Int) (j : Nat) : 0 ≤ fd w j ∧ fd w j ≤ 7 := by
  unfold fd
  generalize w / 2 ^ (36 - 3 * j) = u
  omega
theorem ds_fd (w : Int) (k : Nat) (hk : k ≤ 12) : ds (fd w) k = w / 2 ^ (36 - 3 * k) % 8 ^ k := by
  induction k with
  | zero => show (0 : Int) = w / 2 ^ 36 % 1; omega
  | succ k ih =>
    show 8 * ds (fd w) k + fd w (k + 1) = _
    rw [ih (by omega)]
    unfold fd
    have e : (2 : Int) ^ (36 - 3 * k) = 2 ^ (36 - 3 * (k + 1)) * 8 := by
      rw [show 36 - 3 * k = 36 - 3 * (k + 1) + 3 by omega, Int.pow_add]
      rfl
    have hp : (0 : Int) < 2 ^ (36 - 3 * (k + 1)) := Int.pow_pos (by omega)
    have hm : (0 : Int) < 8 ^ k := Int.pow_pos (by omega)
    rw [e, ← Int.ediv_ediv_of_nonneg (Int.le_of_lt hp), emod8 _ _ hm, Int.pow_succ]
/-- A word without its digits. -/
def wHd (A B : Int) (R : Nat) : Int := 1152921504606846976 + (R : Int) * 72057594037927936 + (A + 512) * 70368744177664 + (B + 512) * 68719476736
/-- A cell's word. -/
def wv (a b : Int) (R : Nat) : Int := wHd (zz a b R).1 (zz a b R).2 R + ds (dl a b R) 12
theorem ds_12 (F : Nat → Int) (h : ∀ j, 0 ≤ F j ∧ F j ≤ 7) : 0 ≤ ds F 12 ∧ ds F 12 < 68719476736 := ds_bd F h 12
theorem base_bd {r a b : Int} (h : okB r a b = true) : (-512 ≤ (zz a b r.toNat).1 ∧ (zz a b r.toNat).1 < 512) ∧ -512 ≤ (zz a b r.toNat).2 ∧ (zz a b r.toNat).2 < 512 := by
  obtain ⟨_, _, hb⟩ := okB_true h
  unfold baseB at hb
  rw [Bool.and_eq_true] at hb
  exact ⟨of_decide_eq_true hb.1, of_decide_eq_true hb.2⟩
theorem w_fields (A B D : Int) (R : Nat) (hR : R ≤ 12) (hA : -512 ≤ A ∧ A < 512) (hB : -512 ≤ B ∧ B < 512) (hD : 0 ≤ D ∧ D < 68719476736) :
    0 ≤ wHd A B R + D ∧ wHd A B R + D < 18446744073709551616 ∧ (wHd A B R + D) / 1152921504606846976 = 1 ∧ (wHd A B R + D) / 72057594037927936 % 16 = R ∧
    (wHd A B R + D) / 70368744177664 % 1024 = A + 512 ∧ (wHd A B R + D) / 68719476736 % 1024 = B + 512 ∧ (wHd A B R + D) % 68719476736 = D := by
  unfold wHd
  obtain ⟨r, hr⟩ : ∃ r : Int, (R : Int) = r := ⟨_, rfl⟩
  have h1 : 0 ≤ r ∧ r ≤ 12 := by omega
  rw [hr]
  clear hR hr
  refine ⟨by omega, by omega, by omega, by omega, by omega, by omega, by omega⟩
theorem fd_put (A B : Int) (R : Nat) (F : Nat → Int) (hR : R ≤ 12) (hA : -512 ≤ A ∧ A < 512) (hB : -512 ≤ B ∧ B < 512) (hF : ∀ j, 0 ≤ F j ∧ F j ≤ 7) : ∀ j, 1 ≤ j → j ≤ 12 → fd (wHd A B R + ds F 12) j = F j := by
  obtain ⟨_, _, _, _, _, _, h⟩ := w_fields A B _ R hR hA hB (ds_12 F hF)
  have e := ds_fd (wHd A B R + ds F 12) 12 (Nat.le_refl _)
  rw [show (36 - 3 * 12 : Nat) = 0 by rfl, Int.pow_zero, Int.ediv_one] at e
  exact ds_inj _ F (fd_bd _) hF 12 (e.trans h)
/-- The number that digits lead to. -/
def dn (A B : Int) (F : Nat → Int) : Nat → Int × Int
  | 0 => (A, B)
  | k + 1 => (chX (2 * (dn A B F k).1 - (dn A B F k).2) (F (k + 1)).toNat, chY ((dn A B F k).1 + 3 * (dn A B F k).2) (F (k + 1)).toNat)
theorem dn_zz (A B : Int) (F : Nat → Int) (j : Nat) : ∀ i : Nat, (∀ m, j < m → m ≤ j + i → 0 ≤ F m ∧ F m ≤ 6) → zz (dn A B F (j + i)).1 (dn A B F (j + i)).2 i = dn A B F j := by
  intro i
  induction i with
  | zero => intro _; rfl
  | succ i ih =>
    intro h
    have h1 := h (j + i + 1) (by omega) (by omega)
    have := ch_zz (dn A B F (j + i)).1 (dn A B F (j + i)).2 (F (j + i + 1)).toNat (by omega) i
    rw [ih fun m h1 h2 => h m h1 (by omega)] at this
    exact this
theorem dn_ok (A B : Int) (F : Nat → Int) (h0 : okB 0 A B = true) : ∀ k : Nat, k ≤ 12 → (∀ m, 1 ≤ m → m ≤ k → 0 ≤ F m ∧ F m ≤ 6) → okB (k : Int) (dn A B F k).1 (dn A B F k).2 = true := by
  intro k
  induction k with
  | zero => intro _ _; exact h0
  | succ k ih =>
    intro hk h
    have h1 := h (k + 1) (by omega) (by omega)
    have := kid_ok (dn A B F k).1 (dn A B F k).2 k (F (k + 1)).toNat (by omega) (by omega) (ih (by omega) fun m h1 h2 => h m h1 (by omega))
    rw [show ((k + 1 : Nat) : Int) = (k : Int) + 1 by omega]
    exact this
theorem dn_dl (A B : Int) (F : Nat → Int) (R : Nat) (h : ∀ m, 1 ≤ m → m ≤ R → 0 ≤ F m ∧ F m ≤ 6) (j : Nat) (h1 : 1 ≤ j) (h2 : j ≤ R) : dl (dn A B F R).1 (dn A B F R).2 R j = F j := by
  unfold dl
  rw [if_pos h2]
  have hz := dn_zz A B F j (R - j) fun m h1 h2 => h m (by omega) (by omega)
  rw [show j + (R - j) = R by omega] at hz
  rw [hz]
  obtain ⟨i, rfl⟩ : ∃ i, j = i + 1 := ⟨j - 1, by omega⟩
  have hF := h (i + 1) h1 h2
  have := ch_dgz (dn A B F i).1 (dn A B F i).2 (F (i + 1)).toNat (by omega)
  rw [show ((F (i + 1)).toNat : Int) = F (i + 1) by omega] at this
  exact this
theorem dn_self (a b : Int) (R : Nat) : ∀ j : Nat, j ≤ R → dn (zz a b R).1 (zz a b R).2 (dl a b R) j = zz a b (R - j) := by
  intro j
  induction j with
  | zero => intro _; rfl
  | succ j ih =>
    intro hj
    have h := ih (by omega)
    have hz := zz_add a b (R - (j + 1)) 1
    rw [show R - (j + 1) + 1 = R - j by omega] at hz
    have hd : dl a b R (j + 1) = dgz (zz a b (R - (j + 1))).1 (zz a b (R - (j + 1))).2 := if_pos hj
    show (chX (2 * (dn (zz a b R).1 (zz a b R).2 (dl a b R) j).1 - (dn (zz a b R).1 (zz a b R).2 (dl a b R) j).2) (dl a b R (j + 1)).toNat, chY ((dn (zz a b R).1 (zz a b R).2 (dl a b R) j).1 + 3 * (dn (zz a b R).1 (zz a b R).2 (dl a b R) j).2) (dl a b R (j + 1)).toNat) = _
    rw [h, hd, ← hz]
    generalize zz a b (R - (j + 1)) = z
    obtain ⟨p, q⟩ := z
    obtain ⟨n, hn, e1, e2, e3⟩ := self_kid5 p q
    show (chX (2 * upA p q - upB p q) (dgz p q).toNat, chY (upA p q + 3 * upB p q) (dgz p q).toNat) = (p, q)
    rw [e3, Int.toNat_natCast, e1, e2]
/-- Do a word's first digits stand as its size says? -/
def gd (w : Int) (R : Int) : Nat → Bool
  | 0 => true
  | k + 1 => gd w R k && (decide (fd w (k + 1) = 7) == decide (R < (k : Int) + 1))
theorem gd_at (w R : Int) : ∀ k : Nat, gd w R k = true → ∀ j : Nat, 1 ≤ j → j ≤ k → (fd w j = 7 ↔ R < (j : Int)) := by
  intro k
  induction k with
  | zero => intro _ j h1 h2; omega
  | succ k ih =>
    intro h j h1 h2
    unfold gd at h
    rw [Bool.and_eq_true] at h
    rcases Nat.lt_or_ge k j with hj | hj
    · have e := eq_of_beq h.2
      rw [decide_eq_decide] at e
      rw [show j = k + 1 by omega, e]
      omega
    · exact ih h.1 j h1 hj
theorem gd_mk (w R : Int) : ∀ k : Nat, (∀ j : Nat, 1 ≤ j → j ≤ k → (fd w j = 7 ↔ R < (j : Int))) → gd w R k = true := by
  intro k
  induction k with
  | zero => intro _; rfl
  | succ k ih =>
    intro h
    have h1 := h (k + 1) (by omega) (by omega)
    unfold gd
    rw [ih fun j h1 h2 => h j h1 (by omega), Bool.true_and, beq_iff_eq, decide_eq_decide, h1]
    omega
theorem gd_down (w R : Int) (k : Nat) (h : gd w R k = false) : ∀ i : Nat, gd w R (k + i) = false := by
  intro i
  induction i with
  | zero => exact h
  | succ i ih =>
    show (gd w R (k + i) && _) = false
    rw [ih]
    rfl
/-- A word's size; whether it is one of a cell; its cell's number. -/
def wR (w : Int) : Int := w / 72057594037927936 % 16
def wA (w : Int) : Int := w / 70368744177664 % 1024 - 512
def wB (w : Int) : Int := w / 68719476736 % 1024 - 512
def wG (w : Int) : Bool := decide (w / 1152921504606846976 = 1) && decide (wR w ≤ 12) && gd w (wR w) 12
def wZ (w : Int) : Int × Int := dn (wA w) (wB w) (fd w) (wR w).toNat
theorem wG_true {w : Int} (h : wG w = true) : w / 1152921504606846976 = 1 ∧ (0 ≤ wR w ∧ wR w ≤ 12) ∧ ∀ j : Nat, 1 ≤ j → j ≤ 12 → (fd w j = 7 ↔ wR w < (j : Int)) := by
  unfold wG at h
  rw [Bool.and_eq_true, Bool.and_eq_true] at h
  refine ⟨of_decide_eq_true h.1.1, ⟨by unfold wR; omega, of_decide_eq_true h.1.2⟩, gd_at _ _ 12 h.2⟩
theorem wG_low {w : Int} (h : wG w = true) : ∀ m : Nat, 1 ≤ m → m ≤ (wR w).toNat → 0 ≤ fd w m ∧ fd w m ≤ 6 := by
  obtain ⟨_, ⟨h1, h2⟩, h3⟩ := wG_true h
  intro m m1 m2
  have := fd_bd w m
  have h4 := h3 m m1 (by omega)
  have h5 : fd w m ≠ 7 := fun e => by have := h4.1 e; omega
  omega
theorem base0_ok (A B : Int) (hA : -512 ≤ A ∧ A < 512) (hB : -512 ≤ B ∧ B < 512) : okB 0 A B = true := (base_ok A B hA.1 (by omega) hB.1 (by omega)).1
/-- What a word says may be. -/
theorem word_ok {w : Int} (h : wG w = true) : okB (wR w) (wZ w).1 (wZ w).2 = true := by
  obtain ⟨_, ⟨h1, h2⟩, _⟩ := wG_true h
  have := dn_ok (wA w) (wB w) (fd w) (base0_ok _ _ (by unfold wA; omega) (by unfold wB; omega)) (wR w).toNat (by omega) (wG_low h)
  rw [show ((wR w).toNat : Int) = wR w by omega] at this
  exact this
/-- A word is that of the cell that it says. -/
theorem word_back {w : Int} (h : wG w = true) : wv (wZ w).1 (wZ w).2 (wR w).toNat = w := by
  obtain ⟨h0, ⟨h1, h2⟩, h3⟩ := wG_true h
  have hz := dn_zz (wA w) (wB w) (fd w) 0 (wR w).toNat fun m m1 m2 => wG_low h m (by omega) (by omega)
  rw [Nat.zero_add] at hz
  have hd : ds (dl (wZ w).1 (wZ w).2 (wR w).toNat) 12 = ds (fd w) 12 := by
    refine ds_congr _ _ 12 fun j j1 j2 => ?_
    by_cases hj : j ≤ (wR w).toNat
    · exact dn_dl (wA w) (wB w) (fd w) (wR w).toNat (wG_low h) j j1 hj
    · rw [dl_out _ _ _ _ (by omega)]
      exact ((h3 j j1 j2).2 (by omega)).symm
  have e := ds_fd w 12 (Nat.le_refl _)
  rw [show (36 - 3 * 12 : Nat) = 0 by rfl, Int.pow_zero, Int.ediv_one, show (8 : Int) ^ 12 = 68719476736 by decide] at e
  unfold wv
  rw [hd, e]
  have hz' : zz (wZ w).1 (wZ w).2 (wR w).toNat = (wA w, wB w) := hz
  rw [hz']
  show wHd (wA w) (wB w) (wR w).toNat + _ = w
  unfold wHd
  rw [show ((wR w).toNat : Int) = wR w by omega]
  unfold wA wB wR
  clear h3 hz hz' hd e h
  unfold wR at h1 h2
  omega
/-- A cell's word says it. -/
theorem word_of {r a b : Int} (h : okB r a b = true) : (0 ≤ wv a b r.toNat ∧ wv a b r.toNat < 18446744073709551616) ∧ wG (wv a b r.toNat) = true ∧ wR (wv a b r.toNat) = r ∧ wZ (wv a b r.toNat) = (a, b) := by
  obtain ⟨⟨r1, r2⟩, _, _⟩ := okB_true h
  obtain ⟨hA, hB⟩ := base_bd h
  have hF := dl_bd a b r.toNat
  obtain ⟨f1, f2, f3, f4, f5, f6, f7⟩ := w_fields _ _ _ r.toNat (by omega) hA hB (ds_12 _ hF)
  have hd := fd_put _ _ r.toNat _ (by omega) hA hB hF
  change 0 ≤ wv a b r.toNat at f1
  change wv a b r.toNat < _ at f2
  change wv a b r.toNat / _ = 1 at f3
  change wv a b r.toNat / _ % 16 = _ at f4
  change wv a b r.toNat / _ % 1024 = _ at f5
  change wv a b r.toNat / _ % 1024 = _ at f6
  change ∀ j, 1 ≤ j → j ≤ 12 → fd (wv a b r.toNat) j = _ at hd
  have hR : wR (wv a b r.toNat) = r := by unfold wR; rw [f4]; omega
  refine ⟨⟨f1, f2⟩, ?_, hR, ?_⟩
  · unfold wG
    rw [hR, decide_eq_true f3, decide_eq_true r2, Bool.true_and, Bool.true_and]
    refine gd_mk _ _ 12 fun j j1 j2 => ?_
    rw [hd j j1 j2]
    by_cases hj : j ≤ r.toNat
    · have := dl_in a b r.toNat j hj
      omega
    · rw [dl_out _ _ _ _ (by omega)]
      omega
  · unfold wZ
    rw [hR]
    have eA : wA (wv a b r.toNat) = (zz a b r.toNat).1 := by unfold wA; omega
    have eB : wB (wv a b r.toNat) = (zz a b r.toNat).2 := by unfold wB; omega
    rw [eA, eB]
    have hk : ∀ k, k ≤ r.toNat → dn (zz a b r.toNat).1 (zz a b r.toNat).2 (fd (wv a b r.toNat)) k = dn (zz a b r.toNat).1 (zz a b r.toNat).2 (dl a b r.toNat) k := by
      intro k
      induction k with
      | zero => intro _; rfl
      | succ k ih =>
        intro hk
        unfold dn
        rw [ih (by omega), hd (k + 1) (by omega) (by omega)]
    rw [hk _ (Nat.le_refl _), dn_self a b r.toNat _ (Nat.le_refl _), Nat.sub_self]
    rfl
end Go.Proofs.Ytmipkloleklnkaa

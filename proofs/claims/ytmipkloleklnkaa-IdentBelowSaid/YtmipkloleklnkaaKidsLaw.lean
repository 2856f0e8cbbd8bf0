
/- Plain laws of children: numbers, digits, centres. -/
import Derived.Test.YtmipkloleklnkaaKids
namespace Go.Proofs.Ytmipkloleklnkaa
open Go.RowKit
theorem up_down (a b : Int) : a = 2 * upA a b - upB a b + lfA a b ∧ b = upA a b + 3 * upB a b + lfB a b := by
  unfold lfA lfB
  omega
theorem qn_down (a b B : Int) (h : qn (upA a b) (upB a b) ≤ B) : qn a b ≤ (357 * B + 2550) / 50 := by
  obtain ⟨e1, e2⟩ := up_down a b
  have hy := qn_young (2 * upA a b - upB a b) (upA a b + 3 * upB a b) (-lfA a b) (-lfB a b)
  rw [show 2 * upA a b - upB a b - -lfA a b = a by omega, show upA a b + 3 * upB a b - -lfB a b = b by omega] at hy
  have e3 : qn (2 * upA a b - upB a b) (upA a b + 3 * upB a b) = 7 * qn (upA a b) (upB a b) := by unfold qn; grind
  have e4 : qn (-lfA a b) (-lfB a b) ≤ 1 := by
    rcases lf_cases a b with ⟨h1, h2⟩ | ⟨h1, h2⟩ | ⟨h1, h2⟩ | ⟨h1, h2⟩ | ⟨h1, h2⟩ | ⟨h1, h2⟩ | ⟨h1, h2⟩ <;> rw [h1, h2] <;> decide
  rw [e3] at hy
  omega
theorem ok_qn (a b : Int) (R : Nat) (h : okB (R : Int) a b = true) : qn a b ≤ capB R := by
  obtain ⟨_, _, hb⟩ := okB_true h
  rw [Int.toNat_natCast] at hb
  have key : ∀ k : Nat, k ≤ R → qn (zz a b (R - k)).1 (zz a b (R - k)).2 ≤ capB k := by
    intro k
    induction k with
    | zero =>
      intro _
      rw [Nat.sub_zero]
      unfold baseB at hb
      rw [Bool.and_eq_true] at hb
      have b1 : -512 ≤ (zz a b R).1 ∧ (zz a b R).1 < 512 := of_decide_eq_true hb.1
      have b2 : -512 ≤ (zz a b R).2 ∧ (zz a b R).2 < 512 := of_decide_eq_true hb.2
      exact (base_ok _ _ b1.1 (by omega) b2.1 (by omega)).2
    | succ k ih =>
      intro hk
      have h1 := ih (by omega)
      rw [show R - k = (R - (k + 1)) + 1 by omega] at h1
      exact qn_down _ _ _ h1
  have := key R (Nat.le_refl _)
  rw [Nat.sub_self] at this
  exact this
/-- A child of a cell that may be may be. -/
theorem kid_ok (a b : Int) (k n : Nat) (hk : k < 12) (hn : n < 7) (h : okB (k : Int) a b = true) : okB ((k : Int) + 1) (chX (2 * a - b) n) (chY (a + 3 * b) n) = true :=
  (ch_ok a b k n hk hn h (ok_qn a b k h)).1
theorem ch_dgz (a b : Int) (n : Nat) (hn : n < 7) : dgz (chX (2 * a - b) n) (chY (a + 3 * b) n) = n := by
  obtain ⟨h1, h2⟩ := ch_up a b n hn
  unfold dgz lfA lfB
  rw [h1, h2]
  rcases (show n = 0 ∨ n = 1 ∨ n = 2 ∨ n = 3 ∨ n = 4 ∨ n = 5 ∨ n = 6 by omega) with rfl | rfl | rfl | rfl | rfl | rfl | rfl
  · rw [show chX (2 * a - b) 0 - (2 * a - b) = 0 by simp [chX], show chY (a + 3 * b) 0 - (a + 3 * b) = 0 by simp [chY]]; decide
  · rw [show chX (2 * a - b) 1 - (2 * a - b) = uA 0 by simp [chX]; omega, show chY (a + 3 * b) 1 - (a + 3 * b) = uB 0 by simp [chY]; omega]; decide
  · rw [show chX (2 * a - b) 2 - (2 * a - b) = uA 1 by simp [chX]; omega, show chY (a + 3 * b) 2 - (a + 3 * b) = uB 1 by simp [chY]; omega]; decide
  · rw [show chX (2 * a - b) 3 - (2 * a - b) = uA 2 by simp [chX]; omega, show chY (a + 3 * b) 3 - (a + 3 * b) = uB 2 by simp [chY]; omega]; decide
  · rw [show chX (2 * a - b) 4 - (2 * a - b) = uA 3 by simp [chX]; omega, show chY (a + 3 * b) 4 - (a + 3 * b) = uB 3 by simp [chY]; omega]; decide
  · rw [show chX (2 * a - b) 5 - (2 * a - b) = uA 4 by simp [chX]; omega, show chY (a + 3 * b) 5 - (a + 3 * b) = uB 4 by simp [chY]; omega]; decide
  · rw [show chX (2 * a - b) 6 - (2 * a - b) = uA 5 by simp [chX]; omega, show chY (a + 3 * b) 6 - (a + 3 * b) = uB 5 by simp [chY]; omega]; decide
theorem kid_dig (a b : Int) (k n : Nat) (hk : k < 12) (hn : n < 7) (h : okB (k : Int) a b = true) : digV ((k : Int) + 1) (chX (2 * a - b) n) (chY (a + 3 * b) n) = n := by
  unfold digV
  rw [if_pos ⟨kid_ok a b k n hk hn h, by omega⟩, ch_dgz a b n hn]
theorem pl_down' (a b : Int) (k : Nat) : plA (2 * a - b) (a + 3 * b) k = plA a b (k + 1) ∧ plB (2 * a - b) (a + 3 * b) k = plB a b (k + 1) := by
  have e1 : (bt (k + 1)).1 = 2 * (bt k).1 - (bt k).2 := rfl
  have e2 : (bt (k + 1)).2 = (bt k).1 + 3 * (bt k).2 := rfl
  unfold plA plB
  rw [e1, e2]
  constructor <;> grind
theorem ce_down' (a b : Int) (k : Nat) : ceX (2 * a - b) (a + 3 * b) k = ceX a b (k + 1) ∧ ceY (2 * a - b) (a + 3 * b) k = ceY a b (k + 1) := by
  obtain ⟨e1, e2⟩ := pl_down' a b k
  unfold ceX ceY
  rw [e1, e2]
  exact ⟨rfl, rfl⟩
end Go.Proofs.Ytmipkloleklnkaa

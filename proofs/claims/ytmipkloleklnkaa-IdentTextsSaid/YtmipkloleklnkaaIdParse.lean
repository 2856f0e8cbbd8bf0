/- The walks of ident's Digits and Parse and of the reference's Unhex and Unword: a text's number. -/
import Derived.Test.YtmipkloleklnkaaIdMore
namespace Go.Proofs.Ytmipkloleklnkaa
open Go.RowKit
set_option linter.unusedSimpArgs false
set_option linter.unusedVariables false
/-- A text's byte, as a number; whether it is a digit; which. -/
def bAt (s : ByteArray) (k : Nat) : Int := if h : k < s.size then ((s[k]'h).toNat : Int) else 0
theorem bAt_get (s : ByteArray) (k : Nat) (h : k < s.size) : ((s[k]'h).toNat : Int) = bAt s k := by
  unfold bAt
  rw [dif_pos h]
theorem bAt_bd (s : ByteArray) (k : Nat) : 0 ≤ bAt s k ∧ bAt s k ≤ 255 := by
  unfold bAt
  split
  · have := (s[k]).toNat_lt
    omega
  · omega
def dOk (c : Int) : Prop := (48 ≤ c ∧ c ≤ 57) ∨ (97 ≤ c ∧ c ≤ 102)
def dVal (c : Int) : Int := if c ≤ 57 then c - 48 else c - 87
theorem dVal_bd {c : Int} (h : dOk c) : 0 ≤ dVal c ∧ dVal c < 16 := by
  unfold dVal
  rcases h with h | h <;> split <;> omega
/-- What a text's first digits say. -/
def uw (s : ByteArray) : Nat → Int
  | 0 => 0
  | k + 1 => 16 * uw s k % 18446744073709551616 + dVal (bAt s k)
theorem uw_bd (s : ByteArray) : ∀ k : Nat, (∀ j, j < k → dOk (bAt s j)) → 0 ≤ uw s k ∧ uw s k < 18446744073709551616 := by
  intro k
  induction k with
  | zero => intro _; exact ⟨Int.le_refl 0, by show (0 : Int) < 18446744073709551616; decide⟩
  | succ k ih =>
    intro h
    have h1 := dVal_bd (h k (by omega))
    show 0 ≤ 16 * uw s k % 18446744073709551616 + dVal (bAt s k) ∧ 16 * uw s k % 18446744073709551616 + dVal (bAt s k) < 18446744073709551616
    omega
theorem uw_step (s : ByteArray) (k : Nat) (h : ∀ j, j < k + 1 → dOk (bAt s j)) : ∃ S : Int, IntKind.u64.wrap (uw s k * 16) = S ∧ bits .or .u64 S (dVal (bAt s k)) = uw s (k + 1) := by
  have h1 := dVal_bd (h k (by omega))
  refine ⟨16 * uw s k % 18446744073709551616, by rw [IntKind.wrap_u64]; omega, ?_⟩
  rw [or_join _ _ 4 (by omega) (by omega) (by omega) h1.1 h1.2 (by rw [show (2 : Int) ^ 4 = 16 by decide]; omega)]
  rfl
theorem bad_from (s : ByteArray) : (∀ j, j < s.size → dOk (bAt s j)) ∨ ∃ m, m < s.size ∧ (∀ j, j < m → dOk (bAt s j)) ∧ ¬ dOk (bAt s m) := by
  have key : ∀ n : Nat, n ≤ s.size → (∀ j, j < n → dOk (bAt s j)) ∨ ∃ m, m < s.size ∧ (∀ j, j < m → dOk (bAt s j)) ∧ ¬ dOk (bAt s m) := by
    intro n
    induction n with
    | zero => intro _; exact .inl fun j hj => by omega
    | succ n ih =>
      intro hn
      rcases ih (by omega) with h | h
      · by_cases hd : dOk (bAt s n)
        · refine .inl fun j hj => ?_
          rcases Nat.lt_or_ge j n with h2 | h2
          · exact h j h2
          · rw [show j = n by omega]; exact hd
        · exact .inr ⟨n, by omega, h, hd⟩
      · exact .inr h
  exact key s.size (Nat.le_refl _)
/-- The text of a word says it. -/
theorem hex_at (v : Int) (k : Nat) (h : k < 16) : bAt (hexS v) k = ((hxb (nib v k)).toNat : Int) := by
  rw [← bAt_get _ _ (by rw [hex_size]; exact h)]
  have : (hexS v)[k]'(by rw [hex_size]; exact h) = (hexP v 16)[k]'(by rw [hexP_len]; exact h) := rfl
  rw [this, hexP_get]
theorem hxb_ok (d : Int) (h0 : 0 ≤ d) (h1 : d < 16) : dOk ((hxb d).toNat : Int) ∧ dVal ((hxb d).toNat : Int) = d := by
  rcases (show d = 0 ∨ d = 1 ∨ d = 2 ∨ d = 3 ∨ d = 4 ∨ d = 5 ∨ d = 6 ∨ d = 7 ∨ d = 8 ∨ d = 9 ∨ d = 10 ∨ d = 11 ∨ d = 12 ∨ d = 13 ∨ d = 14 ∨ d = 15 by omega) with rfl | rfl | rfl | rfl | rfl | rfl | rfl | rfl | rfl | rfl | rfl | rfl | rfl | rfl | rfl | rfl <;> exact ⟨by unfold dOk; decide, by decide⟩
theorem hex_ok (v : Int) : ∀ j, j < 16 → dOk (bAt (hexS v) j) := fun j hj => by
  rw [hex_at v j hj]
  exact (hxb_ok _ (nib_bd v j).1 (nib_bd v j).2).1
theorem hex_back (v : Int) (h0 : 0 ≤ v) (h1 : v < 18446744073709551616) : uw (hexS v) 16 = v := by
  have key : ∀ k : Nat, k ≤ 16 → uw (hexS v) k = v / 2 ^ (4 * (16 - k)) := by
    intro k
    induction k with
    | zero =>
      intro _
      show (0 : Int) = v / 18446744073709551616
      omega
    | succ k ih =>
      intro hk
      have hs := nib_step v k (by omega)
      have hb := nib_bd v k
      show 16 * uw (hexS v) k % 18446744073709551616 + dVal (bAt (hexS v) k) = _
      rw [ih (by omega), hex_at v k (by omega), (hxb_ok _ hb.1 hb.2).2, show 16 - (k + 1) = 15 - k by omega, hs]
      have hp := pow_pos (4 * (15 - k))
      have hle : v / 2 ^ (4 * (15 - k)) ≤ v := Int.ediv_le_self _ h0
      have hq : 0 ≤ v / 2 ^ (4 * (16 - k)) := Int.ediv_nonneg h0 (Int.le_of_lt (pow_pos _))
      generalize v / 2 ^ (4 * (16 - k)) = q at *
      generalize v / 2 ^ (4 * (15 - k)) = u at *
      omega
  have := key 16 (Nat.le_refl _)
  simpa using this
theorem ret_ub {x y : Int} {b : Bool} (h : x = y) : Ending.returned (.tuple #[.int .u64 x, .bool b]) = Ending.returned (.tuple #[.int .u64 y, .bool b]) := by rw [h]
set_option maxRecDepth 100000 in
set_option maxHeartbeats 2000000 in
theorem dig_yes (s : ByteArray) (h16 : s.size = 16) (hall : ∀ j, j < s.size → dOk (bAt s j)) (w : World) :
    Calls Try.prog 50 #[.string s] w fun e w' => e = .returned (.tuple #[.int .u64 (uw s 16), .bool true]) ∧ Below w.heap.size w w' := by
  have hsI : (s.size : Int) = 16 := by omega
  go_enter Try.func50, Try.ntmps50
  go_wp2_with fail
  go_loopg [4, 12] (16) (fun n v i W => ∃ k : Nat, k + n = 16 ∧ v = .int .u64 (uw s k) ∧ i = .int .i64 (k : Int) ∧ W = w)
  case atStart => exact ⟨0, by omega, rfl, rfl, rfl⟩
  case round =>
    obtain ⟨k, hk, rfl, rfl, rfl⟩ := hrel
    by_cases hlt2 : k < 16
    · have hlt : k < s.size := by omega
      have hbd := bAt_bd s k
      obtain ⟨S, hS1, hS2⟩ := uw_step s k (fun j hj => hall j (by omega))
      have hub := uw_bd s k (fun j hj => hall j (by omega))
      have hdk : dOk (bAt s k) := hall k (by omega)
      obtain ⟨c, hc⟩ : ∃ c : UInt8, s[k]'hlt = c := ⟨_, rfl⟩
      have hix : ∀ h, s[k]'h = c := fun _ => hc
      have hcb : (c.toNat : Int) = bAt s k := by rw [← hc]; exact bAt_get s k hlt
      rw [← hcb] at hbd hS2 hdk
      obtain ⟨x, hx⟩ : ∃ x, uw s k = x := ⟨_, rfl⟩
      rw [hx] at hS1 hub ⊢
      obtain ⟨x', hx'⟩ : ∃ x', uw s (k + 1) = x' := ⟨_, rfl⟩
      rw [hx'] at hS2
      have HX := Lib.hid hx'
      obtain ⟨u1, u2⟩ := hub
      obtain ⟨c0, c255⟩ := hbd
      have hkI : (k : Int) < (s.size : Int) := by omega
      clear hc hcb hx hx'
      rcases hdk with ⟨hd1, hd2⟩ | ⟨hd1, hd2⟩
      · have hdv : dVal (c.toNat : Int) = (c.toNat : Int) - 48 := if_pos hd2
        rw [hdv] at hS2
        clear hdv
        go_wp2_with fail
        go_roundg (16 - (k + 1))
        case measure => omega
        case rel => exact ⟨k + 1, by omega, by rw [HX.out], by go_num, rfl⟩
      · have hdv : dVal (c.toNat : Int) = (c.toNat : Int) - 87 := if_neg (by omega)
        rw [hdv] at hS2
        clear hdv
        have hn57 : ¬ (c.toNat : Int) ≤ 57 := by omega
        go_wp2_with fail
        go_roundg (16 - (k + 1))
        case measure => omega
        case rel => exact ⟨k + 1, by omega, by rw [HX.out], by go_num, rfl⟩
    · obtain rfl : k = 16 := by omega
      obtain ⟨x, hx⟩ : ∃ x, uw s 16 = x := ⟨_, rfl⟩
      rw [hx]
      have HX := Lib.hid hx
      clear hx
      go_wp2_with fail
      go_ret2
      exact ⟨ret_ub HX.out.symm, Below.refl _ _⟩
set_option maxRecDepth 100000 in
set_option maxHeartbeats 2000000 in
theorem dig_bad (s : ByteArray) (h16 : s.size = 16) (m : Nat) (hm : m < s.size) (hall : ∀ j, j < m → dOk (bAt s j)) (h2 : ¬ dOk (bAt s m)) (w : World) :
    Calls Try.prog 50 #[.string s] w fun e w' => e = .returned (.tuple #[.int .u64 0, .bool false]) ∧ Below w.heap.size w w' := by
  have hsI : (s.size : Int) = 16 := by omega
  go_enter Try.func50, Try.ntmps50
  go_wp2_with fail
  go_loopg [4, 12] (m) (fun n v i W => ∃ k : Nat, k + n = m ∧ v = .int .u64 (uw s k) ∧ i = .int .i64 (k : Int) ∧ W = w)
  case atStart => exact ⟨0, by omega, rfl, rfl, rfl⟩
  case round =>
    obtain ⟨k, hk, rfl, rfl, rfl⟩ := hrel
    by_cases hlt2 : k < m
    · have hlt : k < s.size := by omega
      have hbd := bAt_bd s k
      obtain ⟨S, hS1, hS2⟩ := uw_step s k (fun j hj => hall j (by omega))
      have hub := uw_bd s k (fun j hj => hall j (by omega))
      have hdk : dOk (bAt s k) := hall k (by omega)
      obtain ⟨c, hc⟩ : ∃ c : UInt8, s[k]'hlt = c := ⟨_, rfl⟩
      have hix : ∀ h, s[k]'h = c := fun _ => hc
      have hcb : (c.toNat : Int) = bAt s k := by rw [← hc]; exact bAt_get s k hlt
      rw [← hcb] at hbd hS2 hdk
      obtain ⟨x, hx⟩ : ∃ x, uw s k = x := ⟨_, rfl⟩
      rw [hx] at hS1 hub ⊢
      obtain ⟨x', hx'⟩ : ∃ x', uw s (k + 1) = x' := ⟨_, rfl⟩
      rw [hx'] at hS2
      have HX := Lib.hid hx'
      obtain ⟨u1, u2⟩ := hub
      obtain ⟨c0, c255⟩ := hbd
      have hkI : (k : Int) < (s.size : Int) := by omega
      clear hc hcb hx hx'
      rcases hdk with ⟨hd1, hd2⟩ | ⟨hd1, hd2⟩
      · have hdv : dVal (c.toNat : Int) = (c.toNat : Int) - 48 := if_pos hd2
        rw [hdv] at hS2
        clear hdv
        go_wp2_with fail
        go_roundg (m - (k + 1))
        case measure => omega
        case rel => exact ⟨k + 1, by omega, by rw [HX.out], by go_num, rfl⟩
      · have hdv : dVal (c.toNat : Int) = (c.toNat : Int) - 87 := if_neg (by omega)
        rw [hdv] at hS2
        clear hdv
        have hn57 : ¬ (c.toNat : Int) ≤ 57 := by omega
        go_wp2_with fail
        go_roundg (m - (k + 1))
        case measure => omega
        case rel => exact ⟨k + 1, by omega, by rw [HX.out], by go_num, rfl⟩
    · obtain rfl : m = k := by omega
      have hlt : m < s.size := hm
      obtain ⟨c, hc⟩ : ∃ c : UInt8, s[m]'hlt = c := ⟨_, rfl⟩
      have hix : ∀ h, s[m]'h = c := fun _ => hc
      have hcb : (c.toNat : Int) = bAt s m := by rw [← hc]; exact bAt_get s m hlt
      have hbd := bAt_bd s m
      rw [← hcb] at hbd h2
      obtain ⟨c0, c255⟩ := hbd
      have hkI : (m : Int) < (s.size : Int) := by omega
      have h2a : ¬ (48 ≤ (c.toNat : Int) ∧ (c.toNat : Int) ≤ 57) := fun h => h2 (.inl h)
      have h2b : ¬ (97 ≤ (c.toNat : Int) ∧ (c.toNat : Int) ≤ 102) := fun h => h2 (.inr h)
      clear hc hcb h2 hall
      generalize uw s m = x at *
      rcases (show (c.toNat : Int) < 48 ∨ (58 ≤ (c.toNat : Int) ∧ (c.toNat : Int) < 97) ∨ 102 < (c.toNat : Int) by omega) with h3 | ⟨h3, h4⟩ | h3
      all_goals (
        clear h2a h2b
        go_wp2_with fail
        go_ret2
        exact ⟨rfl, Below.refl _ _⟩)
theorem dig_len (s : ByteArray) (h16 : ¬ s.size = 16) (w : World) :
    Calls Try.prog 50 #[.string s] w fun e w' => e = .returned (.tuple #[.int .u64 0, .bool false]) ∧ Below w.heap.size w w' := by
  have q : ((s.size : Int) == 16) = false := by simp; omega
  go_enter Try.func50, Try.ntmps50
  go_wp2_with fail
  go_ret2
  exact ⟨rfl, Below.refl _ _⟩
set_option maxRecDepth 100000 in
set_option maxHeartbeats 2000000 in
theorem unhex_yes (s : ByteArray) (h16 : s.size = 16) (hall : ∀ j, j < s.size → dOk (bAt s j)) (w : World) :
    Calls Try.prog 51 #[.string s] w fun e w' => e = .returned (.tuple #[.int .u64 (uw s 16), .bool true]) ∧ Below w.heap.size w w' := by
  have hsI : (s.size : Int) = 16 := by omega
  go_enter Try.func51, Try.ntmps51
  go_wp2_with fail
  go_loopg [4, 5] (16) (fun n v i W => ∃ k : Nat, k + n = 16 ∧ v = .int .u64 (uw s k) ∧ i = .int .i64 (k : Int) ∧ W = w)
  case atStart => exact ⟨0, by omega, rfl, rfl, rfl⟩
  case round =>
    obtain ⟨k, hk, rfl, rfl, rfl⟩ := hrel
    by_cases hlt2 : k < 16
    · have hlt : k < s.size := by omega
      have hbd := bAt_bd s k
      obtain ⟨S, hS1, hS2⟩ := uw_step s k (fun j hj => hall j (by omega))
      have hub := uw_bd s k (fun j hj => hall j (by omega))
      have hdk : dOk (bAt s k) := hall k (by omega)
      obtain ⟨c, hc⟩ : ∃ c : UInt8, s[k]'hlt = c := ⟨_, rfl⟩
      have hix : ∀ h, s[k]'h = c := fun _ => hc
      have hcb : (c.toNat : Int) = bAt s k := by rw [← hc]; exact bAt_get s k hlt
      rw [← hcb] at hbd hS2 hdk
      obtain ⟨x, hx⟩ : ∃ x, uw s k = x := ⟨_, rfl⟩
      rw [hx] at hS1 hub ⊢
      obtain ⟨x', hx'⟩ : ∃ x', uw s (k + 1) = x' := ⟨_, rfl⟩
      rw [hx'] at hS2
      have HX := Lib.hid hx'
      obtain ⟨u1, u2⟩ := hub
      obtain ⟨c0, c255⟩ := hbd
      have hkI : (k : Int) < (s.size : Int) := by omega
      clear hc hcb hx hx'
      rcases hdk with ⟨hd1, hd2⟩ | ⟨hd1, hd2⟩
      · have hdv : dVal (c.toNat : Int) = (c.toNat : Int) - 48 := if_pos hd2
        rw [hdv] at hS2
        clear hdv
        go_wp2_with fail
        go_roundg (16 - (k + 1))
        case measure => omega
        case rel => exact ⟨k + 1, by omega, by rw [HX.out], by go_num, rfl⟩
      · have hdv : dVal (c.toNat : Int) = (c.toNat : Int) - 87 := if_neg (by omega)
        rw [hdv] at hS2
        clear hdv
        have hn57 : ¬ (c.toNat : Int) ≤ 57 := by omega
        have h8710 : (c.toNat : Int) - 97 + 10 = (c.toNat : Int) - 87 := by omega
        go_wp2_with fail
        go_roundg (16 - (k + 1))
        case measure => omega
        case rel => exact ⟨k + 1, by omega, by rw [HX.out], by go_num, rfl⟩
    · obtain rfl : k = 16 := by omega
      obtain ⟨x, hx⟩ : ∃ x, uw s 16 = x := ⟨_, rfl⟩
      rw [hx]
      have HX := Lib.hid hx
      clear hx
      go_wp2_with fail
      go_ret2
      exact ⟨ret_ub HX.out.symm, Below.refl _ _⟩
set_option maxRecDepth 100000 in
set_option maxHeartbeats 2000000 in
theorem unhex_len (s : ByteArray) (hs : s.size ≤ 9223372036854775807) (hall : ∀ j, j < s.size → dOk (bAt s j)) (h16 : ¬ s.size = 16) (w : World) :
    Calls Try.prog 51 #[.string s] w fun e w' => e = .returned (.tuple #[.int .u64 (uw s s.size), .bool false]) ∧ Below w.heap.size w w' := by
  go_enter Try.func51, Try.ntmps51
  go_wp2_with fail
  go_loopg [4, 5] (s.size) (fun n v i W => ∃ k : Nat, k + n = s.size ∧ v = .int .u64 (uw s k) ∧ i = .int .i64 (k : Int) ∧ W = w)
  case atStart => exact ⟨0, by omega, rfl, rfl, rfl⟩
  case round =>
    obtain ⟨k, hk, rfl, rfl, rfl⟩ := hrel
    by_cases hlt2 : k < s.size
    · have hlt : k < s.size := by omega
      have hbd := bAt_bd s k
      obtain ⟨S, hS1, hS2⟩ := uw_step s k (fun j hj => hall j (by omega))
      have hub := uw_bd s k (fun j hj => hall j (by omega))
      have hdk : dOk (bAt s k) := hall k (by omega)
      obtain ⟨c, hc⟩ : ∃ c : UInt8, s[k]'hlt = c := ⟨_, rfl⟩
      have hix : ∀ h, s[k]'h = c := fun _ => hc
      have hcb : (c.toNat : Int) = bAt s k := by rw [← hc]; exact bAt_get s k hlt
      rw [← hcb] at hbd hS2 hdk
      obtain ⟨x, hx⟩ : ∃ x, uw s k = x := ⟨_, rfl⟩
      rw [hx] at hS1 hub ⊢
      obtain ⟨x', hx'⟩ : ∃ x', uw s (k + 1) = x' := ⟨_, rfl⟩
      rw [hx'] at hS2
      have HX := Lib.hid hx'
      obtain ⟨u1, u2⟩ := hub
      obtain ⟨c0, c255⟩ := hbd
      have hkI : (k : Int) < (s.size : Int) := by omega
      clear hc hcb hx hx'
      rcases hdk with ⟨hd1, hd2⟩ | ⟨hd1, hd2⟩
      · have hdv : dVal (c.toNat : Int) = (c.toNat : Int) - 48 := if_pos hd2
        rw [hdv] at hS2
        clear hdv
        go_wp2_with fail
        go_roundg (s.size - (k + 1))
        case measure => omega
        case rel => exact ⟨k + 1, by omega, by rw [HX.out], by go_num, rfl⟩
      · have hdv : dVal (c.toNat : Int) = (c.toNat : Int) - 87 := if_neg (by omega)
        rw [hdv] at hS2
        clear hdv
        have hn57 : ¬ (c.toNat : Int) ≤ 57 := by omega
        have h8710 : (c.toNat : Int) - 97 + 10 = (c.toNat : Int) - 87 := by omega
        go_wp2_with fail
        go_roundg (s.size - (k + 1))
        case measure => omega
        case rel => exact ⟨k + 1, by omega, by rw [HX.out], by go_num, rfl⟩
    · obtain rfl : k = s.size := by omega
      have q : ((s.size : Int) == 16) = false := by simp; omega
      obtain ⟨x, hx⟩ : ∃ x, uw s s.size = x := ⟨_, rfl⟩
      rw [hx]
      have HX := Lib.hid hx
      clear hx
      go_wp2_with fail
      go_ret2
      exact ⟨ret_ub HX.out.symm, Below.refl _ _⟩
set_option maxRecDepth 100000 in
set_option maxHeartbeats 2000000 in
theorem unhex_bad (s : ByteArray) (hs : s.size ≤ 9223372036854775807) (m : Nat) (hm : m < s.size) (hall : ∀ j, j < m → dOk (bAt s j)) (h2 : ¬ dOk (bAt s m)) (w : World) :
    Calls Try.prog 51 #[.string s] w fun e w' => e = .returned (.tuple #[.int .u64 0, .bool false]) ∧ Below w.heap.size w w' := by
  go_enter Try.func51, Try.ntmps51
  go_wp2_with fail
  go_loopg [4, 5] (m) (fun n v i W => ∃ k : Nat, k + n = m ∧ v = .int .u64 (uw s k) ∧ i = .int .i64 (k : Int) ∧ W = w)
  case atStart => exact ⟨0, by omega, rfl, rfl, rfl⟩
  case round =>
    obtain ⟨k, hk, rfl, rfl, rfl⟩ := hrel
    by_cases hlt2 : k < m
    · have hlt : k < s.size := by omega
      have hbd := bAt_bd s k
      obtain ⟨S, hS1, hS2⟩ := uw_step s k (fun j hj => hall j (by omega))
      have hub := uw_bd s k (fun j hj => hall j (by omega))
      have hdk : dOk (bAt s k) := hall k (by omega)
      obtain ⟨c, hc⟩ : ∃ c : UInt8, s[k]'hlt = c := ⟨_, rfl⟩
      have hix : ∀ h, s[k]'h = c := fun _ => hc
      have hcb : (c.toNat : Int) = bAt s k := by rw [← hc]; exact bAt_get s k hlt
      rw [← hcb] at hbd hS2 hdk
      obtain ⟨x, hx⟩ : ∃ x, uw s k = x := ⟨_, rfl⟩
      rw [hx] at hS1 hub ⊢
      obtain ⟨x', hx'⟩ : ∃ x', uw s (k + 1) = x' := ⟨_, rfl⟩
      rw [hx'] at hS2
      have HX := Lib.hid hx'
      obtain ⟨u1, u2⟩ := hub
      obtain ⟨c0, c255⟩ := hbd
      have hkI : (k : Int) < (s.size : Int) := by omega
      clear hc hcb hx hx'
      rcases hdk with ⟨hd1, hd2⟩ | ⟨hd1, hd2⟩
      · have hdv : dVal (c.toNat : Int) = (c.toNat : Int) - 48 := if_pos hd2
        rw [hdv] at hS2
        clear hdv
        go_wp2_with fail
        go_roundg (m - (k + 1))
        case measure => omega
        case rel => exact ⟨k + 1, by omega, by rw [HX.out], by go_num, rfl⟩
      · have hdv : dVal (c.toNat : Int) = (c.toNat : Int) - 87 := if_neg (by omega)
        rw [hdv] at hS2
        clear hdv
        have hn57 : ¬ (c.toNat : Int) ≤ 57 := by omega
        have h8710 : (c.toNat : Int) - 97 + 10 = (c.toNat : Int) - 87 := by omega
        go_wp2_with fail
        go_roundg (m - (k + 1))
        case measure => omega
        case rel => exact ⟨k + 1, by omega, by rw [HX.out], by go_num, rfl⟩
    · obtain rfl : m = k := by omega
      have hlt : m < s.size := hm
      obtain ⟨c, hc⟩ : ∃ c : UInt8, s[m]'hlt = c := ⟨_, rfl⟩
      have hix : ∀ h, s[m]'h = c := fun _ => hc
      have hcb : (c.toNat : Int) = bAt s m := by rw [← hc]; exact bAt_get s m hlt
      have hbd := bAt_bd s m
      rw [← hcb] at hbd h2
      obtain ⟨c0, c255⟩ := hbd
      have hkI : (m : Int) < (s.size : Int) := by omega
      have h2a : ¬ (48 ≤ (c.toNat : Int) ∧ (c.toNat : Int) ≤ 57) := fun h => h2 (.inl h)
      have h2b : ¬ (97 ≤ (c.toNat : Int) ∧ (c.toNat : Int) ≤ 102) := fun h => h2 (.inr h)
      clear hc hcb h2 hall
      generalize uw s m = x at *
      rcases (show (c.toNat : Int) < 48 ∨ (58 ≤ (c.toNat : Int) ∧ (c.toNat : Int) < 97) ∨ 102 < (c.toNat : Int) by omega) with h3 | ⟨h3, h4⟩ | h3
      all_goals (
        clear h2a h2b
        go_wp2_with fail
        go_ret2
        exact ⟨rfl, Below.refl _ _⟩)
def id_parseV (s : ByteArray) : Int := if wG (uw s 16) then uw s 16 else 0
def id_parseE (s : ByteArray) : Int := if wG (uw s 16) then 0 else 5
set_option maxHeartbeats 1000000 in
theorem id_parse_yes (s : ByteArray) (h16 : s.size = 16) (hall : ∀ j, j < s.size → dOk (bAt s j)) (h0 : 0 ≤ uw s 16) (h1 : uw s 16 < 18446744073709551616) (w : World) :
    Calls Try.prog 29 #[.string s] w fun e w' => e = .returned (.tuple #[.int .u64 (if wG (uw s 16) then uw s 16 else 0), .int .i64 (if wG (uw s 16) then 0 else 5)]) ∧ Below w.heap.size w w' := by
  have DG := Lib.hid (dig_yes s h16 hall)
  have OK0 := id_ok (uw s 16) h0 h1
  generalize uw s 16 = x at *
  rcases hg : wG x with _ | _
  · rw [hg] at OK0
    have OK := Lib.hid OK0
    clear OK0 hall hg
    go_enter Try.func29, Try.ntmps29
    go_wp2_with fail
    refine (DG.out _).mono ?_
    rintro e_1 w_1 ⟨rfl, hb_1⟩
    go_wp2_with fail
    refine (OK.out _).mono ?_
    rintro e_2 w_2 ⟨rfl, hb_2⟩
    go_wp2_with fail
    go_ret2
    exact ⟨rfl, by repeat (first | with_reducible exact Below.refl _ _ | with_reducible refine bl_alloc ?_ _ | with_reducible refine bl_drewN ?_ _ | with_reducible refine bl_drew ?_ | (with_reducible refine bl_set ?_ ?_ _; rotate_left; focus (first | (simp; done) | (simp; omega) | omega)) | with_reducible refine below_step ?_ (Bw.below _) | with_reducible refine below_step ?_ (by assumption))⟩
  · rw [hg] at OK0
    have OK := Lib.hid OK0
    clear OK0 hall hg
    go_enter Try.func29, Try.ntmps29
    go_wp2_with fail
    refine (DG.out _).mono ?_
    rintro e_1 w_1 ⟨rfl, hb_1⟩
    go_wp2_with fail
    refine (OK.out _).mono ?_
    rintro e_2 w_2 ⟨rfl, hb_2⟩
    go_wp2_with fail
    go_ret2
    exact ⟨rfl, by repeat (first | with_reducible exact Below.refl _ _ | with_reducible refine bl_alloc ?_ _ | with_reducible refine bl_drewN ?_ _ | with_reducible refine bl_drew ?_ | (with_reducible refine bl_set ?_ ?_ _; rotate_left; focus (first | (simp; done) | (simp; omega) | omega)) | with_reducible refine below_step ?_ (Bw.below _) | with_reducible refine below_step ?_ (by assumption))⟩
set_option maxHeartbeats 1000000 in
theorem id_parse_no (s : ByteArray) (D : ∀ w, Calls Try.prog 50 #[.string s] w fun e w' => e = .returned (.tuple #[.int .u64 0, .bool false]) ∧ Below w.heap.size w w') (w : World) :
    Calls Try.prog 29 #[.string s] w fun e w' => e = .returned (.tuple #[.int .u64 0, .int .i64 6]) ∧ Below w.heap.size w w' := by
  have DG := Lib.hid D
  clear D
  go_enter Try.func29, Try.ntmps29
  go_wp2_with fail
  refine (DG.out _).mono ?_
  rintro e_1 w_1 ⟨rfl, hb_1⟩
  go_wp2_with fail
  go_ret2
  exact ⟨rfl, by repeat (first | with_reducible exact Below.refl _ _ | with_reducible refine bl_alloc ?_ _ | with_reducible refine bl_drewN ?_ _ | with_reducible refine bl_drew ?_ | (with_reducible refine bl_set ?_ ?_ _; rotate_left; focus (first | (simp; done) | (simp; omega) | omega)) | with_reducible refine below_step ?_ (Bw.below _) | with_reducible refine below_step ?_ (by assumption))⟩
def ref_unwordV (s : ByteArray) : Int := if wG (uw s 16) then uw s 16 else 0
def ref_unwordE (s : ByteArray) : Int := if wG (uw s 16) then 0 else 5
set_option maxHeartbeats 1000000 in
theorem ref_unword_yes (s : ByteArray) (h16 : s.size = 16) (hall : ∀ j, j < s.size → dOk (bAt s j)) (h0 : 0 ≤ uw s 16) (h1 : uw s 16 < 18446744073709551616) (w : World) :
    Calls Try.prog 30 #[.string s] w fun e w' => e = .returned (.tuple #[.int .u64 (if wG (uw s 16) then uw s 16 else 0), .int .i64 (if wG (uw s 16) then 0 else 5)]) ∧ Below w.heap.size w w' := by
  have DG := Lib.hid (unhex_yes s h16 hall)
  have OK0 := ref_isword (uw s 16) h0 h1
  generalize uw s 16 = x at *
  rcases hg : wG x with _ | _
  · rw [hg] at OK0
    have OK := Lib.hid OK0
    clear OK0 hall hg
    go_enter Try.func30, Try.ntmps30
    go_wp2_with fail
    refine (DG.out _).mono ?_
    rintro e_1 w_1 ⟨rfl, hb_1⟩
    go_wp2_with fail
    refine (OK.out _).mono ?_
    rintro e_2 w_2 ⟨rfl, hb_2⟩
    go_wp2_with fail
    go_ret2
    exact ⟨rfl, by repeat (first | with_reducible exact Below.refl _ _ | with_reducible refine bl_alloc ?_ _ | with_reducible refine bl_drewN ?_ _ | with_reducible refine bl_drew ?_ | (with_reducible refine bl_set ?_ ?_ _; rotate_left; focus (first | (simp; done) | (simp; omega) | omega)) | with_reducible refine below_step ?_ (Bw.below _) | with_reducible refine below_step ?_ (by assumption))⟩
  · rw [hg] at OK0
    have OK := Lib.hid OK0
    clear OK0 hall hg
    go_enter Try.func30, Try.ntmps30
    go_wp2_with fail
    refine (DG.out _).mono ?_
    rintro e_1 w_1 ⟨rfl, hb_1⟩
    go_wp2_with fail
    refine (OK.out _).mono ?_
    rintro e_2 w_2 ⟨rfl, hb_2⟩
    go_wp2_with fail
    go_ret2
    exact ⟨rfl, by repeat (first | with_reducible exact Below.refl _ _ | with_reducible refine bl_alloc ?_ _ | with_reducible refine bl_drewN ?_ _ | with_reducible refine bl_drew ?_ | (with_reducible refine bl_set ?_ ?_ _; rotate_left; focus (first | (simp; done) | (simp; omega) | omega)) | with_reducible refine below_step ?_ (Bw.below _) | with_reducible refine below_step ?_ (by assumption))⟩
set_option maxHeartbeats 1000000 in
theorem ref_unword_no (s : ByteArray) (x : Int) (D : ∀ w, Calls Try.prog 51 #[.string s] w fun e w' => e = .returned (.tuple #[.int .u64 x, .bool false]) ∧ Below w.heap.size w w') (w : World) :
    Calls Try.prog 30 #[.string s] w fun e w' => e = .returned (.tuple #[.int .u64 0, .int .i64 6]) ∧ Below w.heap.size w w' := by
  have DG := Lib.hid D
  clear D
  go_enter Try.func30, Try.ntmps30
  go_wp2_with fail
  refine (DG.out _).mono ?_
  rintro e_1 w_1 ⟨rfl, hb_1⟩
  go_wp2_with fail
  go_ret2
  exact ⟨rfl, by repeat (first | with_reducible exact Below.refl _ _ | with_reducible refine bl_alloc ?_ _ | with_reducible refine bl_drewN ?_ _ | with_reducible refine bl_drew ?_ | (with_reducible refine bl_set ?_ ?_ _; rotate_left; focus (first | (simp; done) | (simp; omega) | omega)) | with_reducible refine below_step ?_ (Bw.below _) | with_reducible refine below_step ?_ (by assumption))⟩
theorem tell_parse (s : ByteArray) (hs : s.size ≤ 9223372036854775807) : ∃ p e : Int, Hid (∀ w, Calls Try.prog 29 #[.string s] w fun e' w' => e' = .returned (.tuple #[.int .u64 p, .int .i64 e]) ∧ Below w.heap.size w w') ∧
    Hid (∀ w, Calls Try.prog 30 #[.string s] w fun e' w' => e' = .returned (.tuple #[.int .u64 p, .int .i64 e]) ∧ Below w.heap.size w w') := by
  rcases bad_from s with h | ⟨m, hm, h1, h2⟩
  · by_cases h16 : s.size = 16
    · have hb := uw_bd s 16 fun j hj => h j (by omega)
      exact ⟨_, _, Lib.hid (id_parse_yes s h16 h hb.1 hb.2), Lib.hid (ref_unword_yes s h16 h hb.1 hb.2)⟩
    · exact ⟨_, _, Lib.hid (id_parse_no s (dig_len s h16)), Lib.hid (ref_unword_no s _ (unhex_len s hs h h16))⟩
  · by_cases h16 : s.size = 16
    · exact ⟨_, _, Lib.hid (id_parse_no s (dig_bad s h16 m hm h1 h2)), Lib.hid (ref_unword_no s _ (unhex_bad s hs m hm h1 h2))⟩
    · exact ⟨_, _, Lib.hid (id_parse_no s (dig_len s h16)), Lib.hid (ref_unword_no s _ (unhex_bad s hs m hm h1 h2))⟩
end Go.Proofs.Ytmipkloleklnkaa

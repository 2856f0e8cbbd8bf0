
/- The walks of ident's Text and of the reference's Hex16; and what two texts say of their words. -/
import Derived.Test.YtmipkloleklnkaaIdRef
import Derived.Laws.IdiomStrings
import Derived.Laws.Concat
import Derived.OwnWalk
namespace Go.Proofs.Ytmipkloleklnkaa
open Go.RowKit
set_option linter.unusedSimpArgs false
set_option linter.unusedVariables false
/-- A digit's byte. -/
def hxb (d : Int) : UInt8 := if d < 10 then UInt8.ofNat (48 + d.toNat) else UInt8.ofNat (87 + d.toNat)
theorem hx_lit (d : Int) (h0 : 0 ≤ d) (h1 : d < 16) : ∀ h, (ByteArray.mk #[48, 49, 50, 51, 52, 53, 54, 55, 56, 57, 97, 98, 99, 100, 101, 102])[d.toNat]'h = hxb d := by
  rcases (show d = 0 ∨ d = 1 ∨ d = 2 ∨ d = 3 ∨ d = 4 ∨ d = 5 ∨ d = 6 ∨ d = 7 ∨ d = 8 ∨ d = 9 ∨ d = 10 ∨ d = 11 ∨ d = 12 ∨ d = 13 ∨ d = 14 ∨ d = 15 by omega) with rfl | rfl | rfl | rfl | rfl | rfl | rfl | rfl | rfl | rfl | rfl | rfl | rfl | rfl | rfl | rfl <;> intro h <;> rfl
theorem hx_cut (d : Int) (h0 : 0 ≤ d) (h1 : d < 16) : (ByteArray.mk #[48, 49, 50, 51, 52, 53, 54, 55, 56, 57, 97, 98, 99, 100, 101, 102]).extract d.toNat (d + 1).toNat = ⟨#[hxb d]⟩ := by
  rcases (show d = 0 ∨ d = 1 ∨ d = 2 ∨ d = 3 ∨ d = 4 ∨ d = 5 ∨ d = 6 ∨ d = 7 ∨ d = 8 ∨ d = 9 ∨ d = 10 ∨ d = 11 ∨ d = 12 ∨ d = 13 ∨ d = 14 ∨ d = 15 by omega) with rfl | rfl | rfl | rfl | rfl | rfl | rfl | rfl | rfl | rfl | rfl | rfl | rfl | rfl | rfl | rfl <;> rfl
theorem hxb_inj (d e : Int) (h0 : 0 ≤ d) (h1 : d < 16) (g0 : 0 ≤ e) (g1 : e < 16) (h : hxb d = hxb e) : d = e := by
  have key : ∀ x : Int, 0 ≤ x → x < 16 → (hxb x).toNat = if x < 10 then 48 + x.toNat else 87 + x.toNat := by
    intro x x0 x1
    rcases (show x = 0 ∨ x = 1 ∨ x = 2 ∨ x = 3 ∨ x = 4 ∨ x = 5 ∨ x = 6 ∨ x = 7 ∨ x = 8 ∨ x = 9 ∨ x = 10 ∨ x = 11 ∨ x = 12 ∨ x = 13 ∨ x = 14 ∨ x = 15 by omega) with rfl | rfl | rfl | rfl | rfl | rfl | rfl | rfl | rfl | rfl | rfl | rfl | rfl | rfl | rfl | rfl <;> rfl
  have k1 := key d h0 h1
  have k2 := key e g0 g1
  rw [h, k2] at k1
  split at k1 <;> split at k1 <;> omega
/-- A word's j-th digit of sixteen, as a number. -/
def nib (v : Int) (j : Nat) : Int := v / 2 ^ (4 * (15 - j)) % 16
theorem nib_bd (v : Int) (j : Nat) : 0 ≤ nib v j ∧ nib v j < 16 := by
  unfold nib
  generalize v / 2 ^ (4 * (15 - j)) = u
  omega
def hexP (v : Int) (m : Nat) : List UInt8 := (List.range m).map fun j => hxb (nib v j)
/-- A word's text. -/
def hexS (v : Int) : ByteArray := ⟨(hexP v 16).toArray⟩
theorem hexP_succ (v : Int) (m : Nat) : hexP v (m + 1) = hexP v m ++ [hxb (nib v m)] := by
  unfold hexP
  rw [List.range_succ, List.map_append]
  rfl
theorem hexP_len (v : Int) (m : Nat) : (hexP v m).length = m := by simp [hexP]
theorem hexP_get (v : Int) (m j : Nat) (h : j < (hexP v m).length) : (hexP v m)[j] = hxb (nib v j) := by simp [hexP]
theorem hex_size (v : Int) : (hexS v).size = 16 := by simp [hexS, ByteArray.size, hexP]
theorem nib_step (v : Int) (m : Nat) (hm : m < 16) : v / 2 ^ (4 * (15 - m)) = 16 * (v / 2 ^ (4 * (16 - m))) + nib v m := by
  unfold nib
  rw [show 4 * (16 - m) = 4 * (15 - m) + 4 by omega, Int.pow_add, ← Int.ediv_ediv_of_nonneg (Int.le_of_lt (pow_pos (4 * (15 - m))))]
  generalize v / 2 ^ (4 * (15 - m)) = u
  show u = 16 * (u / 16) + u % 16
  omega
theorem hex_inj (a b : Int) (ha : 0 ≤ a) (ha' : a < 18446744073709551616) (hb : 0 ≤ b) (hb' : b < 18446744073709551616) (h : hexS a = hexS b) : a = b := by
  have hl : hexP a 16 = hexP b 16 := by
    have : (hexP a 16).toArray = (hexP b 16).toArray := congrArg ByteArray.data h
    simpa using this
  have hd : ∀ j, j < 16 → nib a j = nib b j := by
    intro j hj
    have e : hxb (nib a j) = hxb (nib b j) := by
      rw [← hexP_get a 16 j (by rw [hexP_len]; exact hj), ← hexP_get b 16 j (by rw [hexP_len]; exact hj)]
      simp only [hl]
    exact hxb_inj _ _ (nib_bd a j).1 (nib_bd a j).2 (nib_bd b j).1 (nib_bd b j).2 e
  have key : ∀ m, m ≤ 16 → a / 2 ^ (4 * (16 - m)) = b / 2 ^ (4 * (16 - m)) := by
    intro m
    induction m with
    | zero =>
      intro _
      show a / 18446744073709551616 = b / 18446744073709551616
      omega
    | succ m ih =>
      intro hm
      have h1 := nib_step a m (by omega)
      have h2 := nib_step b m (by omega)
      rw [show 16 - (m + 1) = 15 - m by omega, h1, h2, ih (by omega), hd m (by omega)]
  have := key 16 (Nat.le_refl _)
  simpa using this
theorem ret_s {x y : ByteArray} (h : x = y) : Ending.returned (.string x) = Ending.returned (.string y) := by rw [h]
set_option maxRecDepth 100000 in
set_option maxHeartbeats 1000000 in
theorem ref_hex (v : Int) (h : 0 ≤ v) (h' : v < 18446744073709551616) (w : World)  :
    Calls Try.prog 14 #[.int .u64 v] w fun e w' => e = .returned (.string (hexS v)) ∧ w = w' := by
  have hm15 : ∀ d, bits .and .u64 d 15 = d % 16 := fun d => u64_mask d 4 (by omega)
  go_enter Try.func14, Try.ntmps14
  go_wp2_with fail
  go_loopg [3, 4] 16 (fun n s i W => ∃ st : ByteArray, s = .string st ∧ st = ⟨(hexP v (16 - n)).toArray⟩ ∧ i = .int .i64 ((n : Int) - 1) ∧ n ≤ 16 ∧ W = w)
  case atStart => exact ⟨_, rfl, rfl, rfl, Nat.le_refl _, rfl⟩
  case round =>
    obtain ⟨st, rfl, hst, rfl, hn, rfl⟩ := hrel
    rcases Nat.eq_zero_or_pos gk with h0 | h0
    · subst h0
      have hst' : Hid (st = hexS v) := Lib.hid hst
      clear hst
      go_wp2_with fail
      go_ret
      exact ⟨ret_s hst'.out, rfl⟩
    · obtain ⟨n, rfl⟩ : ∃ n, gk = n + 1 := ⟨gk - 1, by omega⟩
      obtain ⟨d, hd⟩ : ∃ d, v / 2 ^ (4 * n) % 16 = d := ⟨_, rfl⟩
      have d0 : 0 ≤ d := by omega
      have d1 : d < 16 := by omega
      have hcut := hx_cut d d0 d1
      have hsz : st.size = 16 - (n + 1) := by rw [hst]; simp [ByteArray.size, hexP]
      have hnx : (⟨(hexP v (16 - n)).toArray⟩ : ByteArray) = st ++ ⟨#[hxb d]⟩ := by
        rw [show 16 - n = 16 - (n + 1) + 1 by omega, hexP_succ, hst, show #[hxb d] = [hxb d].toArray from rfl, ByteArray.mk_append_mk]
        have : nib v (16 - (n + 1)) = d := by unfold nib; rw [show 15 - (16 - (n + 1)) = n by omega]; exact hd
        rw [this]
      have HNX := Lib.hid hnx
      obtain ⟨i, hi⟩ : ∃ i : Int, ((n + 1 : Nat) : Int) - 1 = i := ⟨_, rfl⟩
      have hin : i = (n : Int) := by omega
      rw [hi, hin]
      have hns : ¬ (9223372036854775807 < st.size + 1) := by omega
      have hns2 : ¬ (9223372036854775807 < st.size + (min (d + 1).toNat 16 - d.toNat)) := by omega
      have hn15 : (n : Int) ≤ 15 := by omega
      have d2 : (d + 1).toNat = d.toNat + 1 := by omega
      rw [d2] at hcut
      clear hst hnx hi hin
      generalize hxb d = c at *
      go_wp2_with fail
      go_roundg n
      case measure => omega
      case rel => exact ⟨_, rfl, HNX.out.symm, by rw [Value.int.injEq]; exact ⟨rfl, by omega⟩, by omega, rfl⟩
theorem info_U8 : (Try.prog.info? 5).map (fun i => (i.zero, i.size, i.bytes)) = some (some (.int .u8 0), 1, 1) := by kernel_rfl
set_option maxRecDepth 100000 in
set_option maxHeartbeats 1000000 in
theorem id_text (v : Int) (h : 0 ≤ v) (h' : v < 18446744073709551616) (w : World)  :
    Calls Try.prog 13 #[.int .u64 v] w fun e w' => e = .returned (.string (hexS v)) ∧ Below w.heap.size w w' := by
  have hm15 : ∀ d, bits .and .u64 d 15 = d % 16 := fun d => u64_mask d 4 (by omega)
  obtain ⟨i0, hi, hz0, hz1, hz2⟩ := info_parts info_U8
  have hmk : ∀ w : World, (Instr.makeSlice 67 (.int .i64 16) (.int .i64 16)).run Try.prog w = .ok (.slice (some ⟨w.heap.size, 0, none⟩) 16 16) (w.alloc (.cells #[.int .u8 0, .int .u8 0, .int .u8 0, .int .u8 0, .int .u8 0, .int .u8 0, .int .u8 0, .int .u8 0, .int .u8 0, .int .u8 0, .int .u8 0, .int .u8 0, .int .u8 0, .int .u8 0, .int .u8 0, .int .u8 0] 5)) := by
    intro w
    have := run_make (P := Try.prog) w 67 5 i0 (.int .u8 0) Try.underlying67 hi hz0 .i64 .i64 16 16 (by decide) (by decide) (by rw [hz2]; decide) (by decide)
    rw [hz1, show madeCells (Value.int .u8 0).cells ((16 : Int).toNat * 1) = #[.int .u8 0, .int .u8 0, .int .u8 0, .int .u8 0, .int .u8 0, .int .u8 0, .int .u8 0, .int .u8 0, .int .u8 0, .int .u8 0, .int .u8 0, .int .u8 0, .int .u8 0, .int .u8 0, .int .u8 0, .int .u8 0] by kernel_rfl] at this
    exact this
  clear hi hz0 hz1 hz2
  go_enter Try.func13, Try.ntmps13
  go_wp2_with fail
  go_loopg [8] 16 (fun n i W => ∃ k : Nat, k + n = 16 ∧ i = .int .i64 (k : Int) ∧ ∃ F : Nat → Int, (∀ j : Nat, 15 < k + j → j < 16 → F j = ((hxb (nib v j)).toNat : Int)) ∧ (∀ j : Nat, j < 16 → W.cell? ⟨w.heap.size, j, none⟩ = some (.int .u8 (F j)) ∧ W.frozen? ⟨w.heap.size, j, none⟩ = false) ∧ Below w.heap.size w W)
  case atStart =>
    refine ⟨0, by omega, rfl, fun _ => 0, fun j h1 h2 => by omega, fun j hj => ?_, by repeat (first | with_reducible exact Below.refl _ _ | with_reducible refine bl_alloc ?_ _ | with_reducible refine bl_drewN ?_ _ | with_reducible refine bl_drew ?_ | (with_reducible refine bl_set ?_ ?_ _; rotate_left; focus (first | (simp; done) | (simp; omega) | omega)) | with_reducible refine below_step ?_ (Bw.below _) | with_reducible refine below_step ?_ (by assumption))⟩
    rcases (show j = 0 ∨ j = 1 ∨ j = 2 ∨ j = 3 ∨ j = 4 ∨ j = 5 ∨ j = 6 ∨ j = 7 ∨ j = 8 ∨ j = 9 ∨ j = 10 ∨ j = 11 ∨ j = 12 ∨ j = 13 ∨ j = 14 ∨ j = 15 by omega) with rfl | rfl | rfl | rfl | rfl | rfl | rfl | rfl | rfl | rfl | rfl | rfl | rfl | rfl | rfl | rfl <;> simp [go_sem]
  case round =>
    obtain ⟨k, hk, rfl, F, hF, hc, hb⟩ := hrel
    by_cases hlt : k < 16
    · have hk16 : (k : Int) < 16 := by omega
      obtain ⟨m, hm⟩ : ∃ m : Nat, (15 : Int) - (k : Int) = (m : Int) := ⟨15 - k, by omega⟩
      have hm16 : (m : Int) < 16 := by omega
      obtain ⟨d, hd⟩ : ∃ d, v / 2 ^ (4 * k) % 16 = d := ⟨_, rfl⟩
      have d0 : 0 ≤ d := by omega
      have d1 : d < 16 := by omega
      have hix := hx_lit d d0 d1
      have hnd : nib v m = d := by unfold nib; rw [show 15 - m = k by omega]; exact hd
      obtain ⟨c1, c2⟩ := hc m (by omega)
      have HC := Lib.hid hc
      have HF2 : Hid (∀ j : Nat, 15 < k + 1 + j → j < 16 → (if j = m then ((hxb d).toNat : Int) else F j) = ((hxb (nib v j)).toNat : Int)) := Lib.hid fun j j1 j2 => by
        by_cases hj : j = m
        · rw [if_pos hj, hj, hnd]
        · rw [if_neg hj]; exact hF j (by omega) j2
      have HK := Lib.hid hm
      clear hc hF hnd
      generalize hxb d = c at *
      go_wp2_with fail
      go_roundg (16 - (k + 1))
      case measure => omega
      case rel => exact ⟨k + 1, by omega, by go_num, fun j => if j = m then (c.toNat : Int) else F j, HF2.out, fun j hj => ⟨(cell_set c1).trans (by
        by_cases e : j = m
        · simp only [if_pos e]
        · simp only [if_neg e]; exact (HC.out j hj).1), (free_set _ _ _).trans (HC.out j hj).2⟩, by repeat (first | with_reducible exact Below.refl _ _ | with_reducible refine bl_alloc ?_ _ | with_reducible refine bl_drewN ?_ _ | with_reducible refine bl_drew ?_ | (with_reducible refine bl_set ?_ ?_ _; rotate_left; focus (first | (simp; done) | (simp; omega) | omega)) | with_reducible refine below_step ?_ (Bw.below _) | with_reducible refine below_step ?_ (by assumption))⟩
    · obtain rfl : k = 16 := by omega
      have hcv : (convert 67 9 (.slice (some ⟨w.heap.size, 0, none⟩) 16 16)).run Try.prog wr = .ok (.string (hexS v)) wr := by
        have := run_convert_bytes_back (P := Try.prog) wr 67 9 5 ⟨w.heap.size, 0, none⟩ 16 (hexP v 16) Try.underlying67 Try.underlying5 Try.underlying9 (fun j hj => by
          have hj' : j < 16 := by rw [hexP_len] at hj; exact hj
          rw [hexP_get, ← hF j (by omega) hj']
          have := (hc j hj').1
          have ea : (⟨w.heap.size, 0, none⟩ : Addr).add j = ⟨w.heap.size, j, none⟩ := by
            rcases Nat.eq_zero_or_pos j with e | e
            · subst e; rfl
            · have : ¬ j = 0 := by omega
              simp [Addr.add, this]
          rw [ea]
          exact this)
        rw [hexP_len] at this
        exact this
      clear hc hF
      have HS : Hid (hexS v = hexS v) := Lib.hid rfl
      go_wp2_with fail
      go_ret
      exact ⟨rfl, by repeat (first | with_reducible exact Below.refl _ _ | with_reducible refine bl_alloc ?_ _ | with_reducible refine bl_drewN ?_ _ | with_reducible refine bl_drew ?_ | (with_reducible refine bl_set ?_ ?_ _; rotate_left; focus (first | (simp; done) | (simp; omega) | omega)) | with_reducible refine below_step ?_ (Bw.below _) | with_reducible refine below_step ?_ (by assumption))⟩
end Go.Proofs.Ytmipkloleklnkaa

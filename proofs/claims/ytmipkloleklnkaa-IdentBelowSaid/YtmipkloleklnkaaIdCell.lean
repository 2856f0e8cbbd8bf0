
/- The walks of ident's Cell and of the reference's: the cell that a word says. -/
import Derived.Test.YtmipkloleklnkaaIdWord
import Derived.Deep.RegionWith
namespace Go.Proofs.Ytmipkloleklnkaa
open Go.RowKit
set_option linter.unusedSimpArgs false
set_option linter.unusedVariables false
def cR (w : Int) : Int := if wG w then wR w else 0
def cA (w : Int) : Int := if wG w then (wZ w).1 else 0
def cB (w : Int) : Int := if wG w then (wZ w).2 else 0
def cE (w : Int) : Int := if wG w then 0 else 5
theorem c_bad {w : Int} (h : wG w = false) : cR w = 0 ∧ cA w = 0 ∧ cB w = 0 ∧ cE w = 5 := by
  unfold cR cA cB cE
  rw [h]
  exact ⟨rfl, rfl, rfl, rfl⟩
theorem c_good {w : Int} (h : wG w = true) : cR w = wR w ∧ cA w = (wZ w).1 ∧ cB w = (wZ w).2 ∧ cE w = 0 := by
  unfold cR cA cB cE
  rw [h]
  exact ⟨rfl, rfl, rfl, rfl⟩
theorem ret_cell {w a b c e : Int} (h : cR w = a ∧ cA w = b ∧ cB w = c ∧ cE w = e) : Ending.returned (.tuple #[.agg #[.int .i64 a, .int .i64 b, .int .i64 c], .int .i64 e]) = Ending.returned (.tuple #[.agg #[.int .i64 (cR w), .int .i64 (cA w), .int .i64 (cB w)], .int .i64 (cE w)]) := by
  rw [h.1, h.2.1, h.2.2.1, h.2.2.2]
theorem wG_head {w : Int} (h : ¬ (w / 1152921504606846976 = 1 ∧ wR w ≤ 12)) : wG w = false := by
  unfold wG
  by_cases h1 : w / 1152921504606846976 = 1
  · rw [show decide (wR w ≤ 12) = false from decide_eq_false (fun e => h ⟨h1, e⟩), Bool.and_false, Bool.false_and]
  · rw [show decide (w / 1152921504606846976 = 1) = false from decide_eq_false h1, Bool.false_and, Bool.false_and]
theorem wG_dig {w : Int} (k : Nat) (hk : k ≤ 12) (h : gd w (wR w) k = false) : wG w = false := by
  unfold wG
  have := gd_down w (wR w) k h (12 - k)
  rw [show k + (12 - k) = 12 by omega] at this
  rw [this, Bool.and_false]
/-- The facts of a round: the digit, what it makes of what was good, where the number stands. -/
theorem cell_round (w R : Int) (k : Nat) (hk : k < 12) (hR : 0 ≤ R) (hR' : R ≤ 12) (hg : gd w R k = true) (A B : Int) (hA : -512 ≤ A ∧ A < 512) (hB : -512 ≤ B ∧ B < 512) :
    (0 ≤ fd w (k + 1) ∧ fd w (k + 1) ≤ 7) ∧ ((fd w (k + 1) = 7 ↔ R < (k : Int) + 1) → gd w R (k + 1) = true) ∧ (¬ (fd w (k + 1) = 7 ↔ R < (k : Int) + 1) → gd w R (k + 1) = false) ∧
    (k ≤ R.toNat → -1073741824 ≤ (dn A B (fd w) k).1 ∧ (dn A B (fd w) k).1 ≤ 1073741824 ∧ -1073741824 ≤ (dn A B (fd w) k).2 ∧ (dn A B (fd w) k).2 ≤ 1073741824) := by
  refine ⟨fd_bd w (k + 1), fun h => ?_, fun h => ?_, fun h => ?_⟩
  · show (gd w R k && _) = true
    rw [hg, Bool.true_and, beq_iff_eq, decide_eq_decide]
    exact h
  · show (gd w R k && _) = false
    rw [hg, Bool.true_and]
    rcases hb : (decide (fd w (k + 1) = 7) == decide (R < (k : Int) + 1)) with _ | _
    · rfl
    · exact absurd (decide_eq_decide.1 (eq_of_beq hb)) h
  · have ok := dn_ok A B (fd w) (base0_ok A B hA hB) k (by omega) fun m m1 m2 => by
      have h3 := gd_at w R k hg m m1 m2
      have h4 := fd_bd w m
      have h5 : fd w m ≠ 7 := fun e => by have := h3.1 e; omega
      omega
    obtain ⟨_, hz, _⟩ := okB_true ok
    exact zOk_true hz
set_option maxRecDepth 100000 in
set_option maxHeartbeats 8000000 in
theorem id_cell (v : Int) (hv : 0 ≤ v) (hv' : v < 18446744073709551616) (w : World) :
    Calls Try.prog 12 #[.int .u64 v] w fun e w' => e = .returned (.tuple #[.agg #[.int .i64 (cR v), .int .i64 (cA v), .int .i64 (cB v)], .int .i64 (cE v)]) ∧ Below w.heap.size w w' := by
  have hm15 : bits .and .u64 (v / 72057594037927936) 15 = wR v := u64_mask _ 4 (by omega)
  have hmA : bits .and .u64 (v / 70368744177664) 1023 = wA v + 512 := (u64_mask _ 10 (by omega)).trans (by unfold wA; omega)
  have hmB : bits .and .u64 (v / 68719476736) 1023 = wB v + 512 := (u64_mask _ 10 (by omega)).trans (by unfold wB; omega)
  have hR0 : 0 ≤ wR v := by unfold wR; omega
  have hR15 : wR v ≤ 15 := by unfold wR; omega
  have hA : -512 ≤ wA v ∧ wA v < 512 := by unfold wA; omega
  have hB : -512 ≤ wB v ∧ wB v < 512 := by unfold wB; omega
  have hA' := hA
  have hB' := hB
  have h1 : 0 ≤ v / 1152921504606846976 := by omega
  have h2 : v / 1152921504606846976 ≤ 15 := by omega
  by_cases hh : v / 1152921504606846976 = 1 ∧ wR v ≤ 12
  · obtain ⟨h60, hR12⟩ := hh
    have HB := Lib.hid (fun k hk h => c_bad (wG_dig (w := v) k hk h))
    have HGD := Lib.hid (fun (h : gd v (wR v) 12 = true) => c_good (w := v) (by unfold wG; rw [h60, h, show decide (wR v ≤ 12) = true from decide_eq_true hR12]; rfl))
    have HCR := Lib.hid (fun k hk hg => cell_round v (wR v) k hk hR0 hR12 hg (wA v) (wB v) hA hB)
    have HD := Lib.hid (fun k h1 h2 => id_digit v k h1 h2 hv hv')
    have HZ : Hid (dn (wA v) (wB v) (fd v) (wR v).toNat = wZ v) := Lib.hid rfl
    have HN : Hid (∀ k, dn (wA v) (wB v) (fd v) (k + 1) = (chX (2 * (dn (wA v) (wB v) (fd v) k).1 - (dn (wA v) (wB v) (fd v) k).2) (fd v (k + 1)).toNat, chY ((dn (wA v) (wB v) (fd v) k).1 + 3 * (dn (wA v) (wB v) (fd v) k).2) (fd v (k + 1)).toNat)) := Lib.hid fun _ => rfl
    have HD0 : Hid (dn (wA v) (wB v) (fd v) 0 = (wA v, wB v)) := Lib.hid rfl
    clear hA hB
    obtain ⟨a1, a2⟩ := hA'
    obtain ⟨b1, b2⟩ := hB'
    generalize dn (wA v) (wB v) (fd v) = D at *
    generalize wA v = A at *
    generalize wB v = B at *
    obtain ⟨R, hR⟩ : ∃ R : Nat, wR v = (R : Int) := ⟨(wR v).toNat, by omega⟩
    have HWR := Lib.hid hR
    rw [hR] at HB HGD HCR HZ hm15 hR12 hR0 hR15
    clear hR
    rw [Int.toNat_natCast] at HZ
    rw [Int.toNat_natCast] at HCR
    have hRn : R ≤ 12 := by omega
    go_enter Try.func12, Try.ntmps12
    go_wp2_with fail
    go_loopg [6] 12 (fun n i W => ∃ k : Nat, k + n = 12 ∧ i = .int .i64 ((k : Int) + 1) ∧ gd v (R : Int) k = true ∧ ∃ m x y : Int, m = ((min k R : Nat) : Int) ∧ x = (D (min k R)).1 ∧ y = (D (min k R)).2 ∧
      (W.cell? ⟨w.heap.size, 0, none⟩ = some (.int .i64 0) ∧ W.cell? ⟨w.heap.size, 1, none⟩ = some (.int .i64 0) ∧ W.cell? ⟨w.heap.size, 2, none⟩ = some (.int .i64 0)) ∧
      (W.frozen? ⟨w.heap.size, 0, none⟩ = false ∧ W.frozen? ⟨w.heap.size, 1, none⟩ = false ∧ W.frozen? ⟨w.heap.size, 2, none⟩ = false) ∧
      (W.cell? ⟨w.heap.size + 1, 0, none⟩ = some (.int .i64 m) ∧ W.cell? ⟨w.heap.size + 1, 1, none⟩ = some (.int .i64 x) ∧ W.cell? ⟨w.heap.size + 1, 2, none⟩ = some (.int .i64 y)) ∧
      (W.frozen? ⟨w.heap.size + 1, 0, none⟩ = false ∧ W.frozen? ⟨w.heap.size + 1, 1, none⟩ = false ∧ W.frozen? ⟨w.heap.size + 1, 2, none⟩ = false) ∧ Below w.heap.size w W)
    case atStart => exact ⟨0, by omega, by simp, rfl, 0, A, B, by simp, by rw [Nat.zero_min, HD0.out], by rw [Nat.zero_min, HD0.out], ⟨by simp [go_sem], by simp [go_sem], by simp [go_sem]⟩, ⟨by simp [go_sem], by simp [go_sem], by simp [go_sem]⟩, ⟨by simp [go_sem], by simp [go_sem], by simp [go_sem]⟩, ⟨by simp [go_sem], by simp [go_sem], by simp [go_sem]⟩, by repeat (first | with_reducible exact Below.refl _ _ | with_reducible refine bl_alloc ?_ _ | with_reducible refine bl_drewN ?_ _ | with_reducible refine bl_drew ?_ | (with_reducible refine bl_set ?_ ?_ _; rotate_left; focus (first | (simp; done) | (simp; omega) | omega)) | with_reducible refine below_step ?_ (Bw.below _) | with_reducible refine below_step ?_ (by assumption))⟩
    case round =>
      obtain ⟨k, hk, rfl, hg, m, x, y, hm, hx, hy, ⟨d1, d2, d3⟩, ⟨df1, df2, df3⟩, ⟨e1, e2, e3⟩, ⟨ef1, ef2, ef3⟩, hb⟩ := hrel
      by_cases hlt : k < 12
      · obtain ⟨fb, g1, g2, zb⟩ := HCR.out k hlt hg
        have HDG := HD.out (k + 1) (by omega) (by omega)
        rw [show ((k + 1 : Nat) : Int) = (k : Int) + 1 by omega] at HDG
        have HDG' := Lib.hid HDG
        obtain ⟨f1, f2⟩ := fb
        by_cases hkR : k + 1 ≤ R
        · rw [Nat.min_eq_left (by omega)] at hm hx hy
          have zb' := zb (by omega)
          rw [← hx, ← hy] at zb'
          obtain ⟨z1, z2, z3, z4⟩ := zb'
          have hle : (k : Int) + 1 ≤ (R : Int) := by omega
          have hnlt : ¬ (R : Int) < (k : Int) + 1 := by omega
          have hdec : decide ((R : Int) < (k : Int) + 1) = false := decide_eq_false hnlt
          by_cases h7 : fd v (k + 1) = 7
          · have HBk := Lib.hid (HB.out (k + 1) (by omega) (g2 (fun h => hnlt (h.1 h7))))
            rw [h7] at HDG'
            clear g1 g2 zb f1 f2 HDG hg hm hx hy h7 z1 z2 z3 z4
            go_wp2_with fail
            refine (HDG'.out _).mono ?_
            rintro e_d w_d ⟨rfl, rfl⟩
            go_wp2_with fail
            refine bodyPost_ret (v := .tuple #[.agg #[.int .i64 0, .int .i64 0, .int .i64 0], .int .i64 5]) (by simp [results, Try.results12, go_sem, d1, d2, d3]) rfl ⟨ret_cell HBk.out, by repeat (first | with_reducible exact Below.refl _ _ | with_reducible refine bl_alloc ?_ _ | with_reducible refine bl_drewN ?_ _ | with_reducible refine bl_drew ?_ | (with_reducible refine bl_set ?_ ?_ _; rotate_left; focus (first | (simp; done) | (simp; omega) | omega)) | with_reducible refine below_step ?_ (Bw.below _) | with_reducible refine below_step ?_ (by assumption))⟩
          · have hg' := Lib.hid (g1 ⟨fun h => absurd h h7, fun h => absurd h hnlt⟩)
            obtain ⟨d, hd⟩ : ∃ d : Nat, fd v (k + 1) = (d : Int) := ⟨(fd v (k + 1)).toNat, by omega⟩
            have hN := HN.out k
            rw [← hx, ← hy, hd, Int.toNat_natCast] at hN
            rw [hd] at HDG' f1 f2
            have hd6 : (d : Int) ≤ 6 := by omega
            have hm' := Lib.hid hm
            have ML := Lib.hid (eis_mul_fit x y 2 1 (2 * x - y) (x + 3 * y) (by omega) (by omega) (by omega) (by omega) (by decide) (by decide) (by decide) (by decide) (by omega) (by omega) (by omega) (by omega) (by omega) (by omega))
            rcases Nat.eq_zero_or_pos d with h0 | h0
            · subst h0
              have hN' := Lib.hid hN
              clear g1 g2 zb f1 f2 HDG hg hx hy h7 hd hm hN z1 z2 z3 z4 hd6
              generalize 2 * x - y = xx at *
              generalize x + 3 * y = yy at *
              go_wp2_with fail
              refine (HDG'.out _).mono ?_
              rintro e_d w_d ⟨rfl, rfl⟩
              go_wp2_with fail
              refine calls_start (fun V1 => V1.cell? ⟨w.heap.size, 0, none⟩ = some (.int .i64 0) ∧ V1.frozen? ⟨w.heap.size, 0, none⟩ = false ∧ V1.cell? ⟨w.heap.size, 1, none⟩ = some (.int .i64 0) ∧ V1.frozen? ⟨w.heap.size, 1, none⟩ = false ∧ V1.cell? ⟨w.heap.size, 2, none⟩ = some (.int .i64 0) ∧ V1.frozen? ⟨w.heap.size, 2, none⟩ = false ∧ V1.cell? ⟨w.heap.size + 1, 0, none⟩ = some (.int .i64 m) ∧ V1.frozen? ⟨w.heap.size + 1, 0, none⟩ = false ∧ V1.cell? ⟨w.heap.size + 1, 1, none⟩ = some (.int .i64 x) ∧ V1.frozen? ⟨w.heap.size + 1, 1, none⟩ = false ∧ V1.cell? ⟨w.heap.size + 1, 2, none⟩ = some (.int .i64 y) ∧ V1.frozen? ⟨w.heap.size + 1, 2, none⟩ = false ∧ Below w.heap.size w V1) ⟨by first | with_reducible assumption | (simp [go_sem]; done), by first | with_reducible assumption | (simp [go_sem]; done), by first | with_reducible assumption | (simp [go_sem]; done), by first | with_reducible assumption | (simp [go_sem]; done), by first | with_reducible assumption | (simp [go_sem]; done), by first | with_reducible assumption | (simp [go_sem]; done), by first | with_reducible assumption | (simp [go_sem]; done), by first | with_reducible assumption | (simp [go_sem]; done), by first | with_reducible assumption | (simp [go_sem]; done), by first | with_reducible assumption | (simp [go_sem]; done), by first | with_reducible assumption | (simp [go_sem]; done), by first | with_reducible assumption | (simp [go_sem]; done), by repeat (first | with_reducible exact Below.refl _ _ | with_reducible refine bl_alloc ?_ _ | with_reducible refine bl_drewN ?_ _ | with_reducible refine bl_drew ?_ | (with_reducible refine bl_set ?_ ?_ _; rotate_left; focus (first | (simp; done) | (simp; omega) | omega)) | with_reducible refine below_step ?_ (Bw.below _) | with_reducible refine below_step ?_ (by assumption))⟩ ?_
              rintro V1 ⟨hc1, fc1, hc2, fc2, hc3, fc3, hc4, fc4, hc5, fc5, hc6, fc6, hWc⟩ gc
              have c1 := Bw.hold hc1
              have cf1 := Bw.free hc1 fc1
              have c2 := Bw.hold hc2
              have cf2 := Bw.free hc2 fc2
              have c3 := Bw.hold hc3
              have cf3 := Bw.free hc3 fc3
              have c4 := Bw.hold hc4
              have cf4 := Bw.free hc4 fc4
              have c5 := Bw.hold hc5
              have cf5 := Bw.free hc5 fc5
              have c6 := Bw.hold hc6
              have cf6 := Bw.free hc6 fc6
              have cz1 := fun g : Bw V1 => cell_lt (c1 g)
              have cy1 := fun g : Bw V1 => Nat.le_of_lt (cz1 g)
              have cz4 := fun g : Bw V1 => cell_lt (c4 g)
              have cy4 := fun g : Bw V1 => Nat.le_of_lt (cz4 g)
              clear hc1 fc1 hc2 fc2 hc3 fc3 hc4 fc4 hc5 fc5 hc6 fc6
              clear d1 d2 d3 df1 df2 df3 e1 e2 e3 ef1 ef2 ef3 hb
              refine (ML.out _).mono ?_
              rintro e_g3 w_g3 ⟨rfl, hb_g3⟩
              obtain ⟨g3, rfl⟩ := gc.next hb_g3
              clear hb_g3
              go_wp2_with fail
              go_roundg (12 - (k + 1))
              case measure => omega
              case rel => exact ⟨k + 1, by omega, by go_num, hg'.out, (k : Int) + 1, xx, yy, by rw [Nat.min_eq_left hkR]; omega, by rw [Nat.min_eq_left hkR, hN'.out]; rfl, by rw [Nat.min_eq_left hkR, hN'.out]; rfl,
                ⟨by simp [go_sem, c1, c2, c3, cz1, cy1], by simp [go_sem, c1, c2, c3, cz1, cy1], by simp [go_sem, c1, c2, c3, cz1, cy1]⟩, ⟨by simp [go_sem, c1, c2, c3, cf1, cf2, cf3, cz1, cy1], by simp [go_sem, c1, c2, c3, cf1, cf2, cf3, cz1, cy1], by simp [go_sem, c1, c2, c3, cf1, cf2, cf3, cz1, cy1]⟩,
                ⟨by simp [go_sem, c4, c5, c6, cz4, cy4], by simp [go_sem, c4, c5, c6, cz4, cy4], by simp [go_sem, c4, c5, c6, cz4, cy4]⟩, ⟨by simp [go_sem, cf4, cf5, cf6, cz4, cy4], by simp [go_sem, cf4, cf5, cf6, cz4, cy4], by simp [go_sem, cf4, cf5, cf6, cz4, cy4]⟩, by repeat (first | with_reducible exact Below.refl _ _ | with_reducible refine bl_alloc ?_ _ | with_reducible refine bl_drewN ?_ _ | with_reducible refine bl_drew ?_ | (with_reducible refine bl_set ?_ ?_ _; rotate_left; focus (first | (simp; done) | (simp; omega) | omega)) | with_reducible refine below_step ?_ (Bw.below _) | with_reducible refine below_step ?_ (by assumption))⟩
            · obtain ⟨n, rfl⟩ : ∃ n, d = n + 1 := ⟨d - 1, by omega⟩
              obtain ⟨u1, u2, u3, u4⟩ := u_bd n
              have UN := Lib.hid (unit_is n (by omega) (uA n) (uB n) rfl rfl)
              have AD := Lib.hid (eis_add_fit (2 * x - y) (x + 3 * y) (uA n) (uB n) (2 * x - y + uA n) (x + 3 * y + uB n) (by omega) (by omega) (by omega) (by omega) (by omega) (by omega) (by omega) (by omega) (by omega) (by omega) (by omega) (by omega) rfl rfl)
              have hN1 : D (k + 1) = (2 * x - y + uA n, x + 3 * y + uB n) := hN
              have hN' := Lib.hid hN1
              have hdn : ((n + 1 : Nat) : Int) = (n : Int) + 1 := by omega
              rw [hdn] at HDG'
              have hn0 : (0 : Int) ≤ (n : Int) := by omega
              have hn5 : (n : Int) ≤ 5 := by omega
              have hg0 : (0 : Int) < (n : Int) + 1 := by omega
              have hn7 : ((n : Int) + 1 == 7) = false := by simp; omega
              have hw1 : IntKind.i64.wrap ((n : Int) + 1) = (n : Int) + 1 := by rw [IntKind.wrap_i64]; omega
              have hw2 : IntKind.i64.wrap (n : Int) = (n : Int) := by rw [IntKind.wrap_i64]; omega
              have hw3 : IntKind.i64.wrap ((n : Int) + 1 - 1) = (n : Int) := by rw [show (n : Int) + 1 - 1 = (n : Int) by omega]; exact hw2
              clear g1 g2 zb f1 f2 HDG hg hx hy h7 hd hm hN hN1 z1 z2 z3 z4 hd6 hdn u1 u2 u3 u4 h0
              generalize 2 * x - y + uA n = xn at *
              generalize x + 3 * y + uB n = yn at *
              generalize 2 * x - y = xx at *
              generalize x + 3 * y = yy at *
              generalize uA n = ux at *
              generalize uB n = uy at *
              go_wp2_with fail
              refine (HDG'.out _).mono ?_
              rintro e_d w_d ⟨rfl, rfl⟩
              go_wp2_with fail
              refine calls_start (fun V1 => V1.cell? ⟨w.heap.size, 0, none⟩ = some (.int .i64 0) ∧ V1.frozen? ⟨w.heap.size, 0, none⟩ = false ∧ V1.cell? ⟨w.heap.size, 1, none⟩ = some (.int .i64 0) ∧ V1.frozen? ⟨w.heap.size, 1, none⟩ = false ∧ V1.cell? ⟨w.heap.size, 2, none⟩ = some (.int .i64 0) ∧ V1.frozen? ⟨w.heap.size, 2, none⟩ = false ∧ V1.cell? ⟨w.heap.size + 1, 0, none⟩ = some (.int .i64 m) ∧ V1.frozen? ⟨w.heap.size + 1, 0, none⟩ = false ∧ V1.cell? ⟨w.heap.size + 1, 1, none⟩ = some (.int .i64 x) ∧ V1.frozen? ⟨w.heap.size + 1, 1, none⟩ = false ∧ V1.cell? ⟨w.heap.size + 1, 2, none⟩ = some (.int .i64 y) ∧ V1.frozen? ⟨w.heap.size + 1, 2, none⟩ = false ∧ Below w.heap.size w V1) ⟨by first | with_reducible assumption | (simp [go_sem]; done), by first | with_reducible assumption | (simp [go_sem]; done), by first | with_reducible assumption | (simp [go_sem]; done), by first | with_reducible assumption | (simp [go_sem]; done), by first | with_reducible assumption | (simp [go_sem]; done), by first | with_reducible assumption | (simp [go_sem]; done), by first | with_reducible assumption | (simp [go_sem]; done), by first | with_reducible assumption | (simp [go_sem]; done), by first | with_reducible assumption | (simp [go_sem]; done), by first | with_reducible assumption | (simp [go_sem]; done), by first | with_reducible assumption | (simp [go_sem]; done), by first | with_reducible assumption | (simp [go_sem]; done), by repeat (first | with_reducible exact Below.refl _ _ | with_reducible refine bl_alloc ?_ _ | with_reducible refine bl_drewN ?_ _ | with_reducible refine bl_drew ?_ | (with_reducible refine bl_set ?_ ?_ _; rotate_left; focus (first | (simp; done) | (simp; omega) | omega)) | with_reducible refine below_step ?_ (Bw.below _) | with_reducible refine below_step ?_ (by assumption))⟩ ?_
              rintro V1 ⟨hc1, fc1, hc2, fc2, hc3, fc3, hc4, fc4, hc5, fc5, hc6, fc6, hWc⟩ gc
              have c1 := Bw.hold hc1
              have cf1 := Bw.free hc1 fc1
              have c2 := Bw.hold hc2
              have cf2 := Bw.free hc2 fc2
              have c3 := Bw.hold hc3
              have cf3 := Bw.free hc3 fc3
              have c4 := Bw.hold hc4
              have cf4 := Bw.free hc4 fc4
              have c5 := Bw.hold hc5
              have cf5 := Bw.free hc5 fc5
              have c6 := Bw.hold hc6
              have cf6 := Bw.free hc6 fc6
              have cz1 := fun g : Bw V1 => cell_lt (c1 g)
              have cy1 := fun g : Bw V1 => Nat.le_of_lt (cz1 g)
              have cz4 := fun g : Bw V1 => cell_lt (c4 g)
              have cy4 := fun g : Bw V1 => Nat.le_of_lt (cz4 g)
              clear hc1 fc1 hc2 fc2 hc3 fc3 hc4 fc4 hc5 fc5 hc6 fc6
              clear d1 d2 d3 df1 df2 df3 e1 e2 e3 ef1 ef2 ef3 hb
              refine (ML.out _).mono ?_
              rintro e_g3 w_g3 ⟨rfl, hb_g3⟩
              obtain ⟨g3, rfl⟩ := gc.next hb_g3
              clear hb_g3
              go_wp2_with fail
              have s1 := cz1 g3
              have s2 := cz4 g3
              have s3 : ¬ w.heap.size + 1 = g3.out.heap.size := by omega
              have s4 : ¬ w.heap.size = g3.out.heap.size := by omega
              have s5 : ¬ g3.out.heap.size = w.heap.size + 1 := by omega
              have s6 : ¬ g3.out.heap.size = w.heap.size := by omega
              refine wp_start (fun V2 => V2.cell? ⟨w.heap.size, 0, none⟩ = some (.int .i64 0) ∧ V2.frozen? ⟨w.heap.size, 0, none⟩ = false ∧ V2.cell? ⟨w.heap.size, 1, none⟩ = some (.int .i64 0) ∧ V2.frozen? ⟨w.heap.size, 1, none⟩ = false ∧ V2.cell? ⟨w.heap.size, 2, none⟩ = some (.int .i64 0) ∧ V2.frozen? ⟨w.heap.size, 2, none⟩ = false ∧ V2.cell? ⟨w.heap.size + 1, 0, none⟩ = some (.int .i64 m) ∧ V2.frozen? ⟨w.heap.size + 1, 0, none⟩ = false ∧ V2.cell? ⟨w.heap.size + 1, 1, none⟩ = some (.int .i64 x) ∧ V2.frozen? ⟨w.heap.size + 1, 1, none⟩ = false ∧ V2.cell? ⟨w.heap.size + 1, 2, none⟩ = some (.int .i64 y) ∧ V2.frozen? ⟨w.heap.size + 1, 2, none⟩ = false ∧ V2.cell? ⟨g3.out.heap.size, 0, none⟩ = some (.int .i64 xx) ∧ V2.frozen? ⟨g3.out.heap.size, 0, none⟩ = false ∧ V2.cell? ⟨g3.out.heap.size, 1, none⟩ = some (.int .i64 yy) ∧ V2.frozen? ⟨g3.out.heap.size, 1, none⟩ = false ∧ Below w.heap.size w V2) ⟨by first | with_reducible assumption | (simp [go_sem]; done) | with_reducible exact hold_al c1 _ _ | with_reducible exact hold_al c2 _ _ | with_reducible exact hold_al c3 _ _ | with_reducible exact hold_al c4 _ _ | with_reducible exact hold_al c5 _ _ | with_reducible exact hold_al c6 _ _ | (simp [go_sem, c1, cf1, c2, cf2, c3, cf3, c4, cf4, c5, cf5, c6, cf6, cz1, cy1, cz4, cy4]; done), by first | with_reducible assumption | (simp [go_sem]; done) | with_reducible exact hold_alF c1 cf1 _ _ | with_reducible exact hold_alF c2 cf2 _ _ | with_reducible exact hold_alF c3 cf3 _ _ | with_reducible exact hold_alF c4 cf4 _ _ | with_reducible exact hold_alF c5 cf5 _ _ | with_reducible exact hold_alF c6 cf6 _ _ | (simp [go_sem, c1, cf1, c2, cf2, c3, cf3, c4, cf4, c5, cf5, c6, cf6, cz1, cy1, cz4, cy4]; done), by first | with_reducible assumption | (simp [go_sem]; done) | with_reducible exact hold_al c1 _ _ | with_reducible exact hold_al c2 _ _ | with_reducible exact hold_al c3 _ _ | with_reducible exact hold_al c4 _ _ | with_reducible exact hold_al c5 _ _ | with_reducible exact hold_al c6 _ _ | (simp [go_sem, c1, cf1, c2, cf2, c3, cf3, c4, cf4, c5, cf5, c6, cf6, cz1, cy1, cz4, cy4]; done), by first | with_reducible assumption | (simp [go_sem]; done) | with_reducible exact hold_alF c1 cf1 _ _ | with_reducible exact hold_alF c2 cf2 _ _ | with_reducible exact hold_alF c3 cf3 _ _ | with_reducible exact hold_alF c4 cf4 _ _ | with_reducible exact hold_alF c5 cf5 _ _ | with_reducible exact hold_alF c6 cf6 _ _ | (simp [go_sem, c1, cf1, c2, cf2, c3, cf3, c4, cf4, c5, cf5, c6, cf6, cz1, cy1, cz4, cy4]; done), by first | with_reducible assumption | (simp [go_sem]; done) | with_reducible exact hold_al c1 _ _ | with_reducible exact hold_al c2 _ _ | with_reducible exact hold_al c3 _ _ | with_reducible exact hold_al c4 _ _ | with_reducible exact hold_al c5 _ _ | with_reducible exact hold_al c6 _ _ | (simp [go_sem, c1, cf1, c2, cf2, c3, cf3, c4, cf4, c5, cf5, c6, cf6, cz1, cy1, cz4, cy4]; done), by first | with_reducible assumption | (simp [go_sem]; done) | with_reducible exact hold_alF c1 cf1 _ _ | with_reducible exact hold_alF c2 cf2 _ _ | with_reducible exact hold_alF c3 cf3 _ _ | with_reducible exact hold_alF c4 cf4 _ _ | with_reducible exact hold_alF c5 cf5 _ _ | with_reducible exact hold_alF c6 cf6 _ _ | (simp [go_sem, c1, cf1, c2, cf2, c3, cf3, c4, cf4, c5, cf5, c6, cf6, cz1, cy1, cz4, cy4]; done), by first | with_reducible assumption | (simp [go_sem]; done) | with_reducible exact hold_al c1 _ _ | with_reducible exact hold_al c2 _ _ | with_reducible exact hold_al c3 _ _ | with_reducible exact hold_al c4 _ _ | with_reducible exact hold_al c5 _ _ | with_reducible exact hold_al c6 _ _ | (simp [go_sem, c1, cf1, c2, cf2, c3, cf3, c4, cf4, c5, cf5, c6, cf6, cz1, cy1, cz4, cy4]; done), by first | with_reducible assumption | (simp [go_sem]; done) | with_reducible exact hold_alF c1 cf1 _ _ | with_reducible exact hold_alF c2 cf2 _ _ | with_reducible exact hold_alF c3 cf3 _ _ | with_reducible exact hold_alF c4 cf4 _ _ | with_reducible exact hold_alF c5 cf5 _ _ | with_reducible exact hold_alF c6 cf6 _ _ | (simp [go_sem, c1, cf1, c2, cf2, c3, cf3, c4, cf4, c5, cf5, c6, cf6, cz1, cy1, cz4, cy4]; done), by first | with_reducible assumption | (simp [go_sem]; done) | with_reducible exact hold_al c1 _ _ | with_reducible exact hold_al c2 _ _ | with_reducible exact hold_al c3 _ _ | with_reducible exact hold_al c4 _ _ | with_reducible exact hold_al c5 _ _ | with_reducible exact hold_al c6 _ _ | (simp [go_sem, c1, cf1, c2, cf2, c3, cf3, c4, cf4, c5, cf5, c6, cf6, cz1, cy1, cz4, cy4]; done), by first | with_reducible assumption | (simp [go_sem]; done) | with_reducible exact hold_alF c1 cf1 _ _ | with_reducible exact hold_alF c2 cf2 _ _ | with_reducible exact hold_alF c3 cf3 _ _ | with_reducible exact hold_alF c4 cf4 _ _ | with_reducible exact hold_alF c5 cf5 _ _ | with_reducible exact hold_alF c6 cf6 _ _ | (simp [go_sem, c1, cf1, c2, cf2, c3, cf3, c4, cf4, c5, cf5, c6, cf6, cz1, cy1, cz4, cy4]; done), by first | with_reducible assumption | (simp [go_sem]; done) | with_reducible exact hold_al c1 _ _ | with_reducible exact hold_al c2 _ _ | with_reducible exact hold_al c3 _ _ | with_reducible exact hold_al c4 _ _ | with_reducible exact hold_al c5 _ _ | with_reducible exact hold_al c6 _ _ | (simp [go_sem, c1, cf1, c2, cf2, c3, cf3, c4, cf4, c5, cf5, c6, cf6, cz1, cy1, cz4, cy4]; done), by first | with_reducible assumption | (simp [go_sem]; done) | with_reducible exact hold_alF c1 cf1 _ _ | with_reducible exact hold_alF c2 cf2 _ _ | with_reducible exact hold_alF c3 cf3 _ _ | with_reducible exact hold_alF c4 cf4 _ _ | with_reducible exact hold_alF c5 cf5 _ _ | with_reducible exact hold_alF c6 cf6 _ _ | (simp [go_sem, c1, cf1, c2, cf2, c3, cf3, c4, cf4, c5, cf5, c6, cf6, cz1, cy1, cz4, cy4]; done), by first | with_reducible assumption | (simp [go_sem]; done) | with_reducible exact hold_al c1 _ _ | with_reducible exact hold_al c2 _ _ | with_reducible exact hold_al c3 _ _ | with_reducible exact hold_al c4 _ _ | with_reducible exact hold_al c5 _ _ | with_reducible exact hold_al c6 _ _ | (simp [go_sem, c1, cf1, c2, cf2, c3, cf3, c4, cf4, c5, cf5, c6, cf6, cz1, cy1, cz4, cy4]; done), by first | with_reducible assumption | (simp [go_sem]; done) | with_reducible exact hold_alF c1 cf1 _ _ | with_reducible exact hold_alF c2 cf2 _ _ | with_reducible exact hold_alF c3 cf3 _ _ | with_reducible exact hold_alF c4 cf4 _ _ | with_reducible exact hold_alF c5 cf5 _ _ | with_reducible exact hold_alF c6 cf6 _ _ | (simp [go_sem, c1, cf1, c2, cf2, c3, cf3, c4, cf4, c5, cf5, c6, cf6, cz1, cy1, cz4, cy4]; done), by first | with_reducible assumption | (simp [go_sem]; done) | with_reducible exact hold_al c1 _ _ | with_reducible exact hold_al c2 _ _ | with_reducible exact hold_al c3 _ _ | with_reducible exact hold_al c4 _ _ | with_reducible exact hold_al c5 _ _ | with_reducible exact hold_al c6 _ _ | (simp [go_sem, c1, cf1, c2, cf2, c3, cf3, c4, cf4, c5, cf5, c6, cf6, cz1, cy1, cz4, cy4]; done), by first | with_reducible assumption | (simp [go_sem]; done) | with_reducible exact hold_alF c1 cf1 _ _ | with_reducible exact hold_alF c2 cf2 _ _ | with_reducible exact hold_alF c3 cf3 _ _ | with_reducible exact hold_alF c4 cf4 _ _ | with_reducible exact hold_alF c5 cf5 _ _ | with_reducible exact hold_alF c6 cf6 _ _ | (simp [go_sem, c1, cf1, c2, cf2, c3, cf3, c4, cf4, c5, cf5, c6, cf6, cz1, cy1, cz4, cy4]; done), by repeat (first | with_reducible exact Below.refl _ _ | with_reducible refine bl_alloc ?_ _ | with_reducible refine bl_drewN ?_ _ | with_reducible refine bl_drew ?_ | (with_reducible refine bl_set ?_ ?_ _; rotate_left; focus (first | (simp; done) | (simp; omega) | omega)) | with_reducible refine below_step ?_ (Bw.below _) | with_reducible refine below_step ?_ (by assumption))⟩ ?_
              rintro V2 ⟨hl1, fl1, hl2, fl2, hl3, fl3, hl4, fl4, hl5, fl5, hl6, fl6, hl7, fl7, hl8, fl8, hWl⟩ gl
              have l1 := Bw.hold hl1
              have lf1 := Bw.free hl1 fl1
              have l2 := Bw.hold hl2
              have lf2 := Bw.free hl2 fl2
              have l3 := Bw.hold hl3
              have lf3 := Bw.free hl3 fl3
              have l4 := Bw.hold hl4
              have lf4 := Bw.free hl4 fl4
              have l5 := Bw.hold hl5
              have lf5 := Bw.free hl5 fl5
              have l6 := Bw.hold hl6
              have lf6 := Bw.free hl6 fl6
              have l7 := Bw.hold hl7
              have lf7 := Bw.free hl7 fl7
              have l8 := Bw.hold hl8
              have lf8 := Bw.free hl8 fl8
              have lz1 := fun g : Bw V2 => cell_lt (l1 g)
              have ly1 := fun g : Bw V2 => Nat.le_of_lt (lz1 g)
              have lz4 := fun g : Bw V2 => cell_lt (l4 g)
              have ly4 := fun g : Bw V2 => Nat.le_of_lt (lz4 g)
              have lz7 := fun g : Bw V2 => cell_lt (l7 g)
              have ly7 := fun g : Bw V2 => Nat.le_of_lt (lz7 g)
              clear hl1 fl1 hl2 fl2 hl3 fl3 hl4 fl4 hl5 fl5 hl6 fl6 hl7 fl7 hl8 fl8
              clear c1 cf1 c2 cf2 c3 cf3 c4 cf4 c5 cf5 c6 cf6 cz1 cy1 cz4 cy4
              go_region_with (first
                | (go_at_call 34; with_reducible refine (UN.out _).mono ?_; rintro e w5 ⟨rfl, hb5⟩; obtain ⟨g5, rfl⟩ := bw_of (show Below V2.heap.size V2 w5 by repeat (first | with_reducible exact Below.refl _ _ | with_reducible refine bl_alloc ?_ _ | with_reducible refine bl_drewN ?_ _ | with_reducible refine bl_drew ?_ | (with_reducible refine bl_set ?_ ?_ _; rotate_left; focus (first | (simp; done) | (simp; omega) | omega)) | with_reducible refine below_step ?_ (Bw.below _) | with_reducible refine below_step ?_ (by assumption))))
                | (go_at_call 33; with_reducible refine (AD.out _).mono ?_; rintro e w6 ⟨rfl, hb6⟩; obtain ⟨g6, rfl⟩ := bw_of (show Below V2.heap.size V2 w6 by repeat (first | with_reducible exact Below.refl _ _ | with_reducible refine bl_alloc ?_ _ | with_reducible refine bl_drewN ?_ _ | with_reducible refine bl_drew ?_ | (with_reducible refine bl_set ?_ ?_ _; rotate_left; focus (first | (simp; done) | (simp; omega) | omega)) | with_reducible refine below_step ?_ (Bw.below _) | with_reducible refine below_step ?_ (by assumption)))))
              all_goals (
                go_wp2_with fail
                go_roundg (12 - (k + 1))
                case measure => omega
                case rel => exact ⟨k + 1, by omega, by go_num, hg'.out, (k : Int) + 1, xn, yn, by rw [Nat.min_eq_left hkR]; omega, by rw [Nat.min_eq_left hkR, hN'.out], by rw [Nat.min_eq_left hkR, hN'.out],
                  ⟨by simp [go_sem, l1, l2, l3, lz1, ly1], by simp [go_sem, l1, l2, l3, lz1, ly1], by simp [go_sem, l1, l2, l3, lz1, ly1]⟩, ⟨by simp [go_sem, l1, l2, l3, lf1, lf2, lf3, lz1, ly1], by simp [go_sem, l1, l2, l3, lf1, lf2, lf3, lz1, ly1], by simp [go_sem, l1, l2, l3, lf1, lf2, lf3, lz1, ly1]⟩,
                  ⟨by simp [go_sem, l4, l5, l6, lz4, ly4], by simp [go_sem, l4, l5, l6, lz4, ly4], by simp [go_sem, l4, l5, l6, lz4, ly4]⟩, ⟨by simp [go_sem, lf4, lf5, lf6, lz4, ly4], by simp [go_sem, lf4, lf5, lf6, lz4, ly4], by simp [go_sem, lf4, lf5, lf6, lz4, ly4]⟩, by repeat (first | with_reducible exact Below.refl _ _ | with_reducible refine bl_alloc ?_ _ | with_reducible refine bl_drewN ?_ _ | with_reducible refine bl_drew ?_ | (with_reducible refine bl_set ?_ ?_ _; rotate_left; focus (first | (simp; done) | (simp; omega) | omega)) | with_reducible refine below_step ?_ (Bw.below _) | with_reducible refine below_step ?_ (by assumption))⟩)
        · rw [Nat.min_eq_right (by omega)] at hm hx hy
          have hgt : (R : Int) < (k : Int) + 1 := by omega
          have hdec : decide ((R : Int) < (k : Int) + 1) = true := decide_eq_true hgt
          by_cases h7 : fd v (k + 1) = 7
          · have hg' := Lib.hid (g1 ⟨fun _ => hgt, fun _ => h7⟩)
            rw [h7] at HDG'
            have hm' := Lib.hid hm
            have hx' := Lib.hid hx
            have hy' := Lib.hid hy
            clear g1 g2 zb f1 f2 HDG hg hm hx hy h7
            go_wp2_with fail
            refine (HDG'.out _).mono ?_
            rintro e_d w_d ⟨rfl, rfl⟩
            go_wp2_with fail
            go_roundg (12 - (k + 1))
            case measure => omega
            case rel => exact ⟨k + 1, by omega, by go_num, hg'.out, m, x, y, by rw [Nat.min_eq_right (by omega)]; exact hm'.out, by rw [Nat.min_eq_right (by omega)]; exact hx'.out, by rw [Nat.min_eq_right (by omega)]; exact hy'.out, ⟨d1, d2, d3⟩, ⟨df1, df2, df3⟩, ⟨e1, e2, e3⟩, ⟨ef1, ef2, ef3⟩, hb⟩
          · have HBk := Lib.hid (HB.out (k + 1) (by omega) (g2 (fun h => h7 (h.2 hgt))))
            have hn7 : (fd v (k + 1) == 7) = false := by simp [h7]
            clear g1 g2 zb HDG hg hm hx hy h7
            generalize fd v (k + 1) = d at *
            go_wp2_with fail
            refine (HDG'.out _).mono ?_
            rintro e_d w_d ⟨rfl, rfl⟩
            go_wp2_with fail
            refine bodyPost_ret (v := .tuple #[.agg #[.int .i64 0, .int .i64 0, .int .i64 0], .int .i64 5]) (by simp [results, Try.results12, go_sem, d1, d2, d3]) rfl ⟨ret_cell HBk.out, by repeat (first | with_reducible exact Below.refl _ _ | with_reducible refine bl_alloc ?_ _ | with_reducible refine bl_drewN ?_ _ | with_reducible refine bl_drew ?_ | (with_reducible refine bl_set ?_ ?_ _; rotate_left; focus (first | (simp; done) | (simp; omega) | omega)) | with_reducible refine below_step ?_ (Bw.below _) | with_reducible refine below_step ?_ (by assumption))⟩
      · obtain rfl : k = 12 := by omega
        rw [Nat.min_eq_right hRn] at hm hx hy
        rw [HZ.out] at hx hy
        have HG := Lib.hid (HGD.out hg)
        have hx' := Lib.hid hx
        have hy' := Lib.hid hy
        have hm' := Lib.hid hm
        clear hg hm hx hy
        go_wp2_with fail
        refine bodyPost_ret (v := .tuple #[.agg #[.int .i64 m, .int .i64 x, .int .i64 y], .int .i64 0]) (by simp [results, Try.results12, go_sem, d1, d2, d3]) rfl ⟨?_, by repeat (first | with_reducible exact Below.refl _ _ | with_reducible refine bl_alloc ?_ _ | with_reducible refine bl_drewN ?_ _ | with_reducible refine bl_drew ?_ | (with_reducible refine bl_set ?_ ?_ _; rotate_left; focus (first | (simp; done) | (simp; omega) | omega)) | with_reducible refine below_step ?_ (Bw.below _) | with_reducible refine below_step ?_ (by assumption))⟩
        rw [hm'.out, hx'.out, hy'.out]
        exact ret_cell HG.out
  · have HBk := Lib.hid (c_bad (wG_head hh))
    clear hA hB hA' hB'
    by_cases h60 : v / 1152921504606846976 = 1
    · have h12 : 12 < wR v := by omega
      generalize wR v = R at *
      go_enter Try.func12, Try.ntmps12
      go_wp2_with fail
      refine bodyPost_ret (v := .tuple #[.agg #[.int .i64 0, .int .i64 0, .int .i64 0], .int .i64 5]) (by simp [results, Try.results12, go_sem]) rfl ⟨ret_cell HBk.out, by repeat (first | with_reducible exact Below.refl _ _ | with_reducible refine bl_alloc ?_ _ | with_reducible refine bl_drewN ?_ _ | with_reducible refine bl_drew ?_ | (with_reducible refine bl_set ?_ ?_ _; rotate_left; focus (first | (simp; done) | (simp; omega) | omega)) | with_reducible refine below_step ?_ (Bw.below _) | with_reducible refine below_step ?_ (by assumption))⟩
    · have q60 : (v / 1152921504606846976 == 1) = false := by simp [h60]
      generalize wR v = R at *
      go_enter Try.func12, Try.ntmps12
      go_wp2_with fail
      refine bodyPost_ret (v := .tuple #[.agg #[.int .i64 0, .int .i64 0, .int .i64 0], .int .i64 5]) (by simp [results, Try.results12, go_sem]) rfl ⟨ret_cell HBk.out, by repeat (first | with_reducible exact Below.refl _ _ | with_reducible refine bl_alloc ?_ _ | with_reducible refine bl_drewN ?_ _ | with_reducible refine bl_drew ?_ | (with_reducible refine bl_set ?_ ?_ _; rotate_left; focus (first | (simp; done) | (simp; omega) | omega)) | with_reducible refine below_step ?_ (Bw.below _) | with_reducible refine below_step ?_ (by assumption))⟩
end Go.Proofs.Ytmipkloleklnkaa

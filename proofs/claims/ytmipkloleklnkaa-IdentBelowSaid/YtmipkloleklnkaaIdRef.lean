
/- The walk of the reference's Cell. -/
import Derived.Test.YtmipkloleklnkaaIdCell
namespace Go.Proofs.Ytmipkloleklnkaa
open Go.RowKit
set_option linter.unusedSimpArgs false
set_option linter.unusedVariables false
theorem ref_unit_is (n : Nat) (hn : n < 6) (x y : Int) (hx : uA n = x) (hy : uB n = y) (w : World) :
    Calls Try.prog 37 #[.int .i64 (n : Int)] w fun e w' => e = .returned (.agg #[.int .i64 x, .int .i64 y]) ∧ Below w.heap.size w w' := by
  have h := ref_unit (n : Int) w
  rw [show (n : Int) % 6 = n by omega, hx, hy] at h
  exact h
set_option maxRecDepth 100000 in
set_option maxHeartbeats 8000000 in
theorem ref_cell (v : Int) (hv : 0 ≤ v) (hv' : v < 18446744073709551616) (w : World) :
    Calls Try.prog 27 #[.int .u64 v] w fun e w' => e = .returned (.tuple #[.agg #[.int .i64 (cR v), .int .i64 (cA v), .int .i64 (cB v)], .int .i64 (cE v)]) ∧ Below w.heap.size w w' := by
  have hm15 : bits .and .u64 (v / 72057594037927936) 15 = wR v := u64_mask _ 4 (by omega)
  have hmA : bits .and .u64 (v / 70368744177664) 1023 = wA v + 512 := (u64_mask _ 10 (by omega)).trans (by unfold wA; omega)
  have hmB : bits .and .u64 (v / 68719476736) 1023 = wB v + 512 := (u64_mask _ 10 (by omega)).trans (by unfold wB; omega)
  have hR0 : 0 ≤ wR v := by unfold wR; omega
  have hR15 : wR v ≤ 15 := by unfold wR; omega
  have hA : -512 ≤ wA v ∧ wA v < 512 := by unfold wA; omega
  have hB : -512 ≤ wB v ∧ wB v < 512 := by unfold wB; omega
  have hA' := hA
  have hB' := hB
  have h1 : 0 ≤ v / 1152921504606846976 := by omega
  have h2 : v / 1152921504606846976 ≤ 15 := by omega
  by_cases hh : v / 1152921504606846976 = 1 ∧ wR v ≤ 12
  · obtain ⟨h60, hR12⟩ := hh
    have HB := Lib.hid (fun k hk h => c_bad (wG_dig (w := v) k hk h))
    have HGD := Lib.hid (fun (h : gd v (wR v) 12 = true) => c_good (w := v) (by unfold wG; rw [h60, h, show decide (wR v ≤ 12) = true from decide_eq_true hR12]; rfl))
    have HCR := Lib.hid (fun k hk hg => cell_round v (wR v) k hk hR0 hR12 hg (wA v) (wB v) hA hB)
    have hm7 : ∀ d : Int, bits .and .u64 d 7 = d % 8 := fun d => u64_mask d 3 (by omega)
    have HZ : Hid (dn (wA v) (wB v) (fd v) (wR v).toNat = wZ v) := Lib.hid rfl
    have HN : Hid (∀ k, dn (wA v) (wB v) (fd v) (k + 1) = (chX (2 * (dn (wA v) (wB v) (fd v) k).1 - (dn (wA v) (wB v) (fd v) k).2) (fd v (k + 1)).toNat, chY ((dn (wA v) (wB v) (fd v) k).1 + 3 * (dn (wA v) (wB v) (fd v) k).2) (fd v (k + 1)).toNat)) := Lib.hid fun _ => rfl
    have HD0 : Hid (dn (wA v) (wB v) (fd v) 0 = (wA v, wB v)) := Lib.hid rfl
    clear hA hB
    obtain ⟨a1, a2⟩ := hA'
    obtain ⟨b1, b2⟩ := hB'
    generalize dn (wA v) (wB v) (fd v) = D at *
    generalize wA v = A at *
    generalize wB v = B at *
    obtain ⟨R, hR⟩ : ∃ R : Nat, wR v = (R : Int) := ⟨(wR v).toNat, by omega⟩
    have HWR := Lib.hid hR
    rw [hR] at HB HGD HCR HZ hm15 hR12 hR0 hR15
    clear hR
    rw [Int.toNat_natCast] at HZ
    rw [Int.toNat_natCast] at HCR
    have hRn : R ≤ 12 := by omega
    go_enter Try.func27, Try.ntmps27
    go_wp2_with fail
    go_loopg [6] 12 (fun n i W => ∃ k : Nat, k + n = 12 ∧ i = .int .i64 ((k : Int) + 1) ∧ gd v (R : Int) k = true ∧ ∃ x y : Int, x = (D (min k R)).1 ∧ y = (D (min k R)).2 ∧
      (W.cell? ⟨w.heap.size, 0, none⟩ = some (.int .i64 0) ∧ W.cell? ⟨w.heap.size, 1, none⟩ = some (.int .i64 0) ∧ W.cell? ⟨w.heap.size, 2, none⟩ = some (.int .i64 0)) ∧
      (W.frozen? ⟨w.heap.size, 0, none⟩ = false ∧ W.frozen? ⟨w.heap.size, 1, none⟩ = false ∧ W.frozen? ⟨w.heap.size, 2, none⟩ = false) ∧
      (W.cell? ⟨w.heap.size + 1, 0, none⟩ = some (.int .i64 x) ∧ W.cell? ⟨w.heap.size + 1, 1, none⟩ = some (.int .i64 y)) ∧
      (W.frozen? ⟨w.heap.size + 1, 0, none⟩ = false ∧ W.frozen? ⟨w.heap.size + 1, 1, none⟩ = false) ∧ Below w.heap.size w W)
    case atStart => exact ⟨0, by omega, by simp, rfl, A, B, by rw [Nat.zero_min, HD0.out], by rw [Nat.zero_min, HD0.out], ⟨by simp [go_sem], by simp [go_sem], by simp [go_sem]⟩, ⟨by simp [go_sem], by simp [go_sem], by simp [go_sem]⟩, ⟨by simp [go_sem], by simp [go_sem]⟩, ⟨by simp [go_sem], by simp [go_sem]⟩, by repeat (first | with_reducible exact Below.refl _ _ | with_reducible refine bl_alloc ?_ _ | with_reducible refine bl_drewN ?_ _ | with_reducible refine bl_drew ?_ | (with_reducible refine bl_set ?_ ?_ _; rotate_left; focus (first | (simp; done) | (simp; omega) | omega)) | with_reducible refine below_step ?_ (Bw.below _) | with_reducible refine below_step ?_ (by assumption))⟩
    case round =>
      obtain ⟨k, hk, rfl, hg, x, y, hx, hy, ⟨d1, d2, d3⟩, ⟨df1, df2, df3⟩, ⟨e1, e2⟩, ⟨ef1, ef2⟩, hb⟩ := hrel
      by_cases hlt : k < 12
      · obtain ⟨fb, g1, g2, zb⟩ := HCR.out k hlt hg
        obtain ⟨i, hi⟩ : ∃ i : Int, (k : Int) + 1 = i := ⟨_, rfl⟩
        have HFD : v / 2 ^ (36 - 3 * i).toNat % 8 = fd v (k + 1) := by
          unfold fd
          rw [show (36 - 3 * i).toNat = 36 - 3 * (k + 1) by omega]
        have i1 : 1 ≤ i := by omega
        have i12 : i ≤ 12 := by omega
        have HKI := Lib.hid hi
        rw [hi]
        obtain ⟨f1, f2⟩ := fb
        by_cases hkR : k + 1 ≤ R
        · rw [Nat.min_eq_left (by omega)] at hx hy
          have zb' := zb (by omega)
          rw [← hx, ← hy] at zb'
          obtain ⟨z1, z2, z3, z4⟩ := zb'
          have hle : i ≤ (R : Int) := by omega
          have hnlt : ¬ (R : Int) < (k : Int) + 1 := by omega
          have hdec : decide ((R : Int) < i) = false := decide_eq_false (by omega)
          by_cases h7 : fd v (k + 1) = 7
          · have HBk := Lib.hid (HB.out (k + 1) (by omega) (g2 (fun h => hnlt (h.1 h7))))
            rw [h7] at HFD
            clear g1 g2 zb f1 f2 hg hx hy h7 z1 z2 z3 z4 hnlt hi
            go_wp2_with fail
            refine bodyPost_ret (v := .tuple #[.agg #[.int .i64 0, .int .i64 0, .int .i64 0], .int .i64 5]) (by simp [results, Try.results27, go_sem, d1, d2, d3]) rfl ⟨ret_cell HBk.out, by repeat (first | with_reducible exact Below.refl _ _ | with_reducible refine bl_alloc ?_ _ | with_reducible refine bl_drewN ?_ _ | with_reducible refine bl_drew ?_ | (with_reducible refine bl_set ?_ ?_ _; rotate_left; focus (first | (simp; done) | (simp; omega) | omega)) | with_reducible refine below_step ?_ (Bw.below _) | with_reducible refine below_step ?_ (by assumption))⟩
          · have hg' := Lib.hid (g1 ⟨fun h => absurd h h7, fun h => absurd h hnlt⟩)
            obtain ⟨d, hd⟩ : ∃ d : Nat, fd v (k + 1) = (d : Int) := ⟨(fd v (k + 1)).toNat, by omega⟩
            have hN := HN.out k
            rw [← hx, ← hy, hd, Int.toNat_natCast] at hN
            rw [hd] at HFD f1 f2
            have hw0 : IntKind.i64.wrap (d : Int) = (d : Int) := by rw [IntKind.wrap_i64]; omega
            have hd6 : (d : Int) ≤ 6 := by omega
            have ML := Lib.hid (ref_mul_fit x y 2 1 (2 * x - y) (x + 3 * y) (by omega) (by omega) (by omega) (by omega) (by decide) (by decide) (by decide) (by decide) (by omega) (by omega) (by omega) (by omega) (by omega) (by omega))
            rcases Nat.eq_zero_or_pos d with h0 | h0
            · subst h0
              have hN' := Lib.hid hN
              clear g1 g2 zb f1 f2 hg hx hy h7 hd hN z1 z2 z3 z4 hd6 hnlt hi
              generalize 2 * x - y = xx at *
              generalize x + 3 * y = yy at *
              go_wp2_with fail
              refine calls_start (fun V1 => V1.cell? ⟨w.heap.size, 0, none⟩ = some (.int .i64 0) ∧ V1.frozen? ⟨w.heap.size, 0, none⟩ = false ∧ V1.cell? ⟨w.heap.size, 1, none⟩ = some (.int .i64 0) ∧ V1.frozen? ⟨w.heap.size, 1, none⟩ = false ∧ V1.cell? ⟨w.heap.size, 2, none⟩ = some (.int .i64 0) ∧ V1.frozen? ⟨w.heap.size, 2, none⟩ = false ∧ V1.cell? ⟨w.heap.size + 1, 0, none⟩ = some (.int .i64 x) ∧ V1.frozen? ⟨w.heap.size + 1, 0, none⟩ = false ∧ V1.cell? ⟨w.heap.size + 1, 1, none⟩ = some (.int .i64 y) ∧ V1.frozen? ⟨w.heap.size + 1, 1, none⟩ = false ∧ Below w.heap.size w V1) ⟨by first | with_reducible assumption | (simp [go_sem]; done), by first | with_reducible assumption | (simp [go_sem]; done), by first | with_reducible assumption | (simp [go_sem]; done), by first | with_reducible assumption | (simp [go_sem]; done), by first | with_reducible assumption | (simp [go_sem]; done), by first | with_reducible assumption | (simp [go_sem]; done), by first | with_reducible assumption | (simp [go_sem]; done), by first | with_reducible assumption | (simp [go_sem]; done), by first | with_reducible assumption | (simp [go_sem]; done), by first | with_reducible assumption | (simp [go_sem]; done), by repeat (first | with_reducible exact Below.refl _ _ | with_reducible refine bl_alloc ?_ _ | with_reducible refine bl_drewN ?_ _ | with_reducible refine bl_drew ?_ | (with_reducible refine bl_set ?_ ?_ _; rotate_left; focus (first | (simp; done) | (simp; omega) | omega)) | with_reducible refine below_step ?_ (Bw.below _) | with_reducible refine below_step ?_ (by assumption))⟩ ?_
              rintro V1 ⟨hc1, fc1, hc2, fc2, hc3, fc3, hc4, fc4, hc5, fc5, hWc⟩ gc
              have c1 := Bw.hold hc1
              have cf1 := Bw.free hc1 fc1
              have c2 := Bw.hold hc2
              have cf2 := Bw.free hc2 fc2
              have c3 := Bw.hold hc3
              have cf3 := Bw.free hc3 fc3
              have c4 := Bw.hold hc4
              have cf4 := Bw.free hc4 fc4
              have c5 := Bw.hold hc5
              have cf5 := Bw.free hc5 fc5
              have cz1 := fun g : Bw V1 => cell_lt (c1 g)
              have cy1 := fun g : Bw V1 => Nat.le_of_lt (cz1 g)
              have cz4 := fun g : Bw V1 => cell_lt (c4 g)
              have cy4 := fun g : Bw V1 => Nat.le_of_lt (cz4 g)
              clear hc1 fc1 hc2 fc2 hc3 fc3 hc4 fc4 hc5 fc5
              clear d1 d2 d3 df1 df2 df3 e1 e2 ef1 ef2 hb
              refine (ML.out _).mono ?_
              rintro e_g3 w_g3 ⟨rfl, hb_g3⟩
              obtain ⟨g3, rfl⟩ := gc.next hb_g3
              clear hb_g3
              go_wp2_with fail
              go_roundg (12 - (k + 1))
              case measure => omega
              case rel => exact ⟨k + 1, by omega, by rw [← HKI.out]; go_num, hg'.out, xx, yy, by rw [Nat.min_eq_left hkR, hN'.out]; rfl, by rw [Nat.min_eq_left hkR, hN'.out]; rfl,
                ⟨by simp [go_sem, c1, c2, c3, cz1, cy1], by simp [go_sem, c1, c2, c3, cz1, cy1], by simp [go_sem, c1, c2, c3, cz1, cy1]⟩, ⟨by simp [go_sem, c1, c2, c3, cf1, cf2, cf3, cz1, cy1], by simp [go_sem, c1, c2, c3, cf1, cf2, cf3, cz1, cy1], by simp [go_sem, c1, c2, c3, cf1, cf2, cf3, cz1, cy1]⟩,
                ⟨by simp [go_sem, c4, c5, cz4, cy4], by simp [go_sem, c4, c5, cz4, cy4]⟩, ⟨by simp [go_sem, cf4, cf5, cz4, cy4], by simp [go_sem, cf4, cf5, cz4, cy4]⟩, by repeat (first | with_reducible exact Below.refl _ _ | with_reducible refine bl_alloc ?_ _ | with_reducible refine bl_drewN ?_ _ | with_reducible refine bl_drew ?_ | (with_reducible refine bl_set ?_ ?_ _; rotate_left; focus (first | (simp; done) | (simp; omega) | omega)) | with_reducible refine below_step ?_ (Bw.below _) | with_reducible refine below_step ?_ (by assumption))⟩
            · obtain ⟨n, rfl⟩ : ∃ n, d = n + 1 := ⟨d - 1, by omega⟩
              obtain ⟨u1, u2, u3, u4⟩ := u_bd n
              have UN := Lib.hid (ref_unit_is n (by omega) (uA n) (uB n) rfl rfl)
              have b1' : -9223372036854775808 ≤ 2 * x - y + uA n := by omega
              have b2' : 2 * x - y + uA n ≤ 9223372036854775807 := by omega
              have b3' : -9223372036854775808 ≤ x + 3 * y + uB n := by omega
              have b4' : x + 3 * y + uB n ≤ 9223372036854775807 := by omega
              have hN1 : D (k + 1) = (2 * x - y + uA n, x + 3 * y + uB n) := hN
              have hN' := Lib.hid hN1
              have hdn : ((n + 1 : Nat) : Int) = (n : Int) + 1 := by omega
              rw [hdn] at HFD hw0
              have hn0 : (0 : Int) ≤ (n : Int) := by omega
              have hn5 : (n : Int) ≤ 5 := by omega
              have hg0 : (0 : Int) < (n : Int) + 1 := by omega
              have hn7 : ((n : Int) + 1 == 7) = false := by simp; omega
              have hw1 : IntKind.i64.wrap ((n : Int) + 1) = (n : Int) + 1 := by rw [IntKind.wrap_i64]; omega
              have hw2 : IntKind.i64.wrap (n : Int) = (n : Int) := by rw [IntKind.wrap_i64]; omega
              have hw3 : IntKind.i64.wrap ((n : Int) + 1 - 1) = (n : Int) := by rw [show (n : Int) + 1 - 1 = (n : Int) by omega]; exact hw2
              clear g1 g2 zb f1 f2 hg hx hy h7 hd hN hN1 z1 z2 z3 z4 hd6 hdn h0 hnlt hi
              generalize 2 * x - y = xx at *
              generalize x + 3 * y = yy at *
              generalize uA n = ux at *
              generalize uB n = uy at *
              go_wp2_with fail
              refine calls_start (fun V1 => V1.cell? ⟨w.heap.size, 0, none⟩ = some (.int .i64 0) ∧ V1.frozen? ⟨w.heap.size, 0, none⟩ = false ∧ V1.cell? ⟨w.heap.size, 1, none⟩ = some (.int .i64 0) ∧ V1.frozen? ⟨w.heap.size, 1, none⟩ = false ∧ V1.cell? ⟨w.heap.size, 2, none⟩ = some (.int .i64 0) ∧ V1.frozen? ⟨w.heap.size, 2, none⟩ = false ∧ V1.cell? ⟨w.heap.size + 1, 0, none⟩ = some (.int .i64 x) ∧ V1.frozen? ⟨w.heap.size + 1, 0, none⟩ = false ∧ V1.cell? ⟨w.heap.size + 1, 1, none⟩ = some (.int .i64 y) ∧ V1.frozen? ⟨w.heap.size + 1, 1, none⟩ = false ∧ Below w.heap.size w V1) ⟨by first | with_reducible assumption | (simp [go_sem]; done), by first | with_reducible assumption | (simp [go_sem]; done), by first | with_reducible assumption | (simp [go_sem]; done), by first | with_reducible assumption | (simp [go_sem]; done), by first | with_reducible assumption | (simp [go_sem]; done), by first | with_reducible assumption | (simp [go_sem]; done), by first | with_reducible assumption | (simp [go_sem]; done), by first | with_reducible assumption | (simp [go_sem]; done), by first | with_reducible assumption | (simp [go_sem]; done), by first | with_reducible assumption | (simp [go_sem]; done), by repeat (first | with_reducible exact Below.refl _ _ | with_reducible refine bl_alloc ?_ _ | with_reducible refine bl_drewN ?_ _ | with_reducible refine bl_drew ?_ | (with_reducible refine bl_set ?_ ?_ _; rotate_left; focus (first | (simp; done) | (simp; omega) | omega)) | with_reducible refine below_step ?_ (Bw.below _) | with_reducible refine below_step ?_ (by assumption))⟩ ?_
              rintro V1 ⟨hc1, fc1, hc2, fc2, hc3, fc3, hc4, fc4, hc5, fc5, hWc⟩ gc
              have c1 := Bw.hold hc1
              have cf1 := Bw.free hc1 fc1
              have c2 := Bw.hold hc2
              have cf2 := Bw.free hc2 fc2
              have c3 := Bw.hold hc3
              have cf3 := Bw.free hc3 fc3
              have c4 := Bw.hold hc4
              have cf4 := Bw.free hc4 fc4
              have c5 := Bw.hold hc5
              have cf5 := Bw.free hc5 fc5
              have cz1 := fun g : Bw V1 => cell_lt (c1 g)
              have cy1 := fun g : Bw V1 => Nat.le_of_lt (cz1 g)
              have cz4 := fun g : Bw V1 => cell_lt (c4 g)
              have cy4 := fun g : Bw V1 => Nat.le_of_lt (cz4 g)
              clear hc1 fc1 hc2 fc2 hc3 fc3 hc4 fc4 hc5 fc5
              clear d1 d2 d3 df1 df2 df3 e1 e2 ef1 ef2 hb
              refine (ML.out _).mono ?_
              rintro e_g3 w_g3 ⟨rfl, hb_g3⟩
              obtain ⟨g3, rfl⟩ := gc.next hb_g3
              clear hb_g3
              go_wp2_with fail
              refine calls_start (fun V2 => V2.cell? ⟨w.heap.size, 0, none⟩ = some (.int .i64 0) ∧ V2.frozen? ⟨w.heap.size, 0, none⟩ = false ∧ V2.cell? ⟨w.heap.size, 1, none⟩ = some (.int .i64 0) ∧ V2.frozen? ⟨w.heap.size, 1, none⟩ = false ∧ V2.cell? ⟨w.heap.size, 2, none⟩ = some (.int .i64 0) ∧ V2.frozen? ⟨w.heap.size, 2, none⟩ = false ∧ V2.cell? ⟨w.heap.size + 1, 0, none⟩ = some (.int .i64 xx) ∧ V2.frozen? ⟨w.heap.size + 1, 0, none⟩ = false ∧ V2.cell? ⟨w.heap.size + 1, 1, none⟩ = some (.int .i64 yy) ∧ V2.frozen? ⟨w.heap.size + 1, 1, none⟩ = false ∧ Below w.heap.size w V2) ⟨by first | with_reducible assumption | (simp [go_sem]; done) | with_reducible exact hold_al c1 _ _ | with_reducible exact hold_al c2 _ _ | with_reducible exact hold_al c3 _ _ | with_reducible exact hold_al c4 _ _ | with_reducible exact hold_al c5 _ _ | (simp [go_sem, c1, cf1, c2, cf2, c3, cf3, c4, cf4, c5, cf5, cz1, cy1, cz4, cy4]; done), by first | with_reducible assumption | (simp [go_sem]; done) | with_reducible exact hold_alF c1 cf1 _ _ | with_reducible exact hold_alF c2 cf2 _ _ | with_reducible exact hold_alF c3 cf3 _ _ | with_reducible exact hold_alF c4 cf4 _ _ | with_reducible exact hold_alF c5 cf5 _ _ | (simp [go_sem, c1, cf1, c2, cf2, c3, cf3, c4, cf4, c5, cf5, cz1, cy1, cz4, cy4]; done), by first | with_reducible assumption | (simp [go_sem]; done) | with_reducible exact hold_al c1 _ _ | with_reducible exact hold_al c2 _ _ | with_reducible exact hold_al c3 _ _ | with_reducible exact hold_al c4 _ _ | with_reducible exact hold_al c5 _ _ | (simp [go_sem, c1, cf1, c2, cf2, c3, cf3, c4, cf4, c5, cf5, cz1, cy1, cz4, cy4]; done), by first | with_reducible assumption | (simp [go_sem]; done) | with_reducible exact hold_alF c1 cf1 _ _ | with_reducible exact hold_alF c2 cf2 _ _ | with_reducible exact hold_alF c3 cf3 _ _ | with_reducible exact hold_alF c4 cf4 _ _ | with_reducible exact hold_alF c5 cf5 _ _ | (simp [go_sem, c1, cf1, c2, cf2, c3, cf3, c4, cf4, c5, cf5, cz1, cy1, cz4, cy4]; done), by first | with_reducible assumption | (simp [go_sem]; done) | with_reducible exact hold_al c1 _ _ | with_reducible exact hold_al c2 _ _ | with_reducible exact hold_al c3 _ _ | with_reducible exact hold_al c4 _ _ | with_reducible exact hold_al c5 _ _ | (simp [go_sem, c1, cf1, c2, cf2, c3, cf3, c4, cf4, c5, cf5, cz1, cy1, cz4, cy4]; done), by first | with_reducible assumption | (simp [go_sem]; done) | with_reducible exact hold_alF c1 cf1 _ _ | with_reducible exact hold_alF c2 cf2 _ _ | with_reducible exact hold_alF c3 cf3 _ _ | with_reducible exact hold_alF c4 cf4 _ _ | with_reducible exact hold_alF c5 cf5 _ _ | (simp [go_sem, c1, cf1, c2, cf2, c3, cf3, c4, cf4, c5, cf5, cz1, cy1, cz4, cy4]; done), by first | with_reducible assumption | (simp [go_sem]; done) | with_reducible exact hold_al c1 _ _ | with_reducible exact hold_al c2 _ _ | with_reducible exact hold_al c3 _ _ | with_reducible exact hold_al c4 _ _ | with_reducible exact hold_al c5 _ _ | (simp [go_sem, c1, cf1, c2, cf2, c3, cf3, c4, cf4, c5, cf5, cz1, cy1, cz4, cy4]; done), by first | with_reducible assumption | (simp [go_sem]; done) | with_reducible exact hold_alF c1 cf1 _ _ | with_reducible exact hold_alF c2 cf2 _ _ | with_reducible exact hold_alF c3 cf3 _ _ | with_reducible exact hold_alF c4 cf4 _ _ | with_reducible exact hold_alF c5 cf5 _ _ | (simp [go_sem, c1, cf1, c2, cf2, c3, cf3, c4, cf4, c5, cf5, cz1, cy1, cz4, cy4]; done), by first | with_reducible assumption | (simp [go_sem]; done) | with_reducible exact hold_al c1 _ _ | with_reducible exact hold_al c2 _ _ | with_reducible exact hold_al c3 _ _ | with_reducible exact hold_al c4 _ _ | with_reducible exact hold_al c5 _ _ | (simp [go_sem, c1, cf1, c2, cf2, c3, cf3, c4, cf4, c5, cf5, cz1, cy1, cz4, cy4]; done), by first | with_reducible assumption | (simp [go_sem]; done) | with_reducible exact hold_alF c1 cf1 _ _ | with_reducible exact hold_alF c2 cf2 _ _ | with_reducible exact hold_alF c3 cf3 _ _ | with_reducible exact hold_alF c4 cf4 _ _ | with_reducible exact hold_alF c5 cf5 _ _ | (simp [go_sem, c1, cf1, c2, cf2, c3, cf3, c4, cf4, c5, cf5, cz1, cy1, cz4, cy4]; done), by repeat (first | with_reducible exact Below.refl _ _ | with_reducible refine bl_alloc ?_ _ | with_reducible refine bl_drewN ?_ _ | with_reducible refine bl_drew ?_ | (with_reducible refine bl_set ?_ ?_ _; rotate_left; focus (first | (simp; done) | (simp; omega) | omega)) | with_reducible refine below_step ?_ (Bw.below _) | with_reducible refine below_step ?_ (by assumption))⟩ ?_
              rintro V2 ⟨hl1, fl1, hl2, fl2, hl3, fl3, hl4, fl4, hl5, fl5, hWl⟩ gl
              have l1 := Bw.hold hl1
              have lf1 := Bw.free hl1 fl1
              have l2 := Bw.hold hl2
              have lf2 := Bw.free hl2 fl2
              have l3 := Bw.hold hl3
              have lf3 := Bw.free hl3 fl3
              have l4 := Bw.hold hl4
              have lf4 := Bw.free hl4 fl4
              have l5 := Bw.hold hl5
              have lf5 := Bw.free hl5 fl5
              have lz1 := fun g : Bw V2 => cell_lt (l1 g)
              have ly1 := fun g : Bw V2 => Nat.le_of_lt (lz1 g)
              have lz4 := fun g : Bw V2 => cell_lt (l4 g)
              have ly4 := fun g : Bw V2 => Nat.le_of_lt (lz4 g)
              clear hl1 fl1 hl2 fl2 hl3 fl3 hl4 fl4 hl5 fl5
              clear c1 cf1 c2 cf2 c3 cf3 c4 cf4 c5 cf5 cz1 cy1 cz4 cy4
              refine (UN.out _).mono ?_
              rintro e_g4 w_g4 ⟨rfl, hb_g4⟩
              obtain ⟨g4, rfl⟩ := gl.next hb_g4
              clear hb_g4
              go_wp2_with fail
              go_roundg (12 - (k + 1))
              case measure => omega
              case rel => exact ⟨k + 1, by omega, by rw [← HKI.out]; go_num, hg'.out, xx + ux, yy + uy, by rw [Nat.min_eq_left hkR, hN'.out], by rw [Nat.min_eq_left hkR, hN'.out],
                ⟨by simp [go_sem, l1, l2, l3, lz1, ly1], by simp [go_sem, l1, l2, l3, lz1, ly1], by simp [go_sem, l1, l2, l3, lz1, ly1]⟩, ⟨by simp [go_sem, l1, l2, l3, lf1, lf2, lf3, lz1, ly1], by simp [go_sem, l1, l2, l3, lf1, lf2, lf3, lz1, ly1], by simp [go_sem, l1, l2, l3, lf1, lf2, lf3, lz1, ly1]⟩,
                ⟨by simp [go_sem, l4, l5, lz4, ly4], by simp [go_sem, l4, l5, lz4, ly4]⟩, ⟨by simp [go_sem, lf4, lf5, lz4, ly4], by simp [go_sem, lf4, lf5, lz4, ly4]⟩, by repeat (first | with_reducible exact Below.refl _ _ | with_reducible refine bl_alloc ?_ _ | with_reducible refine bl_drewN ?_ _ | with_reducible refine bl_drew ?_ | (with_reducible refine bl_set ?_ ?_ _; rotate_left; focus (first | (simp; done) | (simp; omega) | omega)) | with_reducible refine below_step ?_ (Bw.below _) | with_reducible refine below_step ?_ (by assumption))⟩
        · rw [Nat.min_eq_right (by omega)] at hx hy
          have hgt : (R : Int) < (k : Int) + 1 := by omega
          have hdec : decide ((R : Int) < i) = true := decide_eq_true (by omega)
          by_cases h7 : fd v (k + 1) = 7
          · have hg' := Lib.hid (g1 ⟨fun _ => hgt, fun _ => h7⟩)
            rw [h7] at HFD
            have hx' := Lib.hid hx
            have hy' := Lib.hid hy
            clear g1 g2 zb f1 f2 hg hx hy h7 hi
            go_wp2_with fail
            go_roundg (12 - (k + 1))
            case measure => omega
            case rel => exact ⟨k + 1, by omega, by rw [← HKI.out]; go_num, hg'.out, x, y, by rw [Nat.min_eq_right (by omega)]; exact hx'.out, by rw [Nat.min_eq_right (by omega)]; exact hy'.out, ⟨d1, d2, d3⟩, ⟨df1, df2, df3⟩, ⟨e1, e2⟩, ⟨ef1, ef2⟩, hb⟩
          · have HBk := Lib.hid (HB.out (k + 1) (by omega) (g2 (fun h => h7 (h.2 hgt))))
            have hn7 : (fd v (k + 1) == 7) = false := by simp [h7]
            have hw0 : IntKind.i64.wrap (fd v (k + 1)) = fd v (k + 1) := by rw [IntKind.wrap_i64]; omega
            clear g1 g2 zb hg hx hy h7 hi
            generalize fd v (k + 1) = d at *
            go_wp2_with fail
            refine bodyPost_ret (v := .tuple #[.agg #[.int .i64 0, .int .i64 0, .int .i64 0], .int .i64 5]) (by simp [results, Try.results27, go_sem, d1, d2, d3]) rfl ⟨ret_cell HBk.out, by repeat (first | with_reducible exact Below.refl _ _ | with_reducible refine bl_alloc ?_ _ | with_reducible refine bl_drewN ?_ _ | with_reducible refine bl_drew ?_ | (with_reducible refine bl_set ?_ ?_ _; rotate_left; focus (first | (simp; done) | (simp; omega) | omega)) | with_reducible refine below_step ?_ (Bw.below _) | with_reducible refine below_step ?_ (by assumption))⟩
      · obtain rfl : k = 12 := by omega
        rw [Nat.min_eq_right hRn] at hx hy
        rw [HZ.out] at hx hy
        have HG := Lib.hid (HGD.out hg)
        have hx' := Lib.hid hx
        have hy' := Lib.hid hy
        clear hg hx hy
        go_wp2_with fail
        refine bodyPost_ret (v := .tuple #[.agg #[.int .i64 (R : Int), .int .i64 x, .int .i64 y], .int .i64 0]) (by simp [results, Try.results27, go_sem, d1, d2, d3]) rfl ⟨?_, by repeat (first | with_reducible exact Below.refl _ _ | with_reducible refine bl_alloc ?_ _ | with_reducible refine bl_drewN ?_ _ | with_reducible refine bl_drew ?_ | (with_reducible refine bl_set ?_ ?_ _; rotate_left; focus (first | (simp; done) | (simp; omega) | omega)) | with_reducible refine below_step ?_ (Bw.below _) | with_reducible refine below_step ?_ (by assumption))⟩
        rw [hx'.out, hy'.out]
        exact ret_cell HG.out
  · have HBk := Lib.hid (c_bad (wG_head hh))
    clear hA hB hA' hB'
    by_cases h60 : v / 1152921504606846976 = 1
    · have h12 : 12 < wR v := by omega
      generalize wR v = R at *
      go_enter Try.func27, Try.ntmps27
      go_wp2_with fail
      refine bodyPost_ret (v := .tuple #[.agg #[.int .i64 0, .int .i64 0, .int .i64 0], .int .i64 5]) (by simp [results, Try.results27, go_sem]) rfl ⟨ret_cell HBk.out, by repeat (first | with_reducible exact Below.refl _ _ | with_reducible refine bl_alloc ?_ _ | with_reducible refine bl_drewN ?_ _ | with_reducible refine bl_drew ?_ | (with_reducible refine bl_set ?_ ?_ _; rotate_left; focus (first | (simp; done) | (simp; omega) | omega)) | with_reducible refine below_step ?_ (Bw.below _) | with_reducible refine below_step ?_ (by assumption))⟩
    · have q60 : (v / 1152921504606846976 == 1) = false := by simp [h60]
      generalize wR v = R at *
      go_enter Try.func27, Try.ntmps27
      go_wp2_with fail
      refine bodyPost_ret (v := .tuple #[.agg #[.int .i64 0, .int .i64 0, .int .i64 0], .int .i64 5]) (by simp [results, Try.results27, go_sem]) rfl ⟨ret_cell HBk.out, by repeat (first | with_reducible exact Below.refl _ _ | with_reducible refine bl_alloc ?_ _ | with_reducible refine bl_drewN ?_ _ | with_reducible refine bl_drew ?_ | (with_reducible refine bl_set ?_ ?_ _; rotate_left; focus (first | (simp; done) | (simp; omega) | omega)) | with_reducible refine below_step ?_ (Bw.below _) | with_reducible refine below_step ?_ (by assumption))⟩
end Go.Proofs.Ytmipkloleklnkaa

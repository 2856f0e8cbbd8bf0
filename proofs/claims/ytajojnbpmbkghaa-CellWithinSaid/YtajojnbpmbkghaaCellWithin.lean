/- CellWithin: a cell is within itself and what lies above it, and within nothing else of those sizes; the program's Within is the reference's. No condition. -/
import Derived.Test.YtajojnbpmbkghaaRowC
import Derived.Test.YtajojnbpmbkghaaWithin
import Derived.Test.YtajojnbpmbkghaaRefUp
namespace Go.Proofs.Ytajojnbpmbkghaa
open Go.RowKit
set_option linter.unusedSimpArgs false
set_option linter.unusedVariables false
theorem wth_yes (r a b s : Int) (n : Nat) (h1 : okB r a b = true) (hn : r - s = (n : Int)) (h2 : okB s (zz a b n).1 (zz a b n).2 = true) : wthB r a b s (zz a b n).1 (zz a b n).2 = true := by
  unfold wthB
  rw [h1, h2, hn, Int.toNat_natCast, show decide (s ≤ r) = true from decide_eq_true (by omega), show decide ((zz a b n).1 = (zz a b n).1 ∧ (zz a b n).2 = (zz a b n).2) = true from decide_eq_true ⟨rfl, rfl⟩]
  rfl
theorem wth_no (r a b s : Int) (n : Nat) (hn : r - s = (n : Int)) (c d : Int) (hc : (zz a b n).1 ≠ c) : wthB r a b s c d = false := by
  unfold wthB
  rw [hn, Int.toNat_natCast, show decide ((zz a b n).1 = c ∧ (zz a b n).2 = d) = false from decide_eq_false (fun h => hc h.1), Bool.and_false]
theorem wth_up (r a b s c d : Int) (h : r < s) : wthB r a b s c d = false := by
  unfold wthB
  rw [show decide (s ≤ r) = false from decide_eq_false (by omega), Bool.and_false, Bool.false_and]
set_option maxRecDepth 100000 in
set_option maxHeartbeats 8000000 in
theorem cellwithin_walk (x y r s c d up : Int) (hx : -9223372036854775808 ≤ x) (hx' : x ≤ 9223372036854775807) (hy : -9223372036854775808 ≤ y) (hy' : y ≤ 9223372036854775807) (hr : -9223372036854775808 ≤ r) (hr' : r ≤ 9223372036854775807) (hs : -9223372036854775808 ≤ s) (hs' : s ≤ 9223372036854775807) (hc : -9223372036854775808 ≤ c) (hc' : c ≤ 9223372036854775807) (hd : -9223372036854775808 ≤ d) (hd' : d ≤ 9223372036854775807) (hup : -9223372036854775808 ≤ up) (hup' : up ≤ 9223372036854775807) (w : World) : Calls Try.prog 4 #[.int .i64 x, .int .i64 y, .int .i64 r, .agg #[.int .i64 s, .int .i64 c, .int .i64 d], .int .i64 up] w fun e w' => e = .returned (.bool true) ∧ Below w.heap.size w w' := by
  have SM0 := law4_some x y r hx hx' hy hy' hr hr'
  generalize (r.tmod 13 + 13).tmod 13 = R at SM0
  have SM := Lib.hid SM0
  have hma : bits .and .i64 up 255 = up % 256 := i64_mask up 8 (by omega)
  have l1 : 0 ≤ up % 256 := by omega
  have l2 : up % 256 ≤ 255 := by omega
  clear SM0
  generalize up % 256 = am at *
  go_enter Try.func4, Try.ntmps4
  go_wp2_with fail
  refine calls_start (fun V => V.cell? ⟨w.heap.size, 0, none⟩ = some (.int .i64 s) ∧ V.cell? ⟨w.heap.size, 1, none⟩ = some (.int .i64 c) ∧ V.cell? ⟨w.heap.size, 2, none⟩ = some (.int .i64 d) ∧ Below w.heap.size w V) ⟨by first | with_reducible assumption | (simp [go_sem]; done), by first | with_reducible assumption | (simp [go_sem]; done), by first | with_reducible assumption | (simp [go_sem]; done), by repeat (first | with_reducible exact Below.refl _ _ | with_reducible refine bl_alloc ?_ _ | with_reducible refine bl_drewN ?_ _ | with_reducible refine bl_drew ?_ | (with_reducible refine bl_set ?_ ?_ _; rotate_left; focus (first | (simp; done) | (simp; omega) | omega)) | with_reducible refine below_step ?_ (Bw.below _) | with_reducible refine below_step ?_ (by assumption))⟩ ?_
  rintro V ⟨hta1, hta2, hta3, hWta⟩ gta
  have ta1 := Bw.hold hta1
  have ta2 := Bw.hold hta2
  have ta3 := Bw.hold hta3
  have taz1 := fun g : Bw V => cell_lt (ta1 g)
  have tay1 := fun g : Bw V => Nat.le_of_lt (taz1 g)
  clear hta1 hta2 hta3
  refine (SM.out _).mono ?_
  rintro e_h w_h ⟨ca, cb, rfl, hok, hb_h⟩
  obtain ⟨g1, rfl⟩ := gta.next hb_h
  clear hb_h
  obtain ⟨⟨r1, r2⟩, hz, _⟩ := okB_true hok
  obtain ⟨A, hA⟩ : ∃ A, am % (R + 1) = A := ⟨_, rfl⟩
  have a1 : 0 ≤ A := by rw [← hA]; exact Int.emod_nonneg _ (by omega)
  have a2 : A ≤ R := by have := Int.emod_lt_of_pos am (show 0 < R + 1 by omega); omega
  have hA' : am.tmod (R + 1) = A := by rw [Int.tmod_eq_emod_of_nonneg l1]; exact hA
  obtain ⟨n1, hn1⟩ : ∃ n : Nat, R - A = (n : Int) := ⟨(R - A).toNat, by omega⟩
  obtain ⟨n2, hn2⟩ : ∃ n : Nat, A - 0 = (n : Int) := ⟨A.toNat, by omega⟩
  have U1 := Lib.hid (cell_up R ca cb A n1 hn1 a1 hok)
  have k1 := ok_up R ca cb A n1 hok hn1 a1
  have U2 := cell_up A _ _ 0 n2 hn2 (by omega) k1
  have k2 := ok_up A _ _ 0 n2 k1 hn2 (by omega)
  have y1 := wth_yes R ca cb A n1 hok hn1 k1
  have y2 := wth_yes R ca cb R 0 hok (by omega) hok
  have y3 := wth_yes A _ _ 0 n2 k1 hn2 k2
  rw [zz_add] at U2 y3 k2
  have y4 := wth_yes R ca cb 0 (n1 + n2) hok (by omega) k2
  have y5 := wth_no R ca cb A n1 hn1 ((zz ca cb n1).1 + 1) (zz ca cb n1).2 (by omega)
  have y6 : A ≠ R → wthB A (zz ca cb n1).1 (zz ca cb n1).2 R ca cb = false := fun h => wth_up _ _ _ _ _ _ (by omega)
  obtain ⟨_, hz1, _⟩ := okB_true k1
  obtain ⟨z1, z2, _, _⟩ := zOk_true hz1
  have y2' : wthB R ca cb R ca cb = true := y2
  have C1 := cell_within R ca cb s c d
  have C2 := ref_within R ca cb s c d
  have C3 := cell_within s c d R ca cb
  have C4 := ref_within s c d R ca cb
  have C5 := cell_within R ca cb A (zz ca cb n1).1 (zz ca cb n1).2
  have C6 := cell_within R ca cb R ca cb
  have C7 := cell_within A (zz ca cb n1).1 (zz ca cb n1).2 0 (zz ca cb (n1 + n2)).1 (zz ca cb (n1 + n2)).2
  have C8 := cell_within R ca cb 0 (zz ca cb (n1 + n2)).1 (zz ca cb (n1 + n2)).2
  have C9 := cell_within R ca cb A ((zz ca cb n1).1 + 1) (zz ca cb n1).2
  have C10 := cell_within A (zz ca cb n1).1 (zz ca cb n1).2 R ca cb
  rw [y1] at C5
  rw [y2'] at C6
  rw [y3] at C7
  rw [y4] at C8
  rw [y5] at C9
  clear y1 y2 y2' y3 y4 y5 k1 k2 hz1 hz hok SM hn1 hn2
  generalize (zz ca cb (n1 + n2)).1 = p3 at *
  generalize (zz ca cb (n1 + n2)).2 = q3 at *
  generalize (zz ca cb n1).1 = p1 at *
  generalize (zz ca cb n1).2 = q1 at *
  generalize wthB R ca cb s c d = u1 at *
  generalize wthB s c d R ca cb = u2 at *
  have K1 := Lib.hid C1
  have K2 := Lib.hid C2
  have K3 := Lib.hid C3
  have K4 := Lib.hid C4
  have K5 := Lib.hid C5
  have K6 := Lib.hid C6
  have K7 := Lib.hid C7
  have K8 := Lib.hid C8
  have K9 := Lib.hid C9
  have H2 := Lib.hid U2
  clear C1 C2 C3 C4 C5 C6 C7 C8 C9 U2
  have hne : ∀ b : Bool, (b != b) = false := by decide
  go_wp2_with fail
  refine wp_start (fun V2 => V2.cell? ⟨w.heap.size, 0, none⟩ = some (.int .i64 s) ∧ V2.cell? ⟨w.heap.size, 1, none⟩ = some (.int .i64 c) ∧ V2.cell? ⟨w.heap.size, 2, none⟩ = some (.int .i64 d) ∧ V2.cell? ⟨g1.out.heap.size, 0, none⟩ = some (.int .i64 R) ∧ V2.cell? ⟨g1.out.heap.size, 1, none⟩ = some (.int .i64 ca) ∧ V2.cell? ⟨g1.out.heap.size, 2, none⟩ = some (.int .i64 cb) ∧ Below w.heap.size w V2) ⟨by first | with_reducible assumption | (simp [go_sem]; done) | with_reducible exact hold_al ta1 _ _ | with_reducible exact hold_al ta2 _ _ | with_reducible exact hold_al ta3 _ _ | (simp [go_sem, ta1, ta2, ta3, taz1, tay1]; done), by first | with_reducible assumption | (simp [go_sem]; done) | with_reducible exact hold_al ta1 _ _ | with_reducible exact hold_al ta2 _ _ | with_reducible exact hold_al ta3 _ _ | (simp [go_sem, ta1, ta2, ta3, taz1, tay1]; done), by first | with_reducible assumption | (simp [go_sem]; done) | with_reducible exact hold_al ta1 _ _ | with_reducible exact hold_al ta2 _ _ | with_reducible exact hold_al ta3 _ _ | (simp [go_sem, ta1, ta2, ta3, taz1, tay1]; done), by first | with_reducible assumption | (simp [go_sem]; done) | with_reducible exact hold_al ta1 _ _ | with_reducible exact hold_al ta2 _ _ | with_reducible exact hold_al ta3 _ _ | (simp [go_sem, ta1, ta2, ta3, taz1, tay1]; done), by first | with_reducible assumption | (simp [go_sem]; done) | with_reducible exact hold_al ta1 _ _ | with_reducible exact hold_al ta2 _ _ | with_reducible exact hold_al ta3 _ _ | (simp [go_sem, ta1, ta2, ta3, taz1, tay1]; done), by first | with_reducible assumption | (simp [go_sem]; done) | with_reducible exact hold_al ta1 _ _ | with_reducible exact hold_al ta2 _ _ | with_reducible exact hold_al ta3 _ _ | (simp [go_sem, ta1, ta2, ta3, taz1, tay1]; done), by repeat (first | with_reducible exact Below.refl _ _ | with_reducible refine bl_alloc ?_ _ | with_reducible refine bl_drewN ?_ _ | with_reducible refine bl_drew ?_ | (with_reducible refine bl_set ?_ ?_ _; rotate_left; focus (first | (simp; done) | (simp; omega) | omega)) | with_reducible refine below_step ?_ (Bw.below _) | with_reducible refine below_step ?_ (by assumption))⟩ ?_
  rintro V2 ⟨htd1, htd2, htd3, htd4, htd5, htd6, hWtd⟩ gtd
  have td1 := Bw.hold htd1
  have td2 := Bw.hold htd2
  have td3 := Bw.hold htd3
  have td4 := Bw.hold htd4
  have td5 := Bw.hold htd5
  have td6 := Bw.hold htd6
  have tdz1 := fun g : Bw V2 => cell_lt (td1 g)
  have tdy1 := fun g : Bw V2 => Nat.le_of_lt (tdz1 g)
  have tdz4 := fun g : Bw V2 => cell_lt (td4 g)
  have tdy4 := fun g : Bw V2 => Nat.le_of_lt (tdz4 g)
  clear htd1 htd2 htd3 htd4 htd5 htd6
  clear ta1 ta2 ta3 taz1 tay1
  refine wp_region_bw (by kernel_rfl) (by kernel_rfl) gtd ?_
  repeat (go_big_quiet_step ((first
    | (go_at_call 16; first | with_reducible exact bw_call (K1.out _) | with_reducible exact bw_call (K3.out _))
    | (go_at_call 17; first | with_reducible exact bw_call (K2.out _) | with_reducible exact bw_call (K4.out _)))))
  refine wpQuiet_nil ?_
  rintro _ ⟨g3, rfl⟩
  go_wp2_with fail
  refine (U1.out _).mono ?_
  rintro e_g4 w_g4 ⟨rfl, hb_g4⟩
  obtain ⟨g4, rfl⟩ := g3.next hb_g4
  clear hb_g4
  go_wp2_with fail
  refine calls_start (fun V3 => V3.cell? ⟨w.heap.size, 0, none⟩ = some (.int .i64 s) ∧ V3.cell? ⟨w.heap.size, 1, none⟩ = some (.int .i64 c) ∧ V3.cell? ⟨w.heap.size, 2, none⟩ = some (.int .i64 d) ∧ V3.cell? ⟨g1.out.heap.size, 0, none⟩ = some (.int .i64 R) ∧ V3.cell? ⟨g1.out.heap.size, 1, none⟩ = some (.int .i64 ca) ∧ V3.cell? ⟨g1.out.heap.size, 2, none⟩ = some (.int .i64 cb) ∧ V3.cell? ⟨g4.out.heap.size, 0, none⟩ = some (.int .i64 A) ∧ V3.cell? ⟨g4.out.heap.size, 1, none⟩ = some (.int .i64 p1) ∧ V3.cell? ⟨g4.out.heap.size, 2, none⟩ = some (.int .i64 q1) ∧ Below w.heap.size w V3) ⟨by first | with_reducible assumption | (simp [go_sem]; done) | with_reducible exact hold_al td1 _ _ | with_reducible exact hold_al td2 _ _ | with_reducible exact hold_al td3 _ _ | with_reducible exact hold_al td4 _ _ | with_reducible exact hold_al td5 _ _ | with_reducible exact hold_al td6 _ _ | (simp [go_sem, td1, td2, td3, td4, td5, td6, tdz1, tdy1, tdz4, tdy4]; done), by first | with_reducible assumption | (simp [go_sem]; done) | with_reducible exact hold_al td1 _ _ | with_reducible exact hold_al td2 _ _ | with_reducible exact hold_al td3 _ _ | with_reducible exact hold_al td4 _ _ | with_reducible exact hold_al td5 _ _ | with_reducible exact hold_al td6 _ _ | (simp [go_sem, td1, td2, td3, td4, td5, td6, tdz1, tdy1, tdz4, tdy4]; done), by first | with_reducible assumption | (simp [go_sem]; done) | with_reducible exact hold_al td1 _ _ | with_reducible exact hold_al td2 _ _ | with_reducible exact hold_al td3 _ _ | with_reducible exact hold_al td4 _ _ | with_reducible exact hold_al td5 _ _ | with_reducible exact hold_al td6 _ _ | (simp [go_sem, td1, td2, td3, td4, td5, td6, tdz1, tdy1, tdz4, tdy4]; done), by first | with_reducible assumption | (simp [go_sem]; done) | with_reducible exact hold_al td1 _ _ | with_reducible exact hold_al td2 _ _ | with_reducible exact hold_al td3 _ _ | with_reducible exact hold_al td4 _ _ | with_reducible exact hold_al td5 _ _ | with_reducible exact hold_al td6 _ _ | (simp [go_sem, td1, td2, td3, td4, td5, td6, tdz1, tdy1, tdz4, tdy4]; done), by first | with_reducible assumption | (simp [go_sem]; done) | with_reducible exact hold_al td1 _ _ | with_reducible exact hold_al td2 _ _ | with_reducible exact hold_al td3 _ _ | with_reducible exact hold_al td4 _ _ | with_reducible exact hold_al td5 _ _ | with_reducible exact hold_al td6 _ _ | (simp [go_sem, td1, td2, td3, td4, td5, td6, tdz1, tdy1, tdz4, tdy4]; done), by first | with_reducible assumption | (simp [go_sem]; done) | with_reducible exact hold_al td1 _ _ | with_reducible exact hold_al td2 _ _ | with_reducible exact hold_al td3 _ _ | with_reducible exact hold_al td4 _ _ | with_reducible exact hold_al td5 _ _ | with_reducible exact hold_al td6 _ _ | (simp [go_sem, td1, td2, td3, td4, td5, td6, tdz1, tdy1, tdz4, tdy4]; done), by first | with_reducible assumption | (simp [go_sem]; done) | with_reducible exact hold_al td1 _ _ | with_reducible exact hold_al td2 _ _ | with_reducible exact hold_al td3 _ _ | with_reducible exact hold_al td4 _ _ | with_reducible exact hold_al td5 _ _ | with_reducible exact hold_al td6 _ _ | (simp [go_sem, td1, td2, td3, td4, td5, td6, tdz1, tdy1, tdz4, tdy4]; done), by first | with_reducible assumption | (simp [go_sem]; done) | with_reducible exact hold_al td1 _ _ | with_reducible exact hold_al td2 _ _ | with_reducible exact hold_al td3 _ _ | with_reducible exact hold_al td4 _ _ | with_reducible exact hold_al td5 _ _ | with_reducible exact hold_al td6 _ _ | (simp [go_sem, td1, td2, td3, td4, td5, td6, tdz1, tdy1, tdz4, tdy4]; done), by first | with_reducible assumption | (simp [go_sem]; done) | with_reducible exact hold_al td1 _ _ | with_reducible exact hold_al td2 _ _ | with_reducible exact hold_al td3 _ _ | with_reducible exact hold_al td4 _ _ | with_reducible exact hold_al td5 _ _ | with_reducible exact hold_al td6 _ _ | (simp [go_sem, td1, td2, td3, td4, td5, td6, tdz1, tdy1, tdz4, tdy4]; done), by repeat (first | with_reducible exact Below.refl _ _ | with_reducible refine bl_alloc ?_ _ | with_reducible refine bl_drewN ?_ _ | with_reducible refine bl_drew ?_ | (with_reducible refine bl_set ?_ ?_ _; rotate_left; focus (first | (simp; done) | (simp; omega) | omega)) | with_reducible refine below_step ?_ (Bw.below _) | with_reducible refine below_step ?_ (by assumption))⟩ ?_
  rintro V3 ⟨hte1, hte2, hte3, hte4, hte5, hte6, hte7, hte8, hte9, hWte⟩ gte
  have te1 := Bw.hold hte1
  have te2 := Bw.hold hte2
  have te3 := Bw.hold hte3
  have te4 := Bw.hold hte4
  have te5 := Bw.hold hte5
  have te6 := Bw.hold hte6
  have te7 := Bw.hold hte7
  have te8 := Bw.hold hte8
  have te9 := Bw.hold hte9
  have tez1 := fun g : Bw V3 => cell_lt (te1 g)
  have tey1 := fun g : Bw V3 => Nat.le_of_lt (tez1 g)
  have tez4 := fun g : Bw V3 => cell_lt (te4 g)
  have tey4 := fun g : Bw V3 => Nat.le_of_lt (tez4 g)
  have tez7 := fun g : Bw V3 => cell_lt (te7 g)
  have tey7 := fun g : Bw V3 => Nat.le_of_lt (tez7 g)
  clear hte1 hte2 hte3 hte4 hte5 hte6 hte7 hte8 hte9
  clear td1 td2 td3 td4 td5 td6 tdz1 tdy1 tdz4 tdy4
  refine (H2.out _).mono ?_
  rintro e_g5 w_g5 ⟨rfl, hb_g5⟩
  obtain ⟨g5, rfl⟩ := gte.next hb_g5
  clear hb_g5
  go_wp2_with fail
  refine calls_start (fun V4 => V4.cell? ⟨w.heap.size, 0, none⟩ = some (.int .i64 s) ∧ V4.cell? ⟨w.heap.size, 1, none⟩ = some (.int .i64 c) ∧ V4.cell? ⟨w.heap.size, 2, none⟩ = some (.int .i64 d) ∧ V4.cell? ⟨g1.out.heap.size, 0, none⟩ = some (.int .i64 R) ∧ V4.cell? ⟨g1.out.heap.size, 1, none⟩ = some (.int .i64 ca) ∧ V4.cell? ⟨g1.out.heap.size, 2, none⟩ = some (.int .i64 cb) ∧ V4.cell? ⟨g4.out.heap.size, 0, none⟩ = some (.int .i64 A) ∧ V4.cell? ⟨g4.out.heap.size, 1, none⟩ = some (.int .i64 p1) ∧ V4.cell? ⟨g4.out.heap.size, 2, none⟩ = some (.int .i64 q1) ∧ V4.cell? ⟨g5.out.heap.size, 0, none⟩ = some (.int .i64 0) ∧ V4.cell? ⟨g5.out.heap.size, 1, none⟩ = some (.int .i64 p3) ∧ V4.cell? ⟨g5.out.heap.size, 2, none⟩ = some (.int .i64 q3) ∧ V4.cell? ⟨g5.out.heap.size + 1, 0, none⟩ = some (.int .i64 A) ∧ V4.cell? ⟨g5.out.heap.size + 1, 1, none⟩ = some (.int .i64 (p1 + 1)) ∧ V4.cell? ⟨g5.out.heap.size + 1, 2, none⟩ = some (.int .i64 q1) ∧ Below w.heap.size w V4) ⟨by first | with_reducible assumption | (simp [go_sem]; done) | with_reducible exact hold_al te1 _ _ | with_reducible exact hold_al te2 _ _ | with_reducible exact hold_al te3 _ _ | with_reducible exact hold_al te4 _ _ | with_reducible exact hold_al te5 _ _ | with_reducible exact hold_al te6 _ _ | with_reducible exact hold_al te7 _ _ | with_reducible exact hold_al te8 _ _ | with_reducible exact hold_al te9 _ _ | (simp [go_sem, te1, te2, te3, te4, te5, te6, te7, te8, te9, tez1, tey1, tez4, tey4, tez7, tey7]; done), by first | with_reducible assumption | (simp [go_sem]; done) | with_reducible exact hold_al te1 _ _ | with_reducible exact hold_al te2 _ _ | with_reducible exact hold_al te3 _ _ | with_reducible exact hold_al te4 _ _ | with_reducible exact hold_al te5 _ _ | with_reducible exact hold_al te6 _ _ | with_reducible exact hold_al te7 _ _ | with_reducible exact hold_al te8 _ _ | with_reducible exact hold_al te9 _ _ | (simp [go_sem, te1, te2, te3, te4, te5, te6, te7, te8, te9, tez1, tey1, tez4, tey4, tez7, tey7]; done), by first | with_reducible assumption | (simp [go_sem]; done) | with_reducible exact hold_al te1 _ _ | with_reducible exact hold_al te2 _ _ | with_reducible exact hold_al te3 _ _ | with_reducible exact hold_al te4 _ _ | with_reducible exact hold_al te5 _ _ | with_reducible exact hold_al te6 _ _ | with_reducible exact hold_al te7 _ _ | with_reducible exact hold_al te8 _ _ | with_reducible exact hold_al te9 _ _ | (simp [go_sem, te1, te2, te3, te4, te5, te6, te7, te8, te9, tez1, tey1, tez4, tey4, tez7, tey7]; done), by first | with_reducible assumption | (simp [go_sem]; done) | with_reducible exact hold_al te1 _ _ | with_reducible exact hold_al te2 _ _ | with_reducible exact hold_al te3 _ _ | with_reducible exact hold_al te4 _ _ | with_reducible exact hold_al te5 _ _ | with_reducible exact hold_al te6 _ _ | with_reducible exact hold_al te7 _ _ | with_reducible exact hold_al te8 _ _ | with_reducible exact hold_al te9 _ _ | (simp [go_sem, te1, te2, te3, te4, te5, te6, te7, te8, te9, tez1, tey1, tez4, tey4, tez7, tey7]; done), by first | with_reducible assumption | (simp [go_sem]; done) | with_reducible exact hold_al te1 _ _ | with_reducible exact hold_al te2 _ _ | with_reducible exact hold_al te3 _ _ | with_reducible exact hold_al te4 _ _ | with_reducible exact hold_al te5 _ _ | with_reducible exact hold_al te6 _ _ | with_reducible exact hold_al te7 _ _ | with_reducible exact hold_al te8 _ _ | with_reducible exact hold_al te9 _ _ | (simp [go_sem, te1, te2, te3, te4, te5, te6, te7, te8, te9, tez1, tey1, tez4, tey4, tez7, tey7]; done), by first | with_reducible assumption | (simp [go_sem]; done) | with_reducible exact hold_al te1 _ _ | with_reducible exact hold_al te2 _ _ | with_reducible exact hold_al te3 _ _ | with_reducible exact hold_al te4 _ _ | with_reducible exact hold_al te5 _ _ | with_reducible exact hold_al te6 _ _ | with_reducible exact hold_al te7 _ _ | with_reducible exact hold_al te8 _ _ | with_reducible exact hold_al te9 _ _ | (simp [go_sem, te1, te2, te3, te4, te5, te6, te7, te8, te9, tez1, tey1, tez4, tey4, tez7, tey7]; done), by first | with_reducible assumption | (simp [go_sem]; done) | with_reducible exact hold_al te1 _ _ | with_reducible exact hold_al te2 _ _ | with_reducible exact hold_al te3 _ _ | with_reducible exact hold_al te4 _ _ | with_reducible exact hold_al te5 _ _ | with_reducible exact hold_al te6 _ _ | with_reducible exact hold_al te7 _ _ | with_reducible exact hold_al te8 _ _ | with_reducible exact hold_al te9 _ _ | (simp [go_sem, te1, te2, te3, te4, te5, te6, te7, te8, te9, tez1, tey1, tez4, tey4, tez7, tey7]; done), by first | with_reducible assumption | (simp [go_sem]; done) | with_reducible exact hold_al te1 _ _ | with_reducible exact hold_al te2 _ _ | with_reducible exact hold_al te3 _ _ | with_reducible exact hold_al te4 _ _ | with_reducible exact hold_al te5 _ _ | with_reducible exact hold_al te6 _ _ | with_reducible exact hold_al te7 _ _ | with_reducible exact hold_al te8 _ _ | with_reducible exact hold_al te9 _ _ | (simp [go_sem, te1, te2, te3, te4, te5, te6, te7, te8, te9, tez1, tey1, tez4, tey4, tez7, tey7]; done), by first | with_reducible assumption | (simp [go_sem]; done) | with_reducible exact hold_al te1 _ _ | with_reducible exact hold_al te2 _ _ | with_reducible exact hold_al te3 _ _ | with_reducible exact hold_al te4 _ _ | with_reducible exact hold_al te5 _ _ | with_reducible exact hold_al te6 _ _ | with_reducible exact hold_al te7 _ _ | with_reducible exact hold_al te8 _ _ | with_reducible exact hold_al te9 _ _ | (simp [go_sem, te1, te2, te3, te4, te5, te6, te7, te8, te9, tez1, tey1, tez4, tey4, tez7, tey7]; done), by first | with_reducible assumption | (simp [go_sem]; done) | with_reducible exact hold_al te1 _ _ | with_reducible exact hold_al te2 _ _ | with_reducible exact hold_al te3 _ _ | with_reducible exact hold_al te4 _ _ | with_reducible exact hold_al te5 _ _ | with_reducible exact hold_al te6 _ _ | with_reducible exact hold_al te7 _ _ | with_reducible exact hold_al te8 _ _ | with_reducible exact hold_al te9 _ _ | (simp [go_sem, te1, te2, te3, te4, te5, te6, te7, te8, te9, tez1, tey1, tez4, tey4, tez7, tey7]; done), by first | with_reducible assumption | (simp [go_sem]; done) | with_reducible exact hold_al te1 _ _ | with_reducible exact hold_al te2 _ _ | with_reducible exact hold_al te3 _ _ | with_reducible exact hold_al te4 _ _ | with_reducible exact hold_al te5 _ _ | with_reducible exact hold_al te6 _ _ | with_reducible exact hold_al te7 _ _ | with_reducible exact hold_al te8 _ _ | with_reducible exact hold_al te9 _ _ | (simp [go_sem, te1, te2, te3, te4, te5, te6, te7, te8, te9, tez1, tey1, tez4, tey4, tez7, tey7]; done), by first | with_reducible assumption | (simp [go_sem]; done) | with_reducible exact hold_al te1 _ _ | with_reducible exact hold_al te2 _ _ | with_reducible exact hold_al te3 _ _ | with_reducible exact hold_al te4 _ _ | with_reducible exact hold_al te5 _ _ | with_reducible exact hold_al te6 _ _ | with_reducible exact hold_al te7 _ _ | with_reducible exact hold_al te8 _ _ | with_reducible exact hold_al te9 _ _ | (simp [go_sem, te1, te2, te3, te4, te5, te6, te7, te8, te9, tez1, tey1, tez4, tey4, tez7, tey7]; done), by first | with_reducible assumption | (simp [go_sem]; done) | with_reducible exact hold_al te1 _ _ | with_reducible exact hold_al te2 _ _ | with_reducible exact hold_al te3 _ _ | with_reducible exact hold_al te4 _ _ | with_reducible exact hold_al te5 _ _ | with_reducible exact hold_al te6 _ _ | with_reducible exact hold_al te7 _ _ | with_reducible exact hold_al te8 _ _ | with_reducible exact hold_al te9 _ _ | (simp [go_sem, te1, te2, te3, te4, te5, te6, te7, te8, te9, tez1, tey1, tez4, tey4, tez7, tey7]; done), by first | with_reducible assumption | (simp [go_sem]; done) | with_reducible exact hold_al te1 _ _ | with_reducible exact hold_al te2 _ _ | with_reducible exact hold_al te3 _ _ | with_reducible exact hold_al te4 _ _ | with_reducible exact hold_al te5 _ _ | with_reducible exact hold_al te6 _ _ | with_reducible exact hold_al te7 _ _ | with_reducible exact hold_al te8 _ _ | with_reducible exact hold_al te9 _ _ | (simp [go_sem, te1, te2, te3, te4, te5, te6, te7, te8, te9, tez1, tey1, tez4, tey4, tez7, tey7]; done), by first | with_reducible assumption | (simp [go_sem]; done) | with_reducible exact hold_al te1 _ _ | with_reducible exact hold_al te2 _ _ | with_reducible exact hold_al te3 _ _ | with_reducible exact hold_al te4 _ _ | with_reducible exact hold_al te5 _ _ | with_reducible exact hold_al te6 _ _ | with_reducible exact hold_al te7 _ _ | with_reducible exact hold_al te8 _ _ | with_reducible exact hold_al te9 _ _ | (simp [go_sem, te1, te2, te3, te4, te5, te6, te7, te8, te9, tez1, tey1, tez4, tey4, tez7, tey7]; done), by repeat (first | with_reducible exact Below.refl _ _ | with_reducible refine bl_alloc ?_ _ | with_reducible refine bl_drewN ?_ _ | with_reducible refine bl_drew ?_ | (with_reducible refine bl_set ?_ ?_ _; rotate_left; focus (first | (simp; done) | (simp; omega) | omega)) | with_reducible refine below_step ?_ (Bw.below _) | with_reducible refine below_step ?_ (by assumption))⟩ ?_
  rintro V4 ⟨htf1, htf2, htf3, htf4, htf5, htf6, htf7, htf8, htf9, htf10, htf11, htf12, htf13, htf14, htf15, hWtf⟩ gtf
  have tf1 := Bw.hold htf1
  have tf2 := Bw.hold htf2
  have tf3 := Bw.hold htf3
  have tf4 := Bw.hold htf4
  have tf5 := Bw.hold htf5
  have tf6 := Bw.hold htf6
  have tf7 := Bw.hold htf7
  have tf8 := Bw.hold htf8
  have tf9 := Bw.hold htf9
  have tf10 := Bw.hold htf10
  have tf11 := Bw.hold htf11
  have tf12 := Bw.hold htf12
  have tf13 := Bw.hold htf13
  have tf14 := Bw.hold htf14
  have tf15 := Bw.hold htf15
  have tfz1 := fun g : Bw V4 => cell_lt (tf1 g)
  have tfy1 := fun g : Bw V4 => Nat.le_of_lt (tfz1 g)
  have tfz4 := fun g : Bw V4 => cell_lt (tf4 g)
  have tfy4 := fun g : Bw V4 => Nat.le_of_lt (tfz4 g)
  have tfz7 := fun g : Bw V4 => cell_lt (tf7 g)
  have tfy7 := fun g : Bw V4 => Nat.le_of_lt (tfz7 g)
  have tfz10 := fun g : Bw V4 => cell_lt (tf10 g)
  have tfy10 := fun g : Bw V4 => Nat.le_of_lt (tfz10 g)
  have tfz13 := fun g : Bw V4 => cell_lt (tf13 g)
  have tfy13 := fun g : Bw V4 => Nat.le_of_lt (tfz13 g)
  clear htf1 htf2 htf3 htf4 htf5 htf6 htf7 htf8 htf9 htf10 htf11 htf12 htf13 htf14 htf15
  clear te1 te2 te3 te4 te5 te6 te7 te8 te9 tez1 tey1 tez4 tey4 tez7 tey7
  refine (K5.out _).mono ?_
  rintro e_g6 w_g6 ⟨rfl, hb_g6⟩
  obtain ⟨g6, rfl⟩ := gtf.next hb_g6
  clear hb_g6
  go_wp2_with fail
  refine (K6.out _).mono ?_
  rintro e_g7 w_g7 ⟨rfl, hb_g7⟩
  obtain ⟨g7, rfl⟩ := g6.next hb_g7
  clear hb_g7
  go_wp2_with fail
  refine (K7.out _).mono ?_
  rintro e_g8 w_g8 ⟨rfl, hb_g8⟩
  obtain ⟨g8, rfl⟩ := g7.next hb_g8
  clear hb_g8
  go_wp2_with fail
  refine (K8.out _).mono ?_
  rintro e_g9 w_g9 ⟨rfl, hb_g9⟩
  obtain ⟨g9, rfl⟩ := g8.next hb_g9
  clear hb_g9
  go_wp2_with fail
  rcases (show A = R ∨ A ≠ R by omega) with hAR | hAR
  · have e1 : (A == R) = true := by simp [hAR]
    clear hAR y6
    refine (K9.out _).mono ?_
    rintro e_g10 w_g10 ⟨rfl, hb_g10⟩
    obtain ⟨g10, rfl⟩ := g9.next hb_g10
    clear hb_g10
    go_wp2_with fail
    refine (awake4 _).mono ?_
    rintro e_g11 w_g11 ⟨rfl, hb_g11⟩
    obtain ⟨g11, rfl⟩ := g10.next hb_g11
    clear hb_g11
    go_wp2_with fail
    go_ret
    exact ⟨rfl, by repeat (first | with_reducible exact Below.refl _ _ | with_reducible refine bl_alloc ?_ _ | with_reducible refine bl_drewN ?_ _ | with_reducible refine bl_drew ?_ | (with_reducible refine bl_set ?_ ?_ _; rotate_left; focus (first | (simp; done) | (simp; omega) | omega)) | with_reducible refine below_step ?_ (Bw.below _) | with_reducible refine below_step ?_ (by assumption))⟩
  · have e1 : (A == R) = false := by simp [hAR]
    rw [y6 hAR] at C10
    have K10 := Lib.hid C10
    clear C10 hAR y6
    refine (K9.out _).mono ?_
    rintro e_g10 w_g10 ⟨rfl, hb_g10⟩
    obtain ⟨g10, rfl⟩ := g9.next hb_g10
    clear hb_g10
    go_wp2_with fail
    refine (K10.out _).mono ?_
    rintro e_g11 w_g11 ⟨rfl, hb_g11⟩
    obtain ⟨g11, rfl⟩ := g10.next hb_g11
    clear hb_g11
    go_wp2_with fail
    refine (awake4 _).mono ?_
    rintro e_g12 w_g12 ⟨rfl, hb_g12⟩
    obtain ⟨g12, rfl⟩ := g11.next hb_g12
    clear hb_g12
    go_wp2_with fail
    go_ret
    exact ⟨rfl, by repeat (first | with_reducible exact Below.refl _ _ | with_reducible refine bl_alloc ?_ _ | with_reducible refine bl_drewN ?_ _ | with_reducible refine bl_drew ?_ | (with_reducible refine bl_set ?_ ?_ _; rotate_left; focus (first | (simp; done) | (simp; omega) | omega)) | with_reducible refine below_step ?_ (Bw.below _) | with_reducible refine below_step ?_ (by assumption))⟩
/-! THE STATEMENT CellWithin -/
section
open Go.ChangeShapes Go.WideShapes Go.ChangeAt Go.RowKit Go.Joins
set_option linter.unusedVariables false
set_option maxRecDepth 100000 in
theorem cellWithin_lifted (os : Os) (started : os.Started) (H : Type) (enc : TypeId × Value → H) :
    ReturnsInHanded {} Try.checked os 4 .any (Rows.cellWithinSpec.pre6 enc Try.prog Try.f4 Rows.cellWithinRow.domain false) (Rows.cellWithinSpec.post enc Try.prog Try.f4 false true false false) := by
  refine returnsInHanded_of_change (C := Try.checked) (show ownKnob Try.prog.godebug = none by kernel_rfl) started (by kernel_rfl) Try.func4
    (ChangeSpec.witness6 (enc := enc) (C := Try.checked) false ⟨#[], #[.int .i64 0, .int .i64 0, .int .i64 0, .agg #[.int .i64 0, .int .i64 0, .int .i64 0], .int .i64 0], []⟩ 8 (by kernel_rfl) (by kernel_rfl) (by kernel_rfl) (by kernel_rfl)) ?_
  intro W base args ds gs before hval0 hW hcnd _
  have hval : ∀ (j : Nat) t v, Try.f4.params[j]? = some t → args[j]? = some v → Value.okWide Try.prog W .any base t v := hval0
  have hW' := hW
  obtain ⟨p, q, hA0, hV, rfl, hfz, hnd⟩ := hW
  have hA : DataW.TrodAll enc Try.prog W 0 (fun _ => true) true Try.f4.params.toList args.toList ds p := hA0
  rw [Try.params4] at hA hval
  obtain ⟨v0, vs0, d0, ds0, p0, q0, hargs, rfl, rfl, h0, r0⟩ := trodAll_cons hA
  obtain ⟨v1, vs1, d1, ds1, p1, q1, rfl, rfl, rfl, h1, r1⟩ := trodAll_cons r0
  obtain ⟨v2, vs2, d2, ds2, p2, q2, rfl, rfl, rfl, h2, r2⟩ := trodAll_cons r1
  obtain ⟨v3, vs3, d3, ds3, p3, q3, rfl, rfl, rfl, h3, r3⟩ := trodAll_cons r2
  obtain ⟨v4, vs4, d4, ds4, p4, q4, rfl, rfl, rfl, h4, r4⟩ := trodAll_cons r3
  obtain ⟨rfl, rfl, rfl⟩ := trodAll_nil r4
  obtain rfl : args = #[v0, v1, v2, v3, v4] := by cases args; simp_all
  obtain ⟨rfl, rfl⟩ := trodVars_none hV
  obtain ⟨x, rfl, rfl, rfl, wf_x⟩ := open_int Try.underlying2 (hval 0 2 v0 rfl rfl) h0
  obtain ⟨y, rfl, rfl, rfl, wf_y⟩ := open_int Try.underlying2 (hval 1 2 v1 rfl rfl) h1
  obtain ⟨r, rfl, rfl, rfl, wf_r⟩ := open_int Try.underlying3 (hval 2 3 v2 rfl rfl) h2
  obtain ⟨s, c, d, rfl, rfl, rfl, wf_s, wf_c, wf_d⟩ := open_cell Try.underlying25 (show Try.prog.cellsOf 25 = 3 by kernel_rfl) rfl (show Try.prog.cellsOf 3 = 1 by kernel_rfl) Try.underlying3 rfl (show Try.prog.cellsOf 23 = 2 by kernel_rfl) Try.underlying23 rfl (show Try.prog.cellsOf 2 = 1 by kernel_rfl) Try.underlying2 rfl (show Try.prog.cellsOf 2 = 1 by kernel_rfl) Try.underlying2 (hval 3 25 v3 rfl rfl) h3
  obtain ⟨up, rfl, rfl, rfl, wf_up⟩ := open_int Try.underlying3 (hval 4 3 v4 rfl rfl) h4
  clear hA0 hval0
  simp only [List.append_nil] at hW'
  refine (cellwithin_walk x y r s c d up (wf_i64 wf_x).1 (wf_i64 wf_x).2 (wf_i64 wf_y).1 (wf_i64 wf_y).2 (wf_i64 wf_r).1 (wf_i64 wf_r).2 (wf_i64 wf_s).1 (wf_i64 wf_s).2 (wf_i64 wf_c).1 (wf_i64 wf_c).2 (wf_i64 wf_d).1 (wf_i64 wf_d).2 (wf_i64 wf_up).1 (wf_i64 wf_up).2 W).mono fun e W' ⟨he, hb⟩ => ?_
  subst he
  exact ⟨_, rfl, post_of_below (pa := []) (pv := []) hW' (fun _ _ _ => (trodAll_cons_mk (shut_bool Try.underlying4 _) trodAll_mk0)) (fun sp _ => (trodAll_cons_mk (shut_int Try.underlying2 wf_x) (trodAll_cons_mk (shut_int Try.underlying2 wf_y) (trodAll_cons_mk (shut_int Try.underlying3 wf_r) (trodAll_cons_mk (shut_cell Try.underlying25 (show Try.prog.cellsOf 25 = 3 by kernel_rfl) rfl (show Try.prog.cellsOf 3 = 1 by kernel_rfl) Try.underlying3 rfl (show Try.prog.cellsOf 23 = 2 by kernel_rfl) Try.underlying23 rfl (show Try.prog.cellsOf 2 = 1 by kernel_rfl) Try.underlying2 rfl (show Try.prog.cellsOf 2 = 1 by kernel_rfl) Try.underlying2 wf_s wf_c wf_d) (trodAll_cons_mk (shut_int Try.underlying3 wf_up) trodAll_mk0)))))) (fun _ _ => rfl) rfl hb
    (ok_one (by kernel_rfl) rfl (okWide_bool_mk Try.underlying4 _))⟩
theorem cellWithin_holds : Rows.CellWithinSaid :=
  OpenClaim.holds_of_wide 4 Try.f4 rfl rfl rfl rfl rfl rfl rfl ⟨rfl, rfl, rfl, rfl, rfl⟩ rfl rfl rfl rfl rfl (by kernel_rfl) Try.func4 (by kernel_rfl)
    (of_decide_eq_true (by kernel_rfl)) (by unfold Func.isWrapper; first | (rw [if_pos (by decide +kernel)]; kernel_rfl) | (rw [if_neg (by decide +kernel)]; exact ⟨rfl, rfl⟩))
    (fun os started H enc _ => cellWithin_lifted os started H enc)
end
#print axioms cellWithin_holds
end Go.Proofs.Ytajojnbpmbkghaa

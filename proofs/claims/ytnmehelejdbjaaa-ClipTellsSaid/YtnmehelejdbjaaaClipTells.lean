
/- ClipTells: what lies on one side, in a box, divided downwards, and whether it lies in a box, is as the document says. No condition. -/
import Derived.Test.YtnmehelejdbjaaaRClip
import Derived.Test.YtnmehelejdbjaaaRowR
import Derived.Test.YtnmehelejdbjaaaTame19
namespace Go.Proofs.Ytnmehelejdbjaaa
open Go.RowKit
set_option linter.unusedSimpArgs false
set_option linter.unusedVariables false
theorem inR_iff {lx ly hx hy : Int} {L : List (Int × Int)} : inR lx ly hx hy L = true ↔ (okrB L = true ∧ ∀ j, j < L.length → lx ≤ (L.getD j (0, 0)).1 ∧ (L.getD j (0, 0)).1 ≤ hx ∧ ly ≤ (L.getD j (0, 0)).2 ∧ (L.getD j (0, 0)).2 ≤ hy) := by
  constructor
  · intro h
    refine ⟨?_, fun j hj => ?_⟩
    · rcases hB : okrB L with _ | _
      · rw [inR_no hB] at h; cases h
      · rfl
    · by_cases h2 : lx ≤ (L.getD j (0, 0)).1 ∧ (L.getD j (0, 0)).1 ≤ hx ∧ ly ≤ (L.getD j (0, 0)).2 ∧ (L.getD j (0, 0)).2 ≤ hy
      · exact h2
      · rw [inR_bad j hj h2] at h; cases h
  · rintro ⟨h1, h2⟩
    exact inR_all h1 h2
theorem ring_step {f : FuncId} {args : Array Value} {W : World} {S : List (Int × Int)} (h : Calls Try.prog f args W fun e w' => ∃ v, e = .returned v ∧ w'.ownsRow W.heap.size 26 2 v S.length (rgRow S) ∧ Below W.heap.size W w') :
    Calls Try.prog f args W fun e w' => ∃ Y c, e = .returned (.slice Y S.length c) ∧ RingAt w' Y S ∧ Below W.heap.size W w' := by
  refine h.mono ?_
  rintro e w' ⟨v, rfl, hown, hb⟩
  obtain ⟨Y, c, rfl, _, hr⟩ := own_ring2 hown
  exact ⟨Y, c, rfl, hr, hb⟩
theorem ring_step2 {f : FuncId} {args : Array Value} {W : World} {S : List (Int × Int)} (h : Calls Try.prog f args W fun e w' => ∃ X' cap', e = .returned (.slice X' S.length cap') ∧ S.length ≤ cap' ∧ RingAt w' X' S ∧ Below W.heap.size W w') :
    Calls Try.prog f args W fun e w' => ∃ Y c, e = .returned (.slice Y S.length c) ∧ RingAt w' Y S ∧ Below W.heap.size W w' := by
  refine h.mono ?_
  rintro e w' ⟨Y, c, rfl, _, hr, hb⟩
  exact ⟨Y, c, rfl, hr, hb⟩
set_option maxRecDepth 100000 in
set_option maxHeartbeats 8000000 in
theorem cliptells_walk (X0 : Option Addr) (c0 : Nat) (L0 : List (Int × Int)) (X1 : Option Addr) (n1 c1 : Nat) (Z1 : Nat → Int) (ax t : Int) (ab : Bool) (lx ly hx hy d : Int) (hc0 : L0.length ≤ c0) (hn1 : n1 ≤ 9223372036854775807) (hZb : ∀ j, j < n1 → -9223372036854775808 ≤ Z1 j ∧ Z1 j ≤ 9223372036854775807) (hax : -9223372036854775808 ≤ ax) (hax' : ax ≤ 9223372036854775807) (ht : -9223372036854775808 ≤ t) (ht' : t ≤ 9223372036854775807) (hlx : -9223372036854775808 ≤ lx) (hlx' : lx ≤ 9223372036854775807) (hly : -9223372036854775808 ≤ ly) (hly' : ly ≤ 9223372036854775807) (hhx : -9223372036854775808 ≤ hx) (hhx' : hx ≤ 9223372036854775807) (hhy : -9223372036854775808 ≤ hy) (hhy' : hy ≤ 9223372036854775807) (hd : -9223372036854775808 ≤ d) (hd' : d ≤ 9223372036854775807) (w : World) (hr0 : RingAt w X0 L0) (hZ : IntsAt w X1 n1 Z1) :
    Calls Try.prog 8 #[.slice X0 L0.length c0, .slice X1 n1 c1, .int .i64 ax, .int .i64 t, .bool ab, .agg #[.int .i64 lx, .int .i64 ly], .agg #[.int .i64 hx, .int .i64 hy], .int .i64 d] w fun e w' => e = .returned (.bool true) ∧ Below w.heap.size w w' := by
  have NR := Lib.hid (fun (W : World) (hb : Below w.heap.size w W) => law_near X1 n1 c1 Z1 300 (by decide) (by decide) hn1 W (hZ.bl hb) hZb)
  have HR0 := Lib.hid (fun (W : World) (hb : Below w.heap.size w W) => hr0.bl hb)
  have hmc : ∀ d : Int, bits .and .i64 d 255 = d % 256 := fun d => i64_mask19 d 8 (by omega)
  have hm1 : ∀ d : Int, bits .and .i64 d 1 = d % 2 := fun d => i64_mask19 d 1 (by omega)
  clear hr0 hZ hZb hax hax' ht ht' hlx hlx' hly hly' hhx hhx' hhy hhy' hd
  by_cases g1 : 120 < L0.length
  · have g1I : (120 : Int) < (L0.length : Int) := by omega
    clear NR HR0 g1 hc0
    generalize L0.length = n0 at *
    go_enter Try.func8, Try.ntmps8
    go_wp2_with fail
    refine (awake19 _).mono ?_
    rintro e_1 w_1 ⟨rfl, hb_1⟩
    go_wp2_with fail
    go_ret
    exact ⟨rfl, below_step (by repeat (first | with_reducible exact Below.refl _ _ | with_reducible refine bl_alloc ?_ _ | with_reducible refine bl_drewN ?_ _ | with_reducible refine bl_drew ?_ | (with_reducible refine bl_set ?_ ?_ _; rotate_left; focus (first | (simp; done) | (simp; omega) | omega)) | with_reducible refine below_step ?_ (Bw.below _) | with_reducible refine below_step ?_ (by assumption))) hb_1⟩
  by_cases g2 : 60 < n1
  · have g1I : ¬ (120 : Int) < (L0.length : Int) := by omega
    have g2I : (60 : Int) < (n1 : Int) := by omega
    clear NR HR0 g1 hc0
    generalize L0.length = n0 at *
    go_enter Try.func8, Try.ntmps8
    go_wp2_with fail
    refine (awake19 _).mono ?_
    rintro e_1 w_1 ⟨rfl, hb_1⟩
    go_wp2_with fail
    go_ret
    exact ⟨rfl, below_step (by repeat (first | with_reducible exact Below.refl _ _ | with_reducible refine bl_alloc ?_ _ | with_reducible refine bl_drewN ?_ _ | with_reducible refine bl_drew ?_ | (with_reducible refine bl_set ?_ ?_ _; rotate_left; focus (first | (simp; done) | (simp; omega) | omega)) | with_reducible refine below_step ?_ (Bw.below _) | with_reducible refine below_step ?_ (by assumption))) hb_1⟩
  have g1I : ¬ (120 : Int) < (L0.length : Int) := by omega
  have g2I : ¬ (60 : Int) < (n1 : Int) := by omega
  have H120 : Hid (L0.length ≤ 120) := Lib.hid (by omega)
  have HC0 := Lib.hid hc0
  clear g1 g2 hc0
  obtain ⟨n0, hn0⟩ : ∃ n, L0.length = n := ⟨_, rfl⟩
  have HN0 := Lib.hid hn0
  rw [hn0] at g1I ⊢
  clear hn0
  go_enter Try.func8, Try.ntmps8
  go_wp2_with fail
  refine wp_start (fun V => V.cell? ⟨w.heap.size, 0, none⟩ = some (.int .i64 lx) ∧ V.frozen? ⟨w.heap.size, 0, none⟩ = false ∧ V.cell? ⟨w.heap.size, 1, none⟩ = some (.int .i64 ly) ∧ V.frozen? ⟨w.heap.size, 1, none⟩ = false ∧ V.cell? ⟨w.heap.size + 1, 0, none⟩ = some (.int .i64 hx) ∧ V.frozen? ⟨w.heap.size + 1, 0, none⟩ = false ∧ V.cell? ⟨w.heap.size + 1, 1, none⟩ = some (.int .i64 hy) ∧ V.frozen? ⟨w.heap.size + 1, 1, none⟩ = false ∧ Below w.heap.size w V) ⟨by first | with_reducible assumption | (simp [go_sem]; done), by first | with_reducible assumption | (simp [go_sem]; done), by first | with_reducible assumption | (simp [go_sem]; done), by first | with_reducible assumption | (simp [go_sem]; done), by first | with_reducible assumption | (simp [go_sem]; done), by first | with_reducible assumption | (simp [go_sem]; done), by first | with_reducible assumption | (simp [go_sem]; done), by first | with_reducible assumption | (simp [go_sem]; done), by repeat (first | with_reducible exact Below.refl _ _ | with_reducible refine bl_alloc ?_ _ | with_reducible refine bl_drewN ?_ _ | with_reducible refine bl_drew ?_ | (with_reducible refine bl_set ?_ ?_ _; rotate_left; focus (first | (simp; done) | (simp; omega) | omega)) | with_reducible refine below_step ?_ (Bw.below _) | with_reducible refine below_step ?_ (by assumption))⟩ ?_
  rintro V ⟨hta1, fta1, hta2, fta2, hta3, fta3, hta4, fta4, hWta⟩ gta
  have ta1 := Bw.hold hta1
  have taf1 := Bw.free hta1 fta1
  have ta2 := Bw.hold hta2
  have taf2 := Bw.free hta2 fta2
  have ta3 := Bw.hold hta3
  have taf3 := Bw.free hta3 fta3
  have ta4 := Bw.hold hta4
  have taf4 := Bw.free hta4 fta4
  have taz1 := fun g : Bw V => cell_lt (ta1 g)
  have tay1 := fun g : Bw V => Nat.le_of_lt (taz1 g)
  have taz3 := fun g : Bw V => cell_lt (ta3 g)
  have tay3 := fun g : Bw V => Nat.le_of_lt (taz3 g)
  clear hta1 fta1 hta2 fta2 hta3 fta3 hta4 fta4
  go_loopg [2, 3, 7, 17, 18] 2 (fun n vax vt vby vl vi W => ∃ (i c : Nat) (ax t d lx ly hx hy : Int) (Y : Option Addr) (L : List (Int × Int)), i + n = 2 ∧ vi = .int .i64 (i : Int) ∧ vax = .int .i64 ax ∧ vt = .int .i64 t ∧ vby = .int .i64 d ∧ vl = .slice Y L.length c ∧ L.length ≤ 120 ∧ L.length ≤ c ∧ d ≤ 9223372036854775807 ∧ RingAt W Y L ∧ (W.cell? ⟨w.heap.size, 0, none⟩ = some (.int .i64 lx) ∧ W.cell? ⟨w.heap.size, 1, none⟩ = some (.int .i64 ly) ∧ W.cell? ⟨w.heap.size + 1, 0, none⟩ = some (.int .i64 hx) ∧ W.cell? ⟨w.heap.size + 1, 1, none⟩ = some (.int .i64 hy)) ∧ (W.frozen? ⟨w.heap.size, 0, none⟩ = false ∧ W.frozen? ⟨w.heap.size, 1, none⟩ = false ∧ W.frozen? ⟨w.heap.size + 1, 0, none⟩ = false ∧ W.frozen? ⟨w.heap.size + 1, 1, none⟩ = false) ∧ Below w.heap.size w W)
  case atStart => exact ⟨0, c0, ax, t, d, lx, ly, hx, hy, X0, L0, by omega, rfl, rfl, rfl, rfl, by rw [HN0.out], H120.out, HC0.out, hd', HR0.out _ (below_step hWta (Bw.below gta)), ⟨ta1 gta, ta2 gta, ta3 gta, ta4 gta⟩, ⟨taf1 gta, taf2 gta, taf3 gta, taf4 gta⟩, below_step hWta (Bw.below gta)⟩
  case round =>
    clear HR0 H120 HC0 HN0 g1I g2I hd' ta1 ta2 ta3 ta4 taf1 taf2 taf3 taf4
    obtain ⟨i, c, ax, t, d, lx, ly, hx, hy, Y, L, hi, rfl, rfl, rfl, rfl, rfl, hl120, hlc, hd63, hring, ⟨e1, e2, e3, e4⟩, ⟨f1, f2, f3, f4⟩, hb⟩ := hrel
    rcases (show i < 2 ∨ i = 2 by omega) with hlt | hlt
    · have hiI : (i : Int) < 2 := by omega
      obtain ⟨WL, hWL⟩ : ∃ W, W = wr := ⟨_, rfl⟩
      subst hWL
      have HLO := Lib.hid (fun (W : World) (hW : Below WL.heap.size WL W) => (⟨bl_hold hW e1, bl_hold hW e2, bl_hold hW e3, bl_hold hW e4, bl_free hW e1 f1, bl_free hW e2 f2, bl_free hW e3 f3, bl_free hW e4 f4⟩ : _ ∧ _ ∧ _ ∧ _ ∧ _ ∧ _ ∧ _ ∧ _))
      have FT := Lib.hid (ref_FitsR Y c L (by omega) WL hring)
      go_wp2_with fail
      obtain ⟨N, hN⟩ : ∃ N, L.length = N := ⟨_, rfl⟩
      have HN := Lib.hid hN
      refine (FT.out).mono ?_
      rintro e_1 w_1 ⟨rfl, hb_1⟩
      have HRW := Lib.hid (fun (W : World) (hW : Below w_1.heap.size w_1 W) => (hring.bl (below_step hb_1 hW)))
      have e1' := bl_hold hb_1 e1
      have e2' := bl_hold hb_1 e2
      have e3' := bl_hold hb_1 e3
      have e4' := bl_hold hb_1 e4
      have hbw1 := below_step hb hb_1
      have HLC := Lib.hid hlc
      have HL120 := Lib.hid hl120
      clear FT hring e1 e2 e3 e4 f1 f2 f3 f4 hlc hl120
      rw [hN]
      clear hN
      have hN1000 : N ≤ 120 := by have h1 := HL120.out; have h2 := HN.out; omega
      go_wp2_with fail
      go_loopg [19, 20] N (fun n b kk W => ∃ (k : Nat) (B : Bool), k + n = N ∧ kk = .int .i64 (k : Int) ∧ b = .bool B ∧ (B = true ↔ (okrB L = true ∧ ∀ j, j < k → lx ≤ (L.getD j (0, 0)).1 ∧ (L.getD j (0, 0)).1 ≤ hx ∧ ly ≤ (L.getD j (0, 0)).2 ∧ (L.getD j (0, 0)).2 ≤ hy)) ∧ Below w_1.heap.size w_1 W)
      case atStart => exact ⟨0, okrB L, by omega, rfl, rfl, ⟨fun h => ⟨h, fun j hj => by omega⟩, fun h => h.1⟩, by repeat (first | with_reducible exact Below.refl _ _ | with_reducible refine bl_alloc ?_ _ | with_reducible refine bl_drewN ?_ _ | with_reducible refine bl_drew ?_ | (with_reducible refine bl_set ?_ ?_ _; rotate_left; focus (first | (simp; done) | (simp; omega) | omega)) | with_reducible refine below_step ?_ (Bw.below _) | with_reducible refine below_step ?_ (by assumption))⟩
      case round =>
        obtain ⟨k, B, hk, rfl, rfl, hB, hb2⟩ := hrel
        have HB := Lib.hid hB
        clear hB
        rcases (show k < N ∨ k = N by omega) with hlt2 | hlt2
        · as_aux_lemma =>
          obtain ⟨gr, o, e0, r1, r2⟩ := HRW.out _ hb2 k (by rw [HN.out]; exact hlt2)
          subst e0
          have hkI : (k : Int) < (N : Int) := by omega
          obtain ⟨x, hxx⟩ : ∃ x, (L.getD k (0, 0)).1 = x := ⟨_, rfl⟩
          obtain ⟨y, hyy⟩ : ∃ y, (L.getD k (0, 0)).2 = y := ⟨_, rfl⟩
          rw [hxx] at r1
          rw [hyy] at r2
          have HXX := Lib.hid hxx
          have HYY := Lib.hid hyy
          have HE := Lib.hid (fun (W : World) (hW : Below w_1.heap.size w_1 W) => (⟨bl_hold hW e1', bl_hold hW e2', bl_hold hW e3', bl_hold hW e4'⟩ : _ ∧ _ ∧ _ ∧ _))
          have HRC := Lib.hid (fun (W : World) (hW : Below wr.heap.size wr W) => (⟨bl_hold hW r1, bl_hold hW r2⟩ : _ ∧ _))
          clear hxx hyy r1 r2 e1' e2' e3' e4' HRW HLO HLC HL120 NR
          obtain ⟨Wk, hWk⟩ : ∃ W, W = wr := ⟨_, rfl⟩
          subst hWk
          go_wp2_with fail
          go_loopg [19, 21] 2 (fun n b aa W => ∃ (a : Nat) (B' : Bool), a + n = 2 ∧ aa = .int .i64 (a : Int) ∧ b = .bool B' ∧ (B' = true ↔ (B = true ∧ (0 < a → lx ≤ x ∧ x ≤ hx) ∧ (1 < a → ly ≤ y ∧ y ≤ hy))) ∧ Below Wk.heap.size Wk W)
          case atStart => exact ⟨0, B, by omega, rfl, rfl, ⟨fun h => ⟨h, fun h => by omega, fun h => by omega⟩, fun h => h.1⟩, by repeat (first | with_reducible exact Below.refl _ _ | with_reducible refine bl_alloc ?_ _ | with_reducible refine bl_drewN ?_ _ | with_reducible refine bl_drew ?_ | (with_reducible refine bl_set ?_ ?_ _; rotate_left; focus (first | (simp; done) | (simp; omega) | omega)) | with_reducible refine below_step ?_ (Bw.below _) | with_reducible refine below_step ?_ (by assumption))⟩
          case round =>
            obtain ⟨a, B', ha, rfl, rfl, hB', hb3⟩ := hrel
            obtain ⟨r1, r2⟩ := HRC.out _ hb3
            obtain ⟨e1, e2, e3, e4⟩ := HE.out _ (below_step hb2 hb3)
            rcases (show a = 0 ∨ a = 1 ∨ a = 2 by omega) with h | h | h
            · subst h
              rcases B' with _ | _
              · have HB3 : Hid (false = true ↔ (B = true ∧ (0 < 1 → lx ≤ x ∧ x ≤ hx) ∧ (1 < 1 → ly ≤ y ∧ y ≤ hy))) := Lib.hid ⟨fun h => (by cases h), fun h => hB'.2 ⟨h.1, fun h2 => by omega, fun h2 => by omega⟩⟩
                clear hB'
                go_wp2_with fail
                refine wp_region_quiet_lit (by kernel_rfl) (by kernel_rfl) ?_
                repeat (with_reducible refine wpQuiet_step ?_; intro K hK; go_simp; with_reducible refine hK _ ?_; clear hK K)
                with_reducible refine wpQuiet_nil ?_
                intro _ hw'
                obtain ⟨nq, hw''⟩ := hw'
                subst hw''
                go_wp2_with fail
                go_roundg 1
                case measure => omega
                case rel => exact ⟨1, false, by omega, by first | rfl | go_num, by first | rfl | (simp; done) | (simp; omega), by first | exact HB3.out | simpa using HB3.out, by repeat (first | with_reducible exact Below.refl _ _ | with_reducible refine bl_alloc ?_ _ | with_reducible refine bl_drewN ?_ _ | with_reducible refine bl_drew ?_ | (with_reducible refine bl_set ?_ ?_ _; rotate_left; focus (first | (simp; done) | (simp; omega) | omega)) | with_reducible refine below_step ?_ (Bw.below _) | with_reducible refine below_step ?_ (by assumption))⟩
              · by_cases k1 : lx ≤ x
                · by_cases k2 : x ≤ hx
                  · have HB3 : Hid (true = true ↔ (B = true ∧ (0 < 1 → lx ≤ x ∧ x ≤ hx) ∧ (1 < 1 → ly ≤ y ∧ y ≤ hy))) := Lib.hid ⟨fun _ => ⟨(hB'.1 rfl).1, fun _ => ⟨k1, k2⟩, fun h2 => by omega⟩, fun _ => rfl⟩
                    clear hB'
                    go_wp2_with fail
                    refine wp_region_quiet_lit (by kernel_rfl) (by kernel_rfl) ?_
                    repeat (with_reducible refine wpQuiet_step ?_; intro K hK; go_simp; with_reducible refine hK _ ?_; clear hK K)
                    with_reducible refine wpQuiet_nil ?_
                    intro _ hw'
                    obtain ⟨nq, hw''⟩ := hw'
                    subst hw''
                    go_wp2_with fail
                    go_roundg 1
                    case measure => omega
                    case rel => exact ⟨1, true, by omega, by first | rfl | go_num, by first | rfl | (simp; done) | (simp; omega), by first | exact HB3.out | simpa using HB3.out, by repeat (first | with_reducible exact Below.refl _ _ | with_reducible refine bl_alloc ?_ _ | with_reducible refine bl_drewN ?_ _ | with_reducible refine bl_drew ?_ | (with_reducible refine bl_set ?_ ?_ _; rotate_left; focus (first | (simp; done) | (simp; omega) | omega)) | with_reducible refine below_step ?_ (Bw.below _) | with_reducible refine below_step ?_ (by assumption))⟩
                  · have HB3 : Hid (false = true ↔ (B = true ∧ (0 < 1 → lx ≤ x ∧ x ≤ hx) ∧ (1 < 1 → ly ≤ y ∧ y ≤ hy))) := Lib.hid ⟨fun h => (by cases h), fun h => absurd (h.2.1 (by omega)).2 k2⟩
                    have hd2 : decide (x ≤ hx) = false := decide_eq_false k2
                    clear hB' k2
                    go_wp2_with fail
                    refine wp_region_quiet_lit (by kernel_rfl) (by kernel_rfl) ?_
                    repeat (with_reducible refine wpQuiet_step ?_; intro K hK; go_simp; with_reducible refine hK _ ?_; clear hK K)
                    with_reducible refine wpQuiet_nil ?_
                    intro _ hw'
                    obtain ⟨nq, hw''⟩ := hw'
                    subst hw''
                    go_wp2_with fail
                    go_roundg 1
                    case measure => omega
                    case rel => exact ⟨1, false, by omega, by first | rfl | go_num, by first | rfl | (simp; done) | (simp; omega), by first | exact HB3.out | simpa using HB3.out, by repeat (first | with_reducible exact Below.refl _ _ | with_reducible refine bl_alloc ?_ _ | with_reducible refine bl_drewN ?_ _ | with_reducible refine bl_drew ?_ | (with_reducible refine bl_set ?_ ?_ _; rotate_left; focus (first | (simp; done) | (simp; omega) | omega)) | with_reducible refine below_step ?_ (Bw.below _) | with_reducible refine below_step ?_ (by assumption))⟩
                · have HB3 : Hid (false = true ↔ (B = true ∧ (0 < 1 → lx ≤ x ∧ x ≤ hx) ∧ (1 < 1 → ly ≤ y ∧ y ≤ hy))) := Lib.hid ⟨fun h => (by cases h), fun h => absurd (h.2.1 (by omega)).1 k1⟩
                  have hd1 : decide (lx ≤ x) = false := decide_eq_false k1
                  clear hB' k1
                  go_wp2_with fail
                  refine wp_region_quiet_lit (by kernel_rfl) (by kernel_rfl) ?_
                  repeat (with_reducible refine wpQuiet_step ?_; intro K hK; go_simp; with_reducible refine hK _ ?_; clear hK K)
                  with_reducible refine wpQuiet_nil ?_
                  intro _ hw'
                  obtain ⟨nq, hw''⟩ := hw'
                  subst hw''
                  go_wp2_with fail
                  go_roundg 1
                  case measure => omega
                  case rel => exact ⟨1, false, by omega, by first | rfl | go_num, by first | rfl | (simp; done) | (simp; omega), by first | exact HB3.out | simpa using HB3.out, by repeat (first | with_reducible exact Below.refl _ _ | with_reducible refine bl_alloc ?_ _ | with_reducible refine bl_drewN ?_ _ | with_reducible refine bl_drew ?_ | (with_reducible refine bl_set ?_ ?_ _; rotate_left; focus (first | (simp; done) | (simp; omega) | omega)) | with_reducible refine below_step ?_ (Bw.below _) | with_reducible refine below_step ?_ (by assumption))⟩
            · subst h
              rcases B' with _ | _
              · have HB3 : Hid (false = true ↔ (B = true ∧ (0 < 2 → lx ≤ x ∧ x ≤ hx) ∧ (1 < 2 → ly ≤ y ∧ y ≤ hy))) := Lib.hid ⟨fun h => (by cases h), fun h => hB'.2 ⟨h.1, fun _ => h.2.1 (by omega), fun h2 => by omega⟩⟩
                clear hB'
                go_wp2_with fail
                refine wp_region_quiet_lit (by kernel_rfl) (by kernel_rfl) ?_
                repeat (with_reducible refine wpQuiet_step ?_; intro K hK; go_simp; with_reducible refine hK _ ?_; clear hK K)
                with_reducible refine wpQuiet_nil ?_
                intro _ hw'
                obtain ⟨nq, hw''⟩ := hw'
                subst hw''
                go_wp2_with fail
                go_roundg 0
                case measure => omega
                case rel => exact ⟨2, false, by omega, by first | rfl | go_num, by first | rfl | (simp; done) | (simp; omega), by first | exact HB3.out | simpa using HB3.out, by repeat (first | with_reducible exact Below.refl _ _ | with_reducible refine bl_alloc ?_ _ | with_reducible refine bl_drewN ?_ _ | with_reducible refine bl_drew ?_ | (with_reducible refine bl_set ?_ ?_ _; rotate_left; focus (first | (simp; done) | (simp; omega) | omega)) | with_reducible refine below_step ?_ (Bw.below _) | with_reducible refine below_step ?_ (by assumption))⟩
              · by_cases k1 : ly ≤ y
                · by_cases k2 : y ≤ hy
                  · have HB3 : Hid (true = true ↔ (B = true ∧ (0 < 2 → lx ≤ x ∧ x ≤ hx) ∧ (1 < 2 → ly ≤ y ∧ y ≤ hy))) := Lib.hid ⟨fun _ => ⟨(hB'.1 rfl).1, fun _ => (hB'.1 rfl).2.1 (by omega), fun _ => ⟨k1, k2⟩⟩, fun _ => rfl⟩
                    clear hB'
                    go_wp2_with fail
                    refine wp_region_quiet_lit (by kernel_rfl) (by kernel_rfl) ?_
                    repeat (with_reducible refine wpQuiet_step ?_; intro K hK; go_simp; with_reducible refine hK _ ?_; clear hK K)
                    with_reducible refine wpQuiet_nil ?_
                    intro _ hw'
                    obtain ⟨nq, hw''⟩ := hw'
                    subst hw''
                    go_wp2_with fail
                    go_roundg 0
                    case measure => omega
                    case rel => exact ⟨2, true, by omega, by first | rfl | go_num, by first | rfl | (simp; done) | (simp; omega), by first | exact HB3.out | simpa using HB3.out, by repeat (first | with_reducible exact Below.refl _ _ | with_reducible refine bl_alloc ?_ _ | with_reducible refine bl_drewN ?_ _ | with_reducible refine bl_drew ?_ | (with_reducible refine bl_set ?_ ?_ _; rotate_left; focus (first | (simp; done) | (simp; omega) | omega)) | with_reducible refine below_step ?_ (Bw.below _) | with_reducible refine below_step ?_ (by assumption))⟩
                  · have HB3 : Hid (false = true ↔ (B = true ∧ (0 < 2 → lx ≤ x ∧ x ≤ hx) ∧ (1 < 2 → ly ≤ y ∧ y ≤ hy))) := Lib.hid ⟨fun h => (by cases h), fun h => absurd (h.2.2 (by omega)).2 k2⟩
                    have hd2 : decide (y ≤ hy) = false := decide_eq_false k2
                    clear hB' k2
                    go_wp2_with fail
                    refine wp_region_quiet_lit (by kernel_rfl) (by kernel_rfl) ?_
                    repeat (with_reducible refine wpQuiet_step ?_; intro K hK; go_simp; with_reducible refine hK _ ?_; clear hK K)
                    with_reducible refine wpQuiet_nil ?_
                    intro _ hw'
                    obtain ⟨nq, hw''⟩ := hw'
                    subst hw''
                    go_wp2_with fail
                    go_roundg 0
                    case measure => omega
                    case rel => exact ⟨2, false, by omega, by first | rfl | go_num, by first | rfl | (simp; done) | (simp; omega), by first | exact HB3.out | simpa using HB3.out, by repeat (first | with_reducible exact Below.refl _ _ | with_reducible refine bl_alloc ?_ _ | with_reducible refine bl_drewN ?_ _ | with_reducible refine bl_drew ?_ | (with_reducible refine bl_set ?_ ?_ _; rotate_left; focus (first | (simp; done) | (simp; omega) | omega)) | with_reducible refine below_step ?_ (Bw.below _) | with_reducible refine below_step ?_ (by assumption))⟩
                · have HB3 : Hid (false = true ↔ (B = true ∧ (0 < 2 → lx ≤ x ∧ x ≤ hx) ∧ (1 < 2 → ly ≤ y ∧ y ≤ hy))) := Lib.hid ⟨fun h => (by cases h), fun h => absurd (h.2.2 (by omega)).1 k1⟩
                  have hd1 : decide (ly ≤ y) = false := decide_eq_false k1
                  clear hB' k1
                  go_wp2_with fail
                  refine wp_region_quiet_lit (by kernel_rfl) (by kernel_rfl) ?_
                  repeat (with_reducible refine wpQuiet_step ?_; intro K hK; go_simp; with_reducible refine hK _ ?_; clear hK K)
                  with_reducible refine wpQuiet_nil ?_
                  intro _ hw'
                  obtain ⟨nq, hw''⟩ := hw'
                  subst hw''
                  go_wp2_with fail
                  go_roundg 0
                  case measure => omega
                  case rel => exact ⟨2, false, by omega, by first | rfl | go_num, by first | rfl | (simp; done) | (simp; omega), by first | exact HB3.out | simpa using HB3.out, by repeat (first | with_reducible exact Below.refl _ _ | with_reducible refine bl_alloc ?_ _ | with_reducible refine bl_drewN ?_ _ | with_reducible refine bl_drew ?_ | (with_reducible refine bl_set ?_ ?_ _; rotate_left; focus (first | (simp; done) | (simp; omega) | omega)) | with_reducible refine below_step ?_ (Bw.below _) | with_reducible refine below_step ?_ (by assumption))⟩
            · subst h
              have HB3 := Lib.hid hB'
              clear hB'
              go_wp2_with fail
              go_roundg (N - (k + 1))
              case measure => omega
              case rel => exact ⟨k + 1, B', by omega, by go_num, rfl, HB3.out.trans ⟨fun h => ⟨(HB.out.1 h.1).1, fun j hj => by
                rcases (show j < k ∨ j = k by omega) with h2 | h2
                · exact (HB.out.1 h.1).2 j h2
                · subst h2
                  rw [HXX.out, HYY.out]
                  have u1 := h.2.1 (by omega)
                  have u2 := h.2.2 (by omega)
                  exact ⟨u1.1, u1.2, u2.1, u2.2⟩⟩, fun h => ⟨HB.out.2 ⟨h.1, fun j hj => h.2 j (by omega)⟩, fun _ => by
                have u := h.2 k (by omega)
                rw [HXX.out, HYY.out] at u
                exact ⟨u.1, u.2.1⟩, fun _ => by
                have u := h.2 k (by omega)
                rw [HXX.out, HYY.out] at u
                exact ⟨u.2.2.1, u.2.2.2⟩⟩⟩, below_step hb2 hb3⟩
        · subst hlt2
          have hBI : B = inR lx ly hx hy L := Bool.eq_iff_iff.2 (HB.out.trans (by rw [inR_iff, HN.out]))
          have HBI := Lib.hid hBI
          clear HB hBI
          have V1c1 := bl_hold hb2 e1'
          have V1c2 := bl_hold hb2 e2'
          have V1c3 := bl_hold hb2 e3'
          have V1c4 := bl_hold hb2 e4'
          have hrV := HRW.out _ hb2
          have hbV := below_step hbw1 hb2
          have hb12 := below_step hb_1 hb2
          have l1000 : L.length ≤ 1000 := by have h2 := HN.out; omega
          obtain ⟨V1, hV1⟩ : ∃ W, W = wr := ⟨_, rfl⟩
          subst hV1
          have CS := Lib.hid (fun (W : World) (hW : Below V1.heap.size V1 W) => ring_step (clip_sideR ax t ab Y c L l1000 HLC.out W (hrV.bl hW)))
          have RS := Lib.hid (fun (W : World) (hW : Below V1.heap.size V1 W) => ring_step (ref_sideR ax t ab Y c L l1000 W (hrV.bl hW)))
          have CB := Lib.hid (fun (W : World) (hW : Below V1.heap.size V1 W) => ring_step2 (clip_boxR Y c L lx ly hx hy (fun k _ => bxR_len lx ly hx hy L l1000 k) HLC.out W (hrV.bl hW)))
          have RB := Lib.hid (fun (W : World) (hW : Below V1.heap.size V1 W) => ring_step2 (ref_clipR Y c L lx ly hx hy l1000 W (hrV.bl hW)))
          have CF := Lib.hid (fun (W : World) (hW : Below V1.heap.size V1 W) => ring_step (clip_floorR Y c L d hd63 l1000 HLC.out W (hrV.bl hW)))
          have RF := Lib.hid (fun (W : World) (hW : Below V1.heap.size V1 W) => ring_step (ref_floorsR Y c L d hd63 l1000 W (hrV.bl hW)))
          have CI := Lib.hid (fun (W : World) (hW : Below V1.heap.size V1 W) => clip_inR Y c L lx ly hx hy l1000 HLC.out W (hrV.bl hW))
          have S1 := Lib.hid (fun X Y c c' W (h1 : RingAt W X (sdL ax t ab L)) (h2 : RingAt W Y (sdL ax t ab L)) => ref_same X Y c c' (sdL ax t ab L) (Nat.le_trans (sdL_len ax t ab L) (by decide)) W h1 h2)
          have S2 := Lib.hid (fun X Y c c' W (h1 : RingAt W X (boxR lx ly hx hy L)) (h2 : RingAt W Y (boxR lx ly hx hy L)) => ref_same X Y c c' (boxR lx ly hx hy L) (bxR_len lx ly hx hy L l1000 4) W h1 h2)
          have S3 := Lib.hid (fun X Y c c' W (h1 : RingAt W X (flR d L)) (h2 : RingAt W Y (flR d L)) => ref_same X Y c c' (flR d L) (by unfold flR; split <;> first | (simp; done) | (unfold flL; rw [List.length_map]; exact l1000)) W h1 h2)
          rw [HN.out] at CS RS CB RB CF RF CI
          rw [← HBI.out] at CI
          clear hrV l1000
          generalize sdL ax t ab L = R1 at *
          generalize boxR lx ly hx hy L = R2 at *
          generalize flR d L = R3 at *
          generalize R1.length = m1 at *
          generalize R2.length = m2 at *
          generalize R3.length = m3 at *
          clear e1' e2' e3' e4' hb2 hb_1 hbw1 HRW HLC HL120 HBI
          go_wp2_with fail
          go_cut [115] from 33 to 140 (fun v wx => v = .bool false ∧ Below V1.heap.size V1 wx)
          case first =>
            as_aux_lemma =>
            clear HLO NR
            have smk : ∀ w' : World, Below V1.heap.size V1 w' → Below V1.heap.size V1 w' ∧ w'.cell? ⟨w.heap.size, 0, none⟩ = some (.int .i64 lx) ∧ w'.cell? ⟨w.heap.size, 1, none⟩ = some (.int .i64 ly) ∧ w'.cell? ⟨w.heap.size + 1, 0, none⟩ = some (.int .i64 hx) ∧ w'.cell? ⟨w.heap.size + 1, 1, none⟩ = some (.int .i64 hy) := fun w' hw => ⟨hw, bl_hold hw V1c1, bl_hold hw V1c2, bl_hold hw V1c3, bl_hold hw V1c4⟩
            have hv0 : Below V1.heap.size V1 V1.drew := bl_drew (Below.refl _ _)
            clear hb hbV hb12 V1c1 V1c2 V1c3 V1c4
            go_region_held3 (fun w' => Below V1.heap.size V1 w' ∧ w'.cell? ⟨w.heap.size, 0, none⟩ = some (.int .i64 lx) ∧ w'.cell? ⟨w.heap.size, 1, none⟩ = some (.int .i64 ly) ∧ w'.cell? ⟨w.heap.size + 1, 0, none⟩ = some (.int .i64 hx) ∧ w'.cell? ⟨w.heap.size + 1, 1, none⟩ = some (.int .i64 hy))
              (exact smk _ (by with_reducible assumption))
              (first
                | (go_at_call 14; refine (CI.out _ (by with_reducible assumption)).mono ?_; rintro e w9 ⟨rfl, hbX⟩; have hvX := below_step (by with_reducible assumption : Below V1.heap.size V1 _) hbX)
                | (go_at_call 15; have hh1 := hrE; have hh2 := hrF; clear hh1 hh2; refine (S3.out _ _ _ _ _ (by first | exact hrE | exact hrE.bl hbF) (by first | exact hrF | exact hrF.bl hbE)).mono ?_; rintro e w9 ⟨rfl, hbS⟩; have hvS3 := below_step (by with_reducible assumption : Below V1.heap.size V1 _) hbS)
                | (go_at_call 15; have hh1 := hrC; have hh2 := hrD; clear hh1 hh2; refine (S2.out _ _ _ _ _ (by first | exact hrC | exact hrC.bl hbD) (by first | exact hrD | exact hrD.bl hbC)).mono ?_; rintro e w9 ⟨rfl, hbS⟩; have hvS2 := below_step (by with_reducible assumption : Below V1.heap.size V1 _) hbS)
                | (go_at_call 15; refine (S1.out _ _ _ _ _ (by first | exact hrA | exact hrA.bl hbB) (by first | exact hrB | exact hrB.bl hbA)).mono ?_; rintro e w9 ⟨rfl, hbS⟩; have hvS1 := below_step (by with_reducible assumption : Below V1.heap.size V1 _) hbS)
                | (go_at_call 16; refine (CF.out _ (by with_reducible assumption)).mono ?_; rintro e w9 ⟨YE, cE, rfl, hrE, hbE⟩; have hvE := below_step (by with_reducible assumption : Below V1.heap.size V1 _) hbE)
                | (go_at_call 19; refine (RF.out _ (by with_reducible assumption)).mono ?_; rintro e w9 ⟨YF, cF, rfl, hrF, hbF⟩; have hvF := below_step (by with_reducible assumption : Below V1.heap.size V1 _) hbF)
                | (go_at_call 12; refine (CB.out _ (by with_reducible assumption)).mono ?_; rintro e w9 ⟨YC, cC, rfl, hrC, hbC⟩; have hvC := below_step (by with_reducible assumption : Below V1.heap.size V1 _) hbC)
                | (go_at_call 18; refine (RB.out _ (by with_reducible assumption)).mono ?_; rintro e w9 ⟨YD, cD, rfl, hrD, hbD⟩; have hvD := below_step (by with_reducible assumption : Below V1.heap.size V1 _) hbD)
                | (go_at_call 10; refine (CS.out _ (by with_reducible assumption)).mono ?_; rintro e w9 ⟨YA, cA, rfl, hrA, hbA⟩; have hvA := below_step (by with_reducible assumption : Below V1.heap.size V1 _) hbA)
                | (go_at_call 17; refine (RS.out _ (by with_reducible assumption)).mono ?_; rintro e w9 ⟨YB, cB, rfl, hrB, hbB⟩; have hvB := below_step (by with_reducible assumption : Below V1.heap.size V1 _) hbB))
            all_goals (go_wp2_with fail; go_meet; exact ⟨by first | rfl | simp, by with_reducible assumption⟩)
          case rest =>
            obtain ⟨rfl, hbx⟩ := hcut
            have hbV2 := below_step hbV hbx
            have hb13 := below_step hb12 hbx
            have HZ4 := cell_lt (bl_hold hbx V1c4)
            obtain ⟨V2, hV2⟩ : ∃ W, W = wc := ⟨_, rfl⟩
            subst hV2
            have NR2 := Lib.hid (NR.out V2 hbV2)
            have wt : IntKind.i64.wrap (t.tmod 200) = t.tmod 200 := by have := tmod_bd19 t 200 (by decide); rw [IntKind.wrap_i64]; omega
            have wd : IntKind.i64.wrap (d % 256 + 1) = d % 256 + 1 := by rw [IntKind.wrap_i64]; omega
            clear CS RS CB RB CF RF CI S1 S2 S3 V1c1 V1c2 V1c3 V1c4 hbV hbx hb12 hb
            go_wp2_with fail
            refine (NR2.out).mono ?_
            rintro e_2 w_2 ⟨v, L', rfl, hown, hl12, _, hb_2⟩
            obtain ⟨o1, o2, o3, o4, p1, p2, p3, p4⟩ := HLO.out _ (below_step hb13 hb_2)
            have hbW2 := below_step hbV2 hb_2
            obtain ⟨Y', c', rfl, hc', _⟩ := own_ring2 hown
            have HL12 := Lib.hid hl12
            have HC' := Lib.hid hc'
            clear NR2 HLO hb13 hbV2 hb_2 hl12 hc'
            obtain ⟨N', hN'⟩ : ∃ n, L'.length = n := ⟨_, rfl⟩
            have HNN := Lib.hid hN'
            rw [hN'] at hown ⊢
            clear hN'
            go_wp2_with fail
            go_loopg [22] 2 (fun n aa W => ∃ (a : Nat) (lx ly hx hy : Int), a + n = 2 ∧ aa = .int .i64 (a : Int) ∧ (W.cell? ⟨w.heap.size, 0, none⟩ = some (.int .i64 lx) ∧ W.cell? ⟨w.heap.size, 1, none⟩ = some (.int .i64 ly) ∧ W.cell? ⟨w.heap.size + 1, 0, none⟩ = some (.int .i64 hx) ∧ W.cell? ⟨w.heap.size + 1, 1, none⟩ = some (.int .i64 hy)) ∧ (W.frozen? ⟨w.heap.size, 0, none⟩ = false ∧ W.frozen? ⟨w.heap.size, 1, none⟩ = false ∧ W.frozen? ⟨w.heap.size + 1, 0, none⟩ = false ∧ W.frozen? ⟨w.heap.size + 1, 1, none⟩ = false) ∧ W.ownsRow V2.heap.size 26 2 (.slice Y' N' c') N' (rgRow L') ∧ Below w.heap.size w W)
            case atStart => exact ⟨0, lx, ly, hx, hy, by omega, rfl, ⟨o1, o2, o3, o4⟩, ⟨p1, p2, p3, p4⟩, hown, hbW2⟩
            case round =>
              clear o1 o2 o3 o4 p1 p2 p3 p4 hown hbW2
              obtain ⟨a, lx, ly, hx, hy, ha, rfl, ⟨e1, e2, e3, e4⟩, ⟨f1, f2, f3, f4⟩, hown, hb⟩ := hrel
              rcases (show a = 0 ∨ a = 1 ∨ a = 2 by omega) with h | h | h
              · subst h
                have wx1 : IntKind.i64.wrap (lx.tmod 200) = lx.tmod 200 := by have := tmod_bd19 lx 200 (by decide); rw [IntKind.wrap_i64]; omega
                have wx2 : IntKind.i64.wrap (hx.tmod 200) = hx.tmod 200 := by have := tmod_bd19 hx 200 (by decide); rw [IntKind.wrap_i64]; omega
                have HOWN := Lib.hid hown
                clear hown
                go_wp2_with fail
                go_region
                all_goals (go_wp2_with fail; go_roundg 1; (case measure => omega); (case rel => exact ⟨1, lx.tmod 200, ly, hx.tmod 200, hy, by omega, by first | rfl | go_num, ⟨by simp [go_sem, e1, e2, e3, e4], by simp [go_sem, e1, e2, e3, e4], by simp [go_sem, e1, e2, e3, e4], by simp [go_sem, e1, e2, e3, e4]⟩, ⟨by simp [go_sem, f1, f2, f3, f4], by simp [go_sem, f1, f2, f3, f4], by simp [go_sem, f1, f2, f3, f4], by simp [go_sem, f1, f2, f3, f4]⟩, ownsRow_setCell_below (ownsRow_setCell_below (own_bl HOWN.out (bl_drew (Below.refl _ _))) (by simp; omega) _) (by simp; omega) _, by repeat (first | with_reducible exact Below.refl _ _ | with_reducible refine bl_alloc ?_ _ | with_reducible refine bl_drewN ?_ _ | with_reducible refine bl_drew ?_ | (with_reducible refine bl_set ?_ ?_ _; rotate_left; focus (first | (simp; done) | (simp; omega) | omega)) | with_reducible refine below_step ?_ (Bw.below _) | with_reducible refine below_step ?_ (by assumption))⟩))
              · subst h
                have wx1 : IntKind.i64.wrap (ly.tmod 200) = ly.tmod 200 := by have := tmod_bd19 ly 200 (by decide); rw [IntKind.wrap_i64]; omega
                have wx2 : IntKind.i64.wrap (hy.tmod 200) = hy.tmod 200 := by have := tmod_bd19 hy 200 (by decide); rw [IntKind.wrap_i64]; omega
                have HOWN := Lib.hid hown
                clear hown
                go_wp2_with fail
                go_region
                all_goals (go_wp2_with fail; go_roundg 0; (case measure => omega); (case rel => exact ⟨2, lx, ly.tmod 200, hx, hy.tmod 200, by omega, by first | rfl | go_num, ⟨by simp [go_sem, e1, e2, e3, e4], by simp [go_sem, e1, e2, e3, e4], by simp [go_sem, e1, e2, e3, e4], by simp [go_sem, e1, e2, e3, e4]⟩, ⟨by simp [go_sem, f1, f2, f3, f4], by simp [go_sem, f1, f2, f3, f4], by simp [go_sem, f1, f2, f3, f4], by simp [go_sem, f1, f2, f3, f4]⟩, ownsRow_setCell_below (ownsRow_setCell_below (own_bl HOWN.out (bl_drew (Below.refl _ _))) (by simp; omega) _) (by simp; omega) _, by repeat (first | with_reducible exact Below.refl _ _ | with_reducible refine bl_alloc ?_ _ | with_reducible refine bl_drewN ?_ _ | with_reducible refine bl_drew ?_ | (with_reducible refine bl_set ?_ ?_ _; rotate_left; focus (first | (simp; done) | (simp; omega) | omega)) | with_reducible refine below_step ?_ (Bw.below _) | with_reducible refine below_step ?_ (by assumption))⟩))
              · subst h
                rw [← HNN.out] at hown
                obtain ⟨Y2, c2, e7, _, hr2⟩ := own_ring2 hown
                cases e7
                have HR2 := Lib.hid hr2
                clear hown hr2
                go_wp2_with fail
                go_roundg (2 - (i + 1))
                case measure => omega
                case rel => exact ⟨i + 1, c', ax % 2, t.tmod 200, d % 256 + 1, lx, ly, hx, hy, Y', L', by omega, by go_num, by first | rfl | simp, rfl, rfl, by rw [HNN.out], by have := HL12.out; omega, HC'.out, by omega, HR2.out, ⟨e1, e2, e3, e4⟩, ⟨f1, f2, f3, f4⟩, hb⟩
    · subst hlt
      go_wp2_with fail
      refine (awake19 _).mono ?_
      rintro e_2 w_2 ⟨rfl, hb_2⟩
      go_wp2_with fail
      go_ret
      exact ⟨rfl, below_step hb hb_2⟩
/-! THE STATEMENT ClipTells -/
section
open Go.ChangeShapes Go.WideShapes Go.ChangeAt Go.RowKit Go.Joins
set_option linter.unusedVariables false
set_option maxRecDepth 100000 in
theorem clipTells_lifted (os : Os) (started : os.Started) (H : Type) (enc : TypeId × Value → H) :
    ReturnsInHanded {} Try.checked os 8 .any (Rows.clipTellsSpec.pre6 enc Try.prog Try.f8 Rows.clipTellsRow.domain false) (Rows.clipTellsSpec.post enc Try.prog Try.f8 false true false false) := by
  refine returnsInHanded_of_change (C := Try.checked) (show ownKnob Try.prog.godebug = none by kernel_rfl) started (by kernel_rfl) Try.func8
    (ChangeSpec.witness6 (enc := enc) (C := Try.checked) false ⟨#[], #[.slice none 0 0, .slice none 0 0, .int .i64 0, .int .i64 0, .bool false, .agg #[.int .i64 0, .int .i64 0], .agg #[.int .i64 0, .int .i64 0], .int .i64 0], []⟩ 8 (by kernel_rfl) (by kernel_rfl) (by kernel_rfl) (by kernel_rfl)) ?_
  intro W base args ds gs before hval0 hW hcnd _
  have hval : ∀ (j : Nat) t v, Try.f8.params[j]? = some t → args[j]? = some v → Value.okWide Try.prog W .any base t v := hval0
  have hW' := hW
  obtain ⟨p, q, hA0, hV, rfl, hfz, hnd⟩ := hW
  have hA : DataW.TrodAll enc Try.prog W 0 (fun _ => true) true Try.f8.params.toList args.toList ds p := hA0
  rw [Try.params8] at hA hval
  obtain ⟨v0, vs0, d0, ds0, p0, q0, hargs, rfl, rfl, h0, r0⟩ := trodAll_cons hA
  obtain ⟨v1, vs1, d1, ds1, p1, q1, rfl, rfl, rfl, h1, r1⟩ := trodAll_cons r0
  obtain ⟨v2, vs2, d2, ds2, p2, q2, rfl, rfl, rfl, h2, r2⟩ := trodAll_cons r1
  obtain ⟨v3, vs3, d3, ds3, p3, q3, rfl, rfl, rfl, h3, r3⟩ := trodAll_cons r2
  obtain ⟨v4, vs4, d4, ds4, p4, q4, rfl, rfl, rfl, h4, r4⟩ := trodAll_cons r3
  obtain ⟨v5, vs5, d5, ds5, p5, q5, rfl, rfl, rfl, h5, r5⟩ := trodAll_cons r4
  obtain ⟨v6, vs6, d6, ds6, p6, q6, rfl, rfl, rfl, h6, r6⟩ := trodAll_cons r5
  obtain ⟨v7, vs7, d7, ds7, p7, q7, rfl, rfl, rfl, h7, r7⟩ := trodAll_cons r6
  obtain ⟨rfl, rfl, rfl⟩ := trodAll_nil r7
  obtain rfl : args = #[v0, v1, v2, v3, v4, v5, v6, v7] := by cases args; simp_all
  obtain ⟨rfl, rfl⟩ := trodVars_none hV
  have h0k := h0
  obtain ⟨X0, c0, L0, rfl, hc_L0, hz_L0⟩ := open_ringF Try.underlying23 Try.underlying26 (show Try.prog.cellsOf 26 = 2 by kernel_rfl) (show Try.prog.cellsOf 2 = 1 by kernel_rfl) Try.underlying2 (hval 0 23 v0 rfl rfl) h0
  have h1k := h1
  obtain ⟨X1, n1, c1, Z1, rfl, wf_n1, hz_Z1, hb_Z1⟩ := open_intsF Try.underlying22 Try.underlying2 (show Try.prog.cellsOf 2 = 1 by kernel_rfl) (hval 1 22 v1 rfl rfl) h1
  obtain ⟨ax, rfl, rfl, rfl, wf_ax⟩ := open_int Try.underlying3 (hval 2 3 v2 rfl rfl) h2
  obtain ⟨t, rfl, rfl, rfl, wf_t⟩ := open_int Try.underlying2 (hval 3 2 v3 rfl rfl) h3
  obtain ⟨ab, rfl, rfl, rfl⟩ := open_bool Try.underlying4 (hval 4 4 v4 rfl rfl) h4
  obtain ⟨lx, ly, rfl, rfl, rfl, wf_lx, wf_ly⟩ := open_arr2 Try.underlying26 (show Try.prog.cellsOf 26 = 2 by kernel_rfl) (show Try.prog.cellsOf 2 = 1 by kernel_rfl) Try.underlying2 (hval 5 26 v5 rfl rfl) h5
  obtain ⟨hx, hy, rfl, rfl, rfl, wf_hx, wf_hy⟩ := open_arr2 Try.underlying26 (show Try.prog.cellsOf 26 = 2 by kernel_rfl) (show Try.prog.cellsOf 2 = 1 by kernel_rfl) Try.underlying2 (hval 6 26 v6 rfl rfl) h6
  obtain ⟨d, rfl, rfl, rfl, wf_d⟩ := open_int Try.underlying2 (hval 7 2 v7 rfl rfl) h7
  clear hA0 hval0
  simp only [List.append_nil] at hW'
  have hlt0 : ∀ x ∈ p0, x.block < W.heap.size := fun x hx => hW'.lt x (by simp [hx])
  have hlt1 : ∀ x ∈ p1, x.block < W.heap.size := fun x hx => hW'.lt x (by first | (simpa using hx) | (simp [hx]; done))
  refine (cliptells_walk X0 c0 L0 X1 n1 c1 Z1 ax t ab lx ly hx hy d hc_L0 wf_n1 hb_Z1 (wf_i64 wf_ax).1 (wf_i64 wf_ax).2 (wf_i64 wf_t).1 (wf_i64 wf_t).2 (wf_i64 wf_lx).1 (wf_i64 wf_lx).2 (wf_i64 wf_ly).1 (wf_i64 wf_ly).2 (wf_i64 wf_hx).1 (wf_i64 wf_hx).2 (wf_i64 wf_hy).1 (wf_i64 wf_hy).2 (wf_i64 wf_d).1 (wf_i64 wf_d).2 W hz_L0 hz_Z1).mono fun e W' ⟨he, hb⟩ => ?_
  subst he
  exact ⟨_, rfl, post_of_below (pv := []) hW' (fun _ _ _ => (trodAll_cons_mk (shut_bool Try.underlying4 _) trodAll_mk0)) (fun sp hsp => (trodAll_cons_mk (Go.WideElems.Trod_stays lidB (show Try.prog.readableRec 23 = true by kernel_rfl) (of_decide_eq_true (by kernel_rfl)) h0k (fun x hx => hb.same (hlt0 x hx)) (fun x hx => hsp x (by simp [hx]))) (trodAll_cons_mk (Go.WideElems.Trod_stays lidB (show Try.prog.readableRec 22 = true by kernel_rfl) (of_decide_eq_true (by kernel_rfl)) h1k (fun x hx => hb.same (hlt1 x hx)) (fun x hx => hsp x (by first | (simpa using hx) | (simp [hx]; done)))) (trodAll_cons_mk (shut_int Try.underlying3 wf_ax) (trodAll_cons_mk (shut_int Try.underlying2 wf_t) (trodAll_cons_mk (shut_bool Try.underlying4 ab) (trodAll_cons_mk (shut_arr2 Try.underlying26 (show Try.prog.cellsOf 26 = 2 by kernel_rfl) (show Try.prog.cellsOf 2 = 1 by kernel_rfl) Try.underlying2 wf_lx wf_ly) (trodAll_cons_mk (shut_arr2 Try.underlying26 (show Try.prog.cellsOf 26 = 2 by kernel_rfl) (show Try.prog.cellsOf 2 = 1 by kernel_rfl) Try.underlying2 wf_hx wf_hy) (trodAll_cons_mk (shut_int Try.underlying2 wf_d) trodAll_mk0))))))))) (fun _ _ => rfl) (by simp) hb
    (ok_one (by kernel_rfl) rfl (okWide_bool_mk Try.underlying4 _))⟩
theorem clipTells_holds : Rows.ClipTellsSaid :=
  OpenClaim.holds_of_wide 8 Try.f8 rfl rfl rfl rfl rfl rfl rfl ⟨rfl, rfl, rfl, rfl, rfl⟩ rfl rfl rfl rfl rfl (by kernel_rfl) Try.func8 (by kernel_rfl)
    (of_decide_eq_true (by kernel_rfl)) (by unfold Func.isWrapper; first | (rw [if_pos (by decide +kernel)]; kernel_rfl) | (rw [if_neg (by decide +kernel)]; exact ⟨rfl, rfl⟩))
    (fun os started H enc _ => clipTells_lifted os started H enc)
end
#print axioms clipTells_holds
end Go.Proofs.Ytnmehelejdbjaaa

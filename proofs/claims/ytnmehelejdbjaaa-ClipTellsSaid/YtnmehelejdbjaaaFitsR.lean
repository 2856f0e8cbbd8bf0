
/- The walks of the reference's spread and fits, of any ring. -/
import Derived.Test.YtnmehelejdbjaaaOkR
namespace Go.Proofs.Ytnmehelejdbjaaa
open Go.RowKit
set_option linter.unusedSimpArgs false
set_option linter.unusedVariables false
def Wid (L : List (Int × Int)) (a : Nat) : Prop := ∀ i j, i < L.length → j < L.length → cdn L a i - cdn L a j ≤ 1073741824
def Far (L : List (Int × Int)) (a : Nat) : Prop := ∀ j, j < L.length → -1099511627776 ≤ cdn L a j ∧ cdn L a j ≤ 1099511627776
theorem okr_fits {L : List (Int × Int)} (h : L.length ≤ 100) (f0 : Far L 0) (f1 : Far L 1) (w0 : Wid L 0) (w1 : Wid L 1) : okrB L = true :=
  okr_all h (fun k hk => ⟨f0 k hk, fun i hi => ⟨w0 k i hk (by omega), w0 i k (by omega) hk⟩⟩) (fun k hk => ⟨f1 k hk, fun i hi => ⟨w1 k i hk (by omega), w1 i k (by omega) hk⟩⟩)
theorem okr_nowid {L : List (Int × Int)} (a : Nat) (h : ¬ Wid L a) : okrB L = false := by
  rcases hB : okrB L with _ | _
  · rfl
  · refine absurd (fun i j hi hj => ?_) h
    rcases (show 1073741824 < cdn L a i - cdn L a j ∨ cdn L a i - cdn L a j ≤ 1073741824 by omega) with h2 | h2
    · rw [okr_wide a i j hi hj h2] at hB
      cases hB
    · exact h2
set_option maxRecDepth 100000 in
set_option maxHeartbeats 4000000 in
theorem ref_spreadR (X : Option Addr) (cap : Nat) (L : List (Int × Int)) (ax : Nat) (hax : ax = 0 ∨ ax = 1) (hlen : L.length ≤ 100) (hF : Far L ax) (w : World) (hr : RingAt w X L) :
    Calls Try.prog 28 #[.slice X L.length cap, .int .i64 (ax : Int)] w fun e w' => ∃ s : Int, e = .returned (.int .i64 s) ∧ (s ≤ 1073741824 ↔ Wid L ax) ∧ Below w.heap.size w w' := by
  have HR := Lib.hid (fun W (hb : Below w.heap.size w W) => hr.bl hb)
  unfold Wid
  have HF := Lib.hid hF
  unfold Far at HF
  clear hr hF
  obtain ⟨N, hN⟩ : ∃ N, L.length = N := ⟨_, rfl⟩
  have HN := Lib.hid hN
  rw [hN] at hlen HF ⊢
  have hNI : (N : Int) ≤ 100 := by omega
  clear hN
  rcases hax with rfl | rfl
  · rcases Nat.eq_zero_or_pos N with h0 | h0
    · subst h0
      go_enter Try.func28, Try.ntmps28
      go_wp2_with fail
      go_ret
      exact ⟨0, rfl, ⟨fun _ i j hi hj => by omega, fun _ => by decide⟩, by repeat (first | with_reducible exact Below.refl _ _ | with_reducible refine bl_alloc ?_ _ | with_reducible refine bl_drewN ?_ _ | with_reducible refine bl_drew ?_ | (with_reducible refine bl_set ?_ ?_ _; rotate_left; focus (first | (simp; done) | (simp; omega) | omega)) | with_reducible refine below_step ?_ (Bw.below _) | with_reducible refine below_step ?_ (by assumption))⟩
    · have q0 : ((N : Int) == 0) = false := by simp; omega
      have hN1 : (0 : Int) < (N : Int) := by omega
      obtain ⟨g, o, e, c1, c2⟩ := HR.out w (Below.refl _ _) 0 (by rw [HN.out]; exact h0)
      subst e
      obtain ⟨c, hc⟩ : ∃ c, cdn L 0 = c := ⟨_, rfl⟩
      have HX0 : Hid (c 0 = (L.getD 0 (0, 0)).1) := Lib.hid (by rw [← hc]; rfl)
      have HXJ : Hid (∀ j, c j = (L.getD j (0, 0)).1) := Lib.hid (by rw [← hc]; intro j; rfl)
      rw [hc] at HF ⊢
      clear hc
      generalize (L.getD 0 (0, 0)).1 = x at *
      generalize (L.getD 0 (0, 0)).2 = y at *
      rw [Nat.zero_mul, Nat.add_zero] at c1 c2
      go_enter Try.func28, Try.ntmps28
      go_wp2_with fail
      go_quiet (fail)
      go_wp2_with fail
      go_loopg [5, 6, 7] N (fun n lo hi i W => ∃ (j : Nat) (l h : Int), j + n = N ∧ i = .int .i64 (j : Int) ∧ lo = .int .i64 l ∧ hi = .int .i64 h ∧ (∀ i, i < j → l ≤ c i ∧ c i ≤ h) ∧ (∃ p, p < N ∧ c p = l) ∧ (∃ p, p < N ∧ c p = h) ∧ Below w.heap.size w W)
      case atStart => exact ⟨0, x, x, by omega, rfl, rfl, rfl, fun i h => by omega, ⟨0, h0, HX0.out⟩, ⟨0, h0, HX0.out⟩, by repeat (first | with_reducible exact Below.refl _ _ | with_reducible refine bl_alloc ?_ _ | with_reducible refine bl_drewN ?_ _ | with_reducible refine bl_drew ?_ | (with_reducible refine bl_set ?_ ?_ _; rotate_left; focus (first | (simp; done) | (simp; omega) | omega)) | with_reducible refine below_step ?_ (Bw.below _) | with_reducible refine below_step ?_ (by assumption))⟩
      case round =>
        clear c1 c2 HX0
        obtain ⟨j, l, h, hj, rfl, rfl, rfl, hG, hP, hQ, hb⟩ := hrel
        have HG := Lib.hid hG
        have HP := Lib.hid hP
        have HQ := Lib.hid hQ
        clear hG hP hQ
        rcases (show j < N ∨ j = N by omega) with hlt | hlt
        · obtain ⟨g', o', e', c1, c2⟩ := HR.out wr hb j (by rw [HN.out]; exact hlt)
          cases e'
          have hxj := HXJ.out j
          generalize (L.getD j (0, 0)).1 = x at *
          generalize (L.getD j (0, 0)).2 = y at *
          have HJ : Hid (∃ p, p < N ∧ c p = x) := Lib.hid ⟨j, hlt, hxj⟩
          have HXX := Lib.hid hxj
          clear hxj
          have hjI : (j : Int) < (N : Int) := by omega
          by_cases p1 : x < l <;> by_cases p2 : l < x <;> by_cases p3 : x < h <;> by_cases p4 : h < x
          all_goals first
            | (exfalso; omega)
            | (go_wp2_with fail
               go_quiet (fail)
               go_wp2_with fail
               go_roundg (N - (j + 1))
               case measure => omega
               case rel => exact ⟨j + 1, _, _, by omega, by go_num, rfl, rfl, fun i hi => by
                 rcases (show i < j ∨ i = j by omega) with h2 | h2
                 · have := HG.out i h2
                   first | omega | (split <;> omega) | (constructor <;> split <;> omega)
                 · subst h2
                   rw [HXX.out]
                   first | omega | (split <;> omega) | (constructor <;> split <;> omega), by first | exact HP.out | exact HJ.out | (split <;> first | exact HP.out | exact HJ.out), by first | exact HQ.out | exact HJ.out | (split <;> first | exact HQ.out | exact HJ.out), by repeat (first | with_reducible exact Below.refl _ _ | with_reducible refine bl_alloc ?_ _ | with_reducible refine bl_drewN ?_ _ | with_reducible refine bl_drew ?_ | (with_reducible refine bl_set ?_ ?_ _; rotate_left; focus (first | (simp; done) | (simp; omega) | omega)) | with_reducible refine below_step ?_ (Bw.below _) | with_reducible refine below_step ?_ (by assumption))⟩)
        · subst hlt
          obtain ⟨p, hp, hpl⟩ := HP.out
          obtain ⟨q, hq, hqh⟩ := HQ.out
          have b1 := HF.out p hp
          have b2 := HF.out q hq
          rw [hpl] at b1
          rw [hqh] at b2
          have w1 : IntKind.i64.wrap (h - l) = h - l := by rw [IntKind.wrap_i64]; omega
          have HS : Hid (h - l ≤ 1073741824 ↔ ∀ i k, i < j → k < j → c i - c k ≤ 1073741824) := Lib.hid ⟨fun hh i k hi hk => by
            have u1 := HG.out i hi
            have u2 := HG.out k hk
            omega, fun hh => by
            have := hh q p hq hp
            rw [hqh, hpl] at this
            exact this⟩
          clear hpl hqh b1 b2
          go_wp2_with fail
          go_ret
          exact ⟨_, rfl, HS.out, hb⟩
  · rcases Nat.eq_zero_or_pos N with h0 | h0
    · subst h0
      go_enter Try.func28, Try.ntmps28
      go_wp2_with fail
      go_ret
      exact ⟨0, rfl, ⟨fun _ i j hi hj => by omega, fun _ => by decide⟩, by repeat (first | with_reducible exact Below.refl _ _ | with_reducible refine bl_alloc ?_ _ | with_reducible refine bl_drewN ?_ _ | with_reducible refine bl_drew ?_ | (with_reducible refine bl_set ?_ ?_ _; rotate_left; focus (first | (simp; done) | (simp; omega) | omega)) | with_reducible refine below_step ?_ (Bw.below _) | with_reducible refine below_step ?_ (by assumption))⟩
    · have q0 : ((N : Int) == 0) = false := by simp; omega
      have hN1 : (0 : Int) < (N : Int) := by omega
      obtain ⟨g, o, e, c1, c2⟩ := HR.out w (Below.refl _ _) 0 (by rw [HN.out]; exact h0)
      subst e
      obtain ⟨c, hc⟩ : ∃ c, cdn L 1 = c := ⟨_, rfl⟩
      have HX0 : Hid (c 0 = (L.getD 0 (0, 0)).2) := Lib.hid (by rw [← hc]; rfl)
      have HXJ : Hid (∀ j, c j = (L.getD j (0, 0)).2) := Lib.hid (by rw [← hc]; intro j; rfl)
      rw [hc] at HF ⊢
      clear hc
      generalize (L.getD 0 (0, 0)).1 = x at *
      generalize (L.getD 0 (0, 0)).2 = y at *
      rw [Nat.zero_mul, Nat.add_zero] at c1 c2
      go_enter Try.func28, Try.ntmps28
      go_wp2_with fail
      go_quiet (fail)
      go_wp2_with fail
      go_loopg [5, 6, 7] N (fun n lo hi i W => ∃ (j : Nat) (l h : Int), j + n = N ∧ i = .int .i64 (j : Int) ∧ lo = .int .i64 l ∧ hi = .int .i64 h ∧ (∀ i, i < j → l ≤ c i ∧ c i ≤ h) ∧ (∃ p, p < N ∧ c p = l) ∧ (∃ p, p < N ∧ c p = h) ∧ Below w.heap.size w W)
      case atStart => exact ⟨0, y, y, by omega, rfl, rfl, rfl, fun i h => by omega, ⟨0, h0, HX0.out⟩, ⟨0, h0, HX0.out⟩, by repeat (first | with_reducible exact Below.refl _ _ | with_reducible refine bl_alloc ?_ _ | with_reducible refine bl_drewN ?_ _ | with_reducible refine bl_drew ?_ | (with_reducible refine bl_set ?_ ?_ _; rotate_left; focus (first | (simp; done) | (simp; omega) | omega)) | with_reducible refine below_step ?_ (Bw.below _) | with_reducible refine below_step ?_ (by assumption))⟩
      case round =>
        clear c1 c2 HX0
        obtain ⟨j, l, h, hj, rfl, rfl, rfl, hG, hP, hQ, hb⟩ := hrel
        have HG := Lib.hid hG
        have HP := Lib.hid hP
        have HQ := Lib.hid hQ
        clear hG hP hQ
        rcases (show j < N ∨ j = N by omega) with hlt | hlt
        · obtain ⟨g', o', e', c1, c2⟩ := HR.out wr hb j (by rw [HN.out]; exact hlt)
          cases e'
          have hxj := HXJ.out j
          generalize (L.getD j (0, 0)).1 = x at *
          generalize (L.getD j (0, 0)).2 = y at *
          have HJ : Hid (∃ p, p < N ∧ c p = y) := Lib.hid ⟨j, hlt, hxj⟩
          have HXX := Lib.hid hxj
          clear hxj
          have hjI : (j : Int) < (N : Int) := by omega
          by_cases p1 : y < l <;> by_cases p2 : l < y <;> by_cases p3 : y < h <;> by_cases p4 : h < y
          all_goals first
            | (exfalso; omega)
            | (go_wp2_with fail
               go_quiet (fail)
               go_wp2_with fail
               go_roundg (N - (j + 1))
               case measure => omega
               case rel => exact ⟨j + 1, _, _, by omega, by go_num, rfl, rfl, fun i hi => by
                 rcases (show i < j ∨ i = j by omega) with h2 | h2
                 · have := HG.out i h2
                   first | omega | (split <;> omega) | (constructor <;> split <;> omega)
                 · subst h2
                   rw [HXX.out]
                   first | omega | (split <;> omega) | (constructor <;> split <;> omega), by first | exact HP.out | exact HJ.out | (split <;> first | exact HP.out | exact HJ.out), by first | exact HQ.out | exact HJ.out | (split <;> first | exact HQ.out | exact HJ.out), by repeat (first | with_reducible exact Below.refl _ _ | with_reducible refine bl_alloc ?_ _ | with_reducible refine bl_drewN ?_ _ | with_reducible refine bl_drew ?_ | (with_reducible refine bl_set ?_ ?_ _; rotate_left; focus (first | (simp; done) | (simp; omega) | omega)) | with_reducible refine below_step ?_ (Bw.below _) | with_reducible refine below_step ?_ (by assumption))⟩)
        · subst hlt
          obtain ⟨p, hp, hpl⟩ := HP.out
          obtain ⟨q, hq, hqh⟩ := HQ.out
          have b1 := HF.out p hp
          have b2 := HF.out q hq
          rw [hpl] at b1
          rw [hqh] at b2
          have w1 : IntKind.i64.wrap (h - l) = h - l := by rw [IntKind.wrap_i64]; omega
          have HS : Hid (h - l ≤ 1073741824 ↔ ∀ i k, i < j → k < j → c i - c k ≤ 1073741824) := Lib.hid ⟨fun hh i k hi hk => by
            have u1 := HG.out i hi
            have u2 := HG.out k hk
            omega, fun hh => by
            have := hh q p hq hp
            rw [hqh, hpl] at this
            exact this⟩
          clear hpl hqh b1 b2
          go_wp2_with fail
          go_ret
          exact ⟨_, rfl, HS.out, hb⟩
set_option maxRecDepth 100000 in
set_option maxHeartbeats 4000000 in
theorem ref_fitsR (X : Option Addr) (cap : Nat) (L : List (Int × Int)) (hlen : L.length ≤ 1000) (w : World) (hr : RingAt w X L) :
    Calls Try.prog 22 #[.slice X L.length cap] w fun e w' => e = .returned (.bool (okrB L)) ∧ Below w.heap.size w w' := by
  have HR := Lib.hid (fun W (hb : Below w.heap.size w W) => hr.bl hb)
  have HF0 := Lib.hid (okr_len (L := L))
  have HF1 := Lib.hid (okr_far (L := L))
  have HNW := Lib.hid (fun a => okr_nowid (L := L) a)
  have HT := Lib.hid (okr_fits (L := L))
  have S0 := Lib.hid (fun h1 h2 W (hb : Below w.heap.size w W) => ref_spreadR X cap L 0 (by decide) h1 h2 W (hr.bl hb))
  have S1 := Lib.hid (fun h1 h2 W (hb : Below w.heap.size w W) => ref_spreadR X cap L 1 (by decide) h1 h2 W (hr.bl hb))
  clear hr
  obtain ⟨N, hN⟩ : ∃ N, L.length = N := ⟨_, rfl⟩
  have HN := Lib.hid hN
  rw [hN] at hlen S0 S1 ⊢
  clear hN
  generalize okrB L = B at *
  rcases Nat.lt_or_ge 100 N with h100 | h100
  · have hNI : (100 : Int) < (N : Int) := by omega
    have e0 := HF0.out (by rw [HN.out]; exact h100)
    rw [e0]
    clear HF0 HF1 HNW HT S0 S1 e0
    go_enter Try.func22, Try.ntmps22
    go_wp2_with fail
    go_ret
    exact ⟨rfl, by repeat (first | with_reducible exact Below.refl _ _ | with_reducible refine bl_alloc ?_ _ | with_reducible refine bl_drewN ?_ _ | with_reducible refine bl_drew ?_ | (with_reducible refine bl_set ?_ ?_ _; rotate_left; focus (first | (simp; done) | (simp; omega) | omega)) | with_reducible refine below_step ?_ (Bw.below _) | with_reducible refine below_step ?_ (by assumption))⟩
  have hNI : (N : Int) ≤ 100 := by omega
  go_enter Try.func22, Try.ntmps22
  go_wp2_with fail
  go_loopg [3] N (fun n i W => ∃ j : Nat, j + n = N ∧ i = .int .i64 (j : Int) ∧ (∀ k, k < j → (-1099511627776 ≤ cdn L 0 k ∧ cdn L 0 k ≤ 1099511627776) ∧ -1099511627776 ≤ cdn L 1 k ∧ cdn L 1 k ≤ 1099511627776) ∧ Below w.heap.size w W)
  case atStart => exact ⟨0, by omega, rfl, fun k h => by omega, by repeat (first | with_reducible exact Below.refl _ _ | with_reducible refine bl_alloc ?_ _ | with_reducible refine bl_drewN ?_ _ | with_reducible refine bl_drew ?_ | (with_reducible refine bl_set ?_ ?_ _; rotate_left; focus (first | (simp; done) | (simp; omega) | omega)) | with_reducible refine below_step ?_ (Bw.below _) | with_reducible refine below_step ?_ (by assumption))⟩
  case round =>
    obtain ⟨j, hj, rfl, hG, hb⟩ := hrel
    have HG := Lib.hid hG
    clear hG
    rcases (show j < N ∨ j = N by omega) with hlt | hlt
    · as_aux_lemma =>
      have hjI : (j : Int) < (N : Int) := by omega
      have HX : Hid (cdn L 0 j = (L.getD j (0, 0)).1) := Lib.hid rfl
      have HY : Hid (cdn L 1 j = (L.getD j (0, 0)).2) := Lib.hid rfl
      obtain ⟨x, hx⟩ : ∃ x, (L.getD j (0, 0)).1 = x := ⟨_, rfl⟩
      obtain ⟨y, hy⟩ : ∃ y, (L.getD j (0, 0)).2 = y := ⟨_, rfl⟩
      rw [hx] at HX
      rw [hy] at HY
      have HXX := Lib.hid hx
      have HYY := Lib.hid hy
      clear hx hy S0 S1 HNW HT
      go_wp2_with fail
      go_loopg [4] 2 (fun n i W => ∃ k : Nat, k + n = 2 ∧ i = .int .i64 (k : Int) ∧ (0 < k → -1099511627776 ≤ x ∧ x ≤ 1099511627776) ∧ (1 < k → -1099511627776 ≤ y ∧ y ≤ 1099511627776) ∧ Below w.heap.size w W)
      case atStart => exact ⟨0, by omega, rfl, fun h => by omega, fun h => by omega, hb⟩
      case round =>
        clear hb
        obtain ⟨k, hk, rfl, hk1, hk2, hb⟩ := hrel
        obtain ⟨g, o, e, c1, c2⟩ := HR.out wr hb j (by rw [HN.out]; exact hlt)
        subst e
        rw [HXX.out] at c1
        rw [HYY.out] at c2
        rcases (show k = 0 ∨ k = 1 ∨ k = 2 by omega) with h | h | h
        · subst h
          clear hk1 hk2
          by_cases k1 : x < -1099511627776
          · have HE0 := Lib.hid (HF1.out 0 j (by rw [HN.out]; exact hlt) (by rw [HX.out]; omega))
            clear HF0 HF1
            go_wp2_with fail
            go_ret
            exact ⟨by rw [HE0.out]; rfl, by repeat (first | with_reducible exact Below.refl _ _ | with_reducible refine bl_alloc ?_ _ | with_reducible refine bl_drewN ?_ _ | with_reducible refine bl_drew ?_ | (with_reducible refine bl_set ?_ ?_ _; rotate_left; focus (first | (simp; done) | (simp; omega) | omega)) | with_reducible refine below_step ?_ (Bw.below _) | with_reducible refine below_step ?_ (by assumption))⟩
          by_cases k2 : 1099511627776 < x
          · have HE0 := Lib.hid (HF1.out 0 j (by rw [HN.out]; exact hlt) (by rw [HX.out]; omega))
            clear HF0 HF1
            go_wp2_with fail
            go_ret
            exact ⟨by rw [HE0.out]; rfl, by repeat (first | with_reducible exact Below.refl _ _ | with_reducible refine bl_alloc ?_ _ | with_reducible refine bl_drewN ?_ _ | with_reducible refine bl_drew ?_ | (with_reducible refine bl_set ?_ ?_ _; rotate_left; focus (first | (simp; done) | (simp; omega) | omega)) | with_reducible refine below_step ?_ (Bw.below _) | with_reducible refine below_step ?_ (by assumption))⟩
          clear HF0 HF1
          go_wp2_with fail
          go_roundg 1
          case measure => omega
          case rel => exact ⟨1, by omega, by first | rfl | go_num, fun _ => by omega, fun h => by omega, hb⟩
        · subst h
          have hk3 := hk1 (by omega)
          clear hk1 hk2
          by_cases k1 : y < -1099511627776
          · have HE0 := Lib.hid (HF1.out 1 j (by rw [HN.out]; exact hlt) (by rw [HY.out]; omega))
            clear HF0 HF1
            go_wp2_with fail
            go_ret
            exact ⟨by rw [HE0.out]; rfl, by repeat (first | with_reducible exact Below.refl _ _ | with_reducible refine bl_alloc ?_ _ | with_reducible refine bl_drewN ?_ _ | with_reducible refine bl_drew ?_ | (with_reducible refine bl_set ?_ ?_ _; rotate_left; focus (first | (simp; done) | (simp; omega) | omega)) | with_reducible refine below_step ?_ (Bw.below _) | with_reducible refine below_step ?_ (by assumption))⟩
          by_cases k2 : 1099511627776 < y
          · have HE0 := Lib.hid (HF1.out 1 j (by rw [HN.out]; exact hlt) (by rw [HY.out]; omega))
            clear HF0 HF1
            go_wp2_with fail
            go_ret
            exact ⟨by rw [HE0.out]; rfl, by repeat (first | with_reducible exact Below.refl _ _ | with_reducible refine bl_alloc ?_ _ | with_reducible refine bl_drewN ?_ _ | with_reducible refine bl_drew ?_ | (with_reducible refine bl_set ?_ ?_ _; rotate_left; focus (first | (simp; done) | (simp; omega) | omega)) | with_reducible refine below_step ?_ (Bw.below _) | with_reducible refine below_step ?_ (by assumption))⟩
          clear HF0 HF1
          go_wp2_with fail
          go_roundg 0
          case measure => omega
          case rel => exact ⟨2, by omega, by first | rfl | go_num, fun _ => hk3, fun _ => by omega, hb⟩
        · subst h
          have HI1 := Lib.hid (hk1 (by omega))
          have HI2 := Lib.hid (hk2 (by omega))
          clear hk1 hk2 HF0 HF1
          go_wp2_with fail
          go_roundg (N - (j + 1))
          case measure => omega
          case rel => exact ⟨j + 1, by omega, by go_num, fun k h => by
            rcases (show k < j ∨ k = j by omega) with h2 | h2
            · exact HG.out k h2
            · subst h2
              rw [HX.out, HY.out]
              exact ⟨HI1.out, HI2.out⟩, hb⟩
    · subst hlt
      have F0 : Far L 0 := fun k hk => (HG.out k (by rw [HN.out] at hk; exact hk)).1
      have F1 : Far L 1 := fun k hk => (HG.out k (by rw [HN.out] at hk; exact hk)).2
      have h100' : L.length ≤ 100 := by rw [HN.out]; exact h100
      have S0' := Lib.hid (S0.out h100 F0 wr hb)
      have S1' := Lib.hid (fun W hW => S1.out h100 F1 W hW)
      have HT' := Lib.hid (HT.out h100' F0 F1)
      have HN0 := Lib.hid (HNW.out 0)
      have HN1 := Lib.hid (HNW.out 1)
      clear F0 F1 h100' S0 S1 HT HNW HF0 HF1
      generalize Wid L 0 = D0 at *
      generalize Wid L 1 = D1 at *
      go_wp2_with fail
      refine (S0'.out).mono ?_
      rintro e_1 w_1 ⟨s0, rfl, hs0, hb_1⟩
      by_cases k1 : s0 ≤ 1073741824
      · have HD0 := Lib.hid (hs0.1 k1)
        clear hs0
        have S1'' := Lib.hid (S1'.out w_1 (below_step hb hb_1))
        go_wp2_with fail
        refine (S1''.out).mono ?_
        rintro e_2 w_2 ⟨s1, rfl, hs1, hb_2⟩
        by_cases k2 : s1 ≤ 1073741824
        · have HE0 := Lib.hid (HT'.out HD0.out (hs1.1 k2))
          clear hs1
          go_wp2_with fail
          go_ret
          exact ⟨by rw [HE0.out]; rfl, below_step (below_step hb hb_1) hb_2⟩
        · have HE0 := Lib.hid (HN1.out (fun h => k2 (hs1.2 h)))
          clear hs1
          go_wp2_with fail
          go_ret
          exact ⟨by rw [HE0.out]; show Ending.returned (.bool (decide (s1 ≤ 1073741824))) = _; rw [decide_eq_false (by omega)], below_step (below_step hb hb_1) hb_2⟩
      · have HE0 := Lib.hid (HN0.out (fun h => k1 (hs0.2 h)))
        clear hs0
        go_wp2_with fail
        go_ret
        exact ⟨by rw [HE0.out]; rfl, below_step hb hb_1⟩
theorem ref_FitsR (X : Option Addr) (cap : Nat) (L : List (Int × Int)) (hlen : L.length ≤ 1000) (w : World) (hr : RingAt w X L) :
    Calls Try.prog 13 #[.slice X L.length cap] w fun e w' => e = .returned (.bool (okrB L)) ∧ Below w.heap.size w w' := by
  have F := Lib.hid (ref_fitsR X cap L hlen w hr)
  clear hr
  go_enter Try.func13, Try.ntmps13
  go_wp2_with fail
  refine (F.out).mono ?_
  rintro e_1 w_1 ⟨rfl, hb_1⟩
  go_wp2_with fail
  go_ret
  exact ⟨rfl, hb_1⟩
end Go.Proofs.Ytnmehelejdbjaaa


/- The walk of clip's ok, of any ring. -/
import Derived.Test.YtnmehelejdbjaaaClipOk
namespace Go.Proofs.Ytnmehelejdbjaaa
open Go.RowKit
set_option linter.unusedSimpArgs false
set_option linter.unusedVariables false
/-- A ring that may be clipped. -/
def Okr (L : List (Int × Int)) : Prop := L.length ≤ 100 ∧ (∀ p ∈ L, -1099511627776 ≤ p.1 ∧ p.1 ≤ 1099511627776 ∧ -1099511627776 ≤ p.2 ∧ p.2 ≤ 1099511627776) ∧ ∀ p ∈ L, ∀ q ∈ L, p.1 - q.1 ≤ 1073741824 ∧ p.2 - q.2 ≤ 1073741824
def okrB (L : List (Int × Int)) : Bool := decide (L.length ≤ 100) && L.all (fun p => decide (-1099511627776 ≤ p.1 ∧ p.1 ≤ 1099511627776 ∧ -1099511627776 ≤ p.2 ∧ p.2 ≤ 1099511627776)) && L.all fun p => L.all fun q => decide (p.1 - q.1 ≤ 1073741824 ∧ p.2 - q.2 ≤ 1073741824)
theorem okrB_iff {L : List (Int × Int)} : okrB L = true ↔ Okr L := by
  unfold okrB Okr
  simp only [Bool.and_eq_true, decide_eq_true_eq, List.all_eq_true]
  exact ⟨fun h => ⟨h.1.1, h.1.2, h.2⟩, fun h => ⟨⟨h.1, h.2.1⟩, h.2.2⟩⟩
theorem okr_yes {L : List (Int × Int)} (h : Okr L) : okrB L = true := okrB_iff.2 h
theorem okr_no {L : List (Int × Int)} (h : ¬ Okr L) : okrB L = false := by
  rcases hB : okrB L with _ | _
  · rfl
  · exact absurd (okrB_iff.1 hB) h
theorem okr_of {L : List (Int × Int)} (h : okrB L = true) : Okr L := okrB_iff.1 h
/-- A corner's number of an axis. -/
def cdn (L : List (Int × Int)) (a j : Nat) : Int := if a = 0 then (L.getD j (0, 0)).1 else (L.getD j (0, 0)).2
theorem getD_mem9 (L : List (Int × Int)) (j : Nat) (hj : j < L.length) : L.getD j (0, 0) ∈ L := by
  rw [List.getD_eq_getElem?_getD, List.getElem?_eq_getElem hj]
  exact List.getElem_mem hj
theorem mem_getD9 (L : List (Int × Int)) (p : Int × Int) (h : p ∈ L) : ∃ j, j < L.length ∧ L.getD j (0, 0) = p := by
  obtain ⟨j, hj, e⟩ := List.getElem_of_mem h
  exact ⟨j, hj, by rw [List.getD_eq_getElem?_getD, List.getElem?_eq_getElem hj]; exact e⟩
/-- One corner may be, as to an axis, with those before it. -/
def gA (L : List (Int × Int)) (a k : Nat) : Prop := (-1099511627776 ≤ cdn L a k ∧ cdn L a k ≤ 1099511627776) ∧ ∀ i, i < k → cdn L a k - cdn L a i ≤ 1073741824 ∧ cdn L a i - cdn L a k ≤ 1073741824
theorem okr_len {L : List (Int × Int)} (h : 100 < L.length) : okrB L = false := okr_no fun hh => by have := hh.1; omega
theorem okr_far {L : List (Int × Int)} (a j : Nat) (hj : j < L.length) (h : cdn L a j < -1099511627776 ∨ 1099511627776 < cdn L a j) : okrB L = false := okr_no fun hh => by
  have := hh.2.1 _ (getD_mem9 L j hj)
  unfold cdn at h
  split at h <;> omega
theorem okr_wide {L : List (Int × Int)} (a i j : Nat) (hi : i < L.length) (hj : j < L.length) (h : 1073741824 < cdn L a i - cdn L a j) : okrB L = false := okr_no fun hh => by
  have := hh.2.2 _ (getD_mem9 L i hi) _ (getD_mem9 L j hj)
  unfold cdn at h
  split at h <;> omega
theorem okr_all {L : List (Int × Int)} (h : L.length ≤ 100) (h0 : ∀ k, k < L.length → gA L 0 k) (h1 : ∀ k, k < L.length → gA L 1 k) : okrB L = true := okr_yes ⟨h, fun p hp => by
  obtain ⟨j, hj, rfl⟩ := mem_getD9 L p hp
  have g0 : -1099511627776 ≤ (L.getD j (0, 0)).1 ∧ (L.getD j (0, 0)).1 ≤ 1099511627776 := (h0 j hj).1
  have g1 : -1099511627776 ≤ (L.getD j (0, 0)).2 ∧ (L.getD j (0, 0)).2 ≤ 1099511627776 := (h1 j hj).1
  exact ⟨g0.1, g0.2, g1.1, g1.2⟩, fun p hp q hq => by
  obtain ⟨j, hj, rfl⟩ := mem_getD9 L p hp
  obtain ⟨i, hi, rfl⟩ := mem_getD9 L q hq
  have key : ∀ a, (∀ k, k < L.length → gA L a k) → cdn L a j - cdn L a i ≤ 1073741824 := fun a h => by
    rcases Nat.lt_trichotomy i j with e | e | e
    · exact ((h j hj).2 i e).1
    · subst e; omega
    · exact ((h i hi).2 j e).2
  exact ⟨key 0 h0, key 1 h1⟩⟩
set_option maxRecDepth 100000 in
set_option maxHeartbeats 8000000 in
theorem clip_okr (X : Option Addr) (cap : Nat) (L : List (Int × Int)) (hcap : L.length ≤ cap) (hlen : L.length ≤ 1000) (w : World) (hr : RingAt w X L) :
    Calls Try.prog 20 #[.slice X L.length cap] w fun e w' => e = .returned (.bool (okrB L)) ∧ Below w.heap.size w w' := by
  have HR := Lib.hid (fun W (hb : Below w.heap.size w W) => hr.bl hb)
  have HF0 := Lib.hid (okr_len (L := L))
  have HF1 := Lib.hid (okr_far (L := L))
  have HF2 := Lib.hid (okr_wide (L := L))
  have HT := Lib.hid (okr_all (L := L))
  clear hr
  obtain ⟨N, hN⟩ : ∃ N, L.length = N := ⟨_, rfl⟩
  have HN := Lib.hid hN
  rw [hN] at hcap hlen ⊢
  clear hN
  generalize okrB L = B at *
  rcases Nat.lt_or_ge 100 N with h100 | h100
  · have hNI : (100 : Int) < (N : Int) := by omega
    have e0 := HF0.out (by rw [HN.out]; exact h100)
    rw [e0]
    clear HF1 HF2 HT e0
    go_enter Try.func20, Try.ntmps20
    go_wp2_with fail
    go_ret
    exact ⟨rfl, by repeat (first | with_reducible exact Below.refl _ _ | with_reducible refine bl_alloc ?_ _ | with_reducible refine bl_drewN ?_ _ | with_reducible refine bl_drew ?_ | (with_reducible refine bl_set ?_ ?_ _; rotate_left; focus (first | (simp; done) | (simp; omega) | omega)) | with_reducible refine below_step ?_ (Bw.below _) | with_reducible refine below_step ?_ (by assumption))⟩
  have hNI : (N : Int) ≤ 100 := by omega
  go_enter Try.func20, Try.ntmps20
  go_wp2_with fail
  go_loopg [11] 2 (fun n i W => ∃ a : Nat, a + n = 2 ∧ i = .int .i64 (a : Int) ∧ (∀ a', a' < a → ∀ k, k < N → gA L a' k) ∧ Below w.heap.size w W)
  case atStart => exact ⟨0, by omega, rfl, fun a' h => by omega, by repeat (first | with_reducible exact Below.refl _ _ | with_reducible refine bl_alloc ?_ _ | with_reducible refine bl_drewN ?_ _ | with_reducible refine bl_drew ?_ | (with_reducible refine bl_set ?_ ?_ _; rotate_left; focus (first | (simp; done) | (simp; omega) | omega)) | with_reducible refine below_step ?_ (Bw.below _) | with_reducible refine below_step ?_ (by assumption))⟩
  case round =>
    obtain ⟨a, ha, rfl, hGA, hb⟩ := hrel
    have HGA := Lib.hid hGA
    clear hGA
    rcases (show a = 0 ∨ a = 1 ∨ a = 2 by omega) with h | h | h
    · as_aux_lemma =>
      subst h
      obtain ⟨gA', rfl⟩ := bw_of hb
      clear hb
      go_wp2_with fail
      go_loopg [16] N (fun n k W => ∃ j : Nat, j + n = N ∧ k = .int .i64 (j : Int) ∧ (∀ k, k < j → gA L 0 k) ∧ Below w.heap.size w W)
      case atStart => exact ⟨0, by omega, rfl, fun k h => by omega, by repeat (first | with_reducible exact Below.refl _ _ | with_reducible refine bl_alloc ?_ _ | with_reducible refine bl_drewN ?_ _ | with_reducible refine bl_drew ?_ | (with_reducible refine bl_set ?_ ?_ _; rotate_left; focus (first | (simp; done) | (simp; omega) | omega)) | with_reducible refine below_step ?_ (Bw.below _) | with_reducible refine below_step ?_ (by assumption))⟩
      case round =>
        obtain ⟨j, hj, rfl, hG2, hb⟩ := hrel
        have HG2 := Lib.hid hG2
        clear hG2
        rcases (show j < N ∨ j = N by omega) with hlt | hlt
        · have hring := HR.out _ hb
          obtain ⟨g, o, rfl, c1, c2⟩ := hring j (by rw [HN.out]; exact hlt)
          have HX : Hid (cdn L 0 j = (L.getD j (0, 0)).1) := Lib.hid rfl
          have HY : Hid (cdn L 1 j = (L.getD j (0, 0)).2) := Lib.hid rfl
          clear hring
          generalize (L.getD j (0, 0)).1 = x at *
          generalize (L.getD j (0, 0)).2 = y at *
          have hjI : (j : Int) < (N : Int) := by omega
          have hsz := hb.size
          have hjc : j ≤ cap := by omega
          have hjcI : (j : Int) ≤ (cap : Int) := by omega
          by_cases k1 : x < -1099511627776
          · have e0 := HF1.out 0 j (by rw [HN.out]; exact hlt) (by rw [HX.out]; omega)
            have HE0 := Lib.hid e0
            clear HF0 HF1 HF2 HT e0
            go_wp2_with fail
            go_ret
            exact ⟨by rw [HE0.out]; rfl, by repeat (first | with_reducible exact Below.refl _ _ | with_reducible refine bl_alloc ?_ _ | with_reducible refine bl_drewN ?_ _ | with_reducible refine bl_drew ?_ | (with_reducible refine bl_set ?_ ?_ _; rotate_left; focus (first | (simp; done) | (simp; omega) | omega)) | with_reducible refine below_step ?_ (Bw.below _) | with_reducible refine below_step ?_ (by assumption))⟩
          by_cases k2 : 1099511627776 < x
          · have e0 := HF1.out 0 j (by rw [HN.out]; exact hlt) (by rw [HX.out]; omega)
            have HE0 := Lib.hid e0
            clear HF0 HF1 HF2 HT e0
            go_wp2_with fail
            go_ret
            exact ⟨by rw [HE0.out]; rfl, by repeat (first | with_reducible exact Below.refl _ _ | with_reducible refine bl_alloc ?_ _ | with_reducible refine bl_drewN ?_ _ | with_reducible refine bl_drew ?_ | (with_reducible refine bl_set ?_ ?_ _; rotate_left; focus (first | (simp; done) | (simp; omega) | omega)) | with_reducible refine below_step ?_ (Bw.below _) | with_reducible refine below_step ?_ (by assumption))⟩
          go_wp2_with fail
          refine wp_start (fun V => V.cell? ⟨wr.heap.size, 0, none⟩ = some (.int .i64 x) ∧ V.cell? ⟨wr.heap.size, 1, none⟩ = some (.int .i64 y) ∧ Below w.heap.size w V) ⟨by first | with_reducible assumption | (simp [go_sem]; done), by first | with_reducible assumption | (simp [go_sem]; done), by repeat (first | with_reducible exact Below.refl _ _ | with_reducible refine bl_alloc ?_ _ | with_reducible refine bl_drewN ?_ _ | with_reducible refine bl_drew ?_ | (with_reducible refine bl_set ?_ ?_ _; rotate_left; focus (first | (simp; done) | (simp; omega) | omega)) | with_reducible refine below_step ?_ (Bw.below _) | with_reducible refine below_step ?_ (by assumption))⟩ ?_
          rintro V ⟨hta1, hta2, hWta⟩ gta
          have ta1 := Bw.hold hta1
          have ta2 := Bw.hold hta2
          have taz1 := fun g : Bw V => cell_lt (ta1 g)
          have tay1 := fun g : Bw V => Nat.le_of_lt (taz1 g)
          clear hta1 hta2
          clear c1 c2
          go_loopg [35] j (fun n m W => ∃ i : Nat, i + n = j ∧ m = .int .i64 (i : Int) ∧ (∀ i', i' < i → x - cdn L 0 i' ≤ 1073741824 ∧ cdn L 0 i' - x ≤ 1073741824) ∧ Below V.heap.size V W)
          case atStart => exact ⟨0, by omega, rfl, fun i' h => by omega, by repeat (first | with_reducible exact Below.refl _ _ | with_reducible refine bl_alloc ?_ _ | with_reducible refine bl_drewN ?_ _ | with_reducible refine bl_drew ?_ | (with_reducible refine bl_set ?_ ?_ _; rotate_left; focus (first | (simp; done) | (simp; omega) | omega)) | with_reducible refine below_step ?_ (Bw.below _) | with_reducible refine below_step ?_ (by assumption))⟩
          case round =>
            obtain ⟨i, hi, rfl, hG3, hb3⟩ := hrel
            have HG3 := Lib.hid hG3
            clear hG3
            obtain ⟨gi, rfl⟩ := bw_of hb3
            clear hb3
            rcases (show i < j ∨ i = j by omega) with hilt | hilt
            · have hring := HR.out gi.out (below_step hWta (Bw.below gi))
              obtain ⟨g', o', e', c1, c2⟩ := hring i (by rw [HN.out]; omega)
              cases e'
              have HU : Hid (cdn L 0 i = (L.getD i (0, 0)).1) := Lib.hid rfl
              have HV : Hid (cdn L 1 i = (L.getD i (0, 0)).2) := Lib.hid rfl
              obtain ⟨⟨e1, e2⟩, _⟩ := HG2.out i hilt
              rw [HU.out] at e1 e2
              clear hring
              generalize (L.getD i (0, 0)).1 = u at *
              generalize (L.getD i (0, 0)).2 = v at *
              have m3 : IntKind.i64.wrap (x - u) = x - u := by rw [IntKind.wrap_i64]; omega
              have m4 : IntKind.i64.wrap (u - x) = u - x := by rw [IntKind.wrap_i64]; omega
              have hiI : (i : Int) < (j : Int) := by omega
              by_cases m1 : 1073741824 < x - u
              · have e0 := HF2.out 0 j i (by rw [HN.out]; exact hlt) (by rw [HN.out]; omega) (by rw [HX.out, HU.out]; exact m1)
                have HE0 := Lib.hid e0
                clear HF0 HF1 HF2 HT e0
                go_wp2_with fail
                refine wp_region_quiet_lit (by kernel_rfl) (by kernel_rfl) ?_
                repeat (with_reducible refine wpQuiet_step ?_; intro K hK; go_simp; with_reducible refine hK _ ?_; clear hK K)
                with_reducible refine wpQuiet_nil ?_
                intro _ hw'
                obtain ⟨nq, hw''⟩ := hw'
                subst hw''
                go_wp2_with fail
                go_ret
                exact ⟨by rw [HE0.out]; rfl, below_step hWta (by repeat (first | with_reducible exact Below.refl _ _ | with_reducible refine bl_alloc ?_ _ | with_reducible refine bl_drewN ?_ _ | with_reducible refine bl_drew ?_ | (with_reducible refine bl_set ?_ ?_ _; rotate_left; focus (first | (simp; done) | (simp; omega) | omega)) | with_reducible refine below_step ?_ (Bw.below _) | with_reducible refine below_step ?_ (by assumption)))⟩
              by_cases m2 : 1073741824 < u - x
              · have e0 := HF2.out 0 i j (by rw [HN.out]; omega) (by rw [HN.out]; exact hlt) (by rw [HX.out, HU.out]; exact m2)
                have HE0 := Lib.hid e0
                clear HF0 HF1 HF2 HT e0
                go_wp2_with fail
                refine wp_region_quiet_lit (by kernel_rfl) (by kernel_rfl) ?_
                repeat (with_reducible refine wpQuiet_step ?_; intro K hK; go_simp; with_reducible refine hK _ ?_; clear hK K)
                with_reducible refine wpQuiet_nil ?_
                intro _ hw'
                obtain ⟨nq, hw''⟩ := hw'
                subst hw''
                go_wp2_with fail
                go_ret
                exact ⟨by rw [HE0.out]; rfl, below_step hWta (by repeat (first | with_reducible exact Below.refl _ _ | with_reducible refine bl_alloc ?_ _ | with_reducible refine bl_drewN ?_ _ | with_reducible refine bl_drew ?_ | (with_reducible refine bl_set ?_ ?_ _; rotate_left; focus (first | (simp; done) | (simp; omega) | omega)) | with_reducible refine below_step ?_ (Bw.below _) | with_reducible refine below_step ?_ (by assumption)))⟩
              clear HF0 HF1 HF2 HT
              go_wp2_with fail
              refine wp_region_quiet_lit (by kernel_rfl) (by kernel_rfl) ?_
              repeat (with_reducible refine wpQuiet_step ?_; intro K hK; go_simp; with_reducible refine hK _ ?_; clear hK K)
              with_reducible refine wpQuiet_nil ?_
              intro _ hw'
              obtain ⟨nq, hw''⟩ := hw'
              subst hw''
              go_wp2_with fail
              go_roundg (j - (i + 1))
              case measure => omega
              case rel => exact ⟨i + 1, by omega, by go_num, fun i' h => by
                rcases (show i' < i ∨ i' = i by omega) with h2 | h2
                · exact HG3.out i' h2
                · subst h2; rw [HU.out]; omega, by repeat (first | with_reducible exact Below.refl _ _ | with_reducible refine bl_alloc ?_ _ | with_reducible refine bl_drewN ?_ _ | with_reducible refine bl_drew ?_ | (with_reducible refine bl_set ?_ ?_ _; rotate_left; focus (first | (simp; done) | (simp; omega) | omega)) | with_reducible refine below_step ?_ (Bw.below _) | with_reducible refine below_step ?_ (by assumption))⟩
            · subst hilt
              clear HF0 HF1 HF2 HT
              go_wp2_with fail
              go_roundg (N - (i + 1))
              case measure => omega
              case rel => exact ⟨i + 1, by omega, by go_num, fun k h => by
                rcases (show k < i ∨ k = i by omega) with h2 | h2
                · exact HG2.out k h2
                · subst h2
                  refine ⟨by rw [HX.out]; omega, fun i' hi' => ?_⟩
                  rw [HX.out]
                  exact HG3.out i' hi', below_step hWta (Bw.below gi)⟩
        · subst hlt
          clear HF0 HF1 HF2 HT
          go_wp2_with fail
          go_roundg 1
          case measure => omega
          case rel => exact ⟨1, by omega, by first | rfl | go_num, fun a' h k hk => by
            rcases (show a' < 0 ∨ a' = 0 by omega) with h2 | h2
            · exact HGA.out a' h2 k hk
            · subst h2; exact HG2.out k hk, hb⟩
    · as_aux_lemma =>
      subst h
      obtain ⟨gA', rfl⟩ := bw_of hb
      clear hb
      go_wp2_with fail
      go_loopg [16] N (fun n k W => ∃ j : Nat, j + n = N ∧ k = .int .i64 (j : Int) ∧ (∀ k, k < j → gA L 1 k) ∧ Below w.heap.size w W)
      case atStart => exact ⟨0, by omega, rfl, fun k h => by omega, by repeat (first | with_reducible exact Below.refl _ _ | with_reducible refine bl_alloc ?_ _ | with_reducible refine bl_drewN ?_ _ | with_reducible refine bl_drew ?_ | (with_reducible refine bl_set ?_ ?_ _; rotate_left; focus (first | (simp; done) | (simp; omega) | omega)) | with_reducible refine below_step ?_ (Bw.below _) | with_reducible refine below_step ?_ (by assumption))⟩
      case round =>
        obtain ⟨j, hj, rfl, hG2, hb⟩ := hrel
        have HG2 := Lib.hid hG2
        clear hG2
        rcases (show j < N ∨ j = N by omega) with hlt | hlt
        · have hring := HR.out _ hb
          obtain ⟨g, o, rfl, c1, c2⟩ := hring j (by rw [HN.out]; exact hlt)
          have HX : Hid (cdn L 0 j = (L.getD j (0, 0)).1) := Lib.hid rfl
          have HY : Hid (cdn L 1 j = (L.getD j (0, 0)).2) := Lib.hid rfl
          clear hring
          generalize (L.getD j (0, 0)).1 = x at *
          generalize (L.getD j (0, 0)).2 = y at *
          have hjI : (j : Int) < (N : Int) := by omega
          have hsz := hb.size
          have hjc : j ≤ cap := by omega
          have hjcI : (j : Int) ≤ (cap : Int) := by omega
          by_cases k1 : y < -1099511627776
          · have e0 := HF1.out 1 j (by rw [HN.out]; exact hlt) (by rw [HY.out]; omega)
            have HE0 := Lib.hid e0
            clear HF0 HF1 HF2 HT e0
            go_wp2_with fail
            go_ret
            exact ⟨by rw [HE0.out]; rfl, by repeat (first | with_reducible exact Below.refl _ _ | with_reducible refine bl_alloc ?_ _ | with_reducible refine bl_drewN ?_ _ | with_reducible refine bl_drew ?_ | (with_reducible refine bl_set ?_ ?_ _; rotate_left; focus (first | (simp; done) | (simp; omega) | omega)) | with_reducible refine below_step ?_ (Bw.below _) | with_reducible refine below_step ?_ (by assumption))⟩
          by_cases k2 : 1099511627776 < y
          · have e0 := HF1.out 1 j (by rw [HN.out]; exact hlt) (by rw [HY.out]; omega)
            have HE0 := Lib.hid e0
            clear HF0 HF1 HF2 HT e0
            go_wp2_with fail
            go_ret
            exact ⟨by rw [HE0.out]; rfl, by repeat (first | with_reducible exact Below.refl _ _ | with_reducible refine bl_alloc ?_ _ | with_reducible refine bl_drewN ?_ _ | with_reducible refine bl_drew ?_ | (with_reducible refine bl_set ?_ ?_ _; rotate_left; focus (first | (simp; done) | (simp; omega) | omega)) | with_reducible refine below_step ?_ (Bw.below _) | with_reducible refine below_step ?_ (by assumption))⟩
          go_wp2_with fail
          refine wp_start (fun V => V.cell? ⟨wr.heap.size, 0, none⟩ = some (.int .i64 x) ∧ V.cell? ⟨wr.heap.size, 1, none⟩ = some (.int .i64 y) ∧ Below w.heap.size w V) ⟨by first | with_reducible assumption | (simp [go_sem]; done), by first | with_reducible assumption | (simp [go_sem]; done), by repeat (first | with_reducible exact Below.refl _ _ | with_reducible refine bl_alloc ?_ _ | with_reducible refine bl_drewN ?_ _ | with_reducible refine bl_drew ?_ | (with_reducible refine bl_set ?_ ?_ _; rotate_left; focus (first | (simp; done) | (simp; omega) | omega)) | with_reducible refine below_step ?_ (Bw.below _) | with_reducible refine below_step ?_ (by assumption))⟩ ?_
          rintro V ⟨hta1, hta2, hWta⟩ gta
          have ta1 := Bw.hold hta1
          have ta2 := Bw.hold hta2
          have taz1 := fun g : Bw V => cell_lt (ta1 g)
          have tay1 := fun g : Bw V => Nat.le_of_lt (taz1 g)
          clear hta1 hta2
          clear c1 c2
          go_loopg [35] j (fun n m W => ∃ i : Nat, i + n = j ∧ m = .int .i64 (i : Int) ∧ (∀ i', i' < i → y - cdn L 1 i' ≤ 1073741824 ∧ cdn L 1 i' - y ≤ 1073741824) ∧ Below V.heap.size V W)
          case atStart => exact ⟨0, by omega, rfl, fun i' h => by omega, by repeat (first | with_reducible exact Below.refl _ _ | with_reducible refine bl_alloc ?_ _ | with_reducible refine bl_drewN ?_ _ | with_reducible refine bl_drew ?_ | (with_reducible refine bl_set ?_ ?_ _; rotate_left; focus (first | (simp; done) | (simp; omega) | omega)) | with_reducible refine below_step ?_ (Bw.below _) | with_reducible refine below_step ?_ (by assumption))⟩
          case round =>
            obtain ⟨i, hi, rfl, hG3, hb3⟩ := hrel
            have HG3 := Lib.hid hG3
            clear hG3
            obtain ⟨gi, rfl⟩ := bw_of hb3
            clear hb3
            rcases (show i < j ∨ i = j by omega) with hilt | hilt
            · have hring := HR.out gi.out (below_step hWta (Bw.below gi))
              obtain ⟨g', o', e', c1, c2⟩ := hring i (by rw [HN.out]; omega)
              cases e'
              have HU : Hid (cdn L 0 i = (L.getD i (0, 0)).1) := Lib.hid rfl
              have HV : Hid (cdn L 1 i = (L.getD i (0, 0)).2) := Lib.hid rfl
              obtain ⟨⟨e1, e2⟩, _⟩ := HG2.out i hilt
              rw [HV.out] at e1 e2
              clear hring
              generalize (L.getD i (0, 0)).1 = u at *
              generalize (L.getD i (0, 0)).2 = v at *
              have m3 : IntKind.i64.wrap (y - v) = y - v := by rw [IntKind.wrap_i64]; omega
              have m4 : IntKind.i64.wrap (v - y) = v - y := by rw [IntKind.wrap_i64]; omega
              have hiI : (i : Int) < (j : Int) := by omega
              by_cases m1 : 1073741824 < y - v
              · have e0 := HF2.out 1 j i (by rw [HN.out]; exact hlt) (by rw [HN.out]; omega) (by rw [HY.out, HV.out]; exact m1)
                have HE0 := Lib.hid e0
                clear HF0 HF1 HF2 HT e0
                go_wp2_with fail
                refine wp_region_quiet_lit (by kernel_rfl) (by kernel_rfl) ?_
                repeat (with_reducible refine wpQuiet_step ?_; intro K hK; go_simp; with_reducible refine hK _ ?_; clear hK K)
                with_reducible refine wpQuiet_nil ?_
                intro _ hw'
                obtain ⟨nq, hw''⟩ := hw'
                subst hw''
                go_wp2_with fail
                go_ret
                exact ⟨by rw [HE0.out]; rfl, below_step hWta (by repeat (first | with_reducible exact Below.refl _ _ | with_reducible refine bl_alloc ?_ _ | with_reducible refine bl_drewN ?_ _ | with_reducible refine bl_drew ?_ | (with_reducible refine bl_set ?_ ?_ _; rotate_left; focus (first | (simp; done) | (simp; omega) | omega)) | with_reducible refine below_step ?_ (Bw.below _) | with_reducible refine below_step ?_ (by assumption)))⟩
              by_cases m2 : 1073741824 < v - y
              · have e0 := HF2.out 1 i j (by rw [HN.out]; omega) (by rw [HN.out]; exact hlt) (by rw [HY.out, HV.out]; exact m2)
                have HE0 := Lib.hid e0
                clear HF0 HF1 HF2 HT e0
                go_wp2_with fail
                refine wp_region_quiet_lit (by kernel_rfl) (by kernel_rfl) ?_
                repeat (with_reducible refine wpQuiet_step ?_; intro K hK; go_simp; with_reducible refine hK _ ?_; clear hK K)
                with_reducible refine wpQuiet_nil ?_
                intro _ hw'
                obtain ⟨nq, hw''⟩ := hw'
                subst hw''
                go_wp2_with fail
                go_ret
                exact ⟨by rw [HE0.out]; rfl, below_step hWta (by repeat (first | with_reducible exact Below.refl _ _ | with_reducible refine bl_alloc ?_ _ | with_reducible refine bl_drewN ?_ _ | with_reducible refine bl_drew ?_ | (with_reducible refine bl_set ?_ ?_ _; rotate_left; focus (first | (simp; done) | (simp; omega) | omega)) | with_reducible refine below_step ?_ (Bw.below _) | with_reducible refine below_step ?_ (by assumption)))⟩
              clear HF0 HF1 HF2 HT
              go_wp2_with fail
              refine wp_region_quiet_lit (by kernel_rfl) (by kernel_rfl) ?_
              repeat (with_reducible refine wpQuiet_step ?_; intro K hK; go_simp; with_reducible refine hK _ ?_; clear hK K)
              with_reducible refine wpQuiet_nil ?_
              intro _ hw'
              obtain ⟨nq, hw''⟩ := hw'
              subst hw''
              go_wp2_with fail
              go_roundg (j - (i + 1))
              case measure => omega
              case rel => exact ⟨i + 1, by omega, by go_num, fun i' h => by
                rcases (show i' < i ∨ i' = i by omega) with h2 | h2
                · exact HG3.out i' h2
                · subst h2; rw [HV.out]; omega, by repeat (first | with_reducible exact Below.refl _ _ | with_reducible refine bl_alloc ?_ _ | with_reducible refine bl_drewN ?_ _ | with_reducible refine bl_drew ?_ | (with_reducible refine bl_set ?_ ?_ _; rotate_left; focus (first | (simp; done) | (simp; omega) | omega)) | with_reducible refine below_step ?_ (Bw.below _) | with_reducible refine below_step ?_ (by assumption))⟩
            · subst hilt
              clear HF0 HF1 HF2 HT
              go_wp2_with fail
              go_roundg (N - (i + 1))
              case measure => omega
              case rel => exact ⟨i + 1, by omega, by go_num, fun k h => by
                rcases (show k < i ∨ k = i by omega) with h2 | h2
                · exact HG2.out k h2
                · subst h2
                  refine ⟨by rw [HY.out]; omega, fun i' hi' => ?_⟩
                  rw [HY.out]
                  exact HG3.out i' hi', below_step hWta (Bw.below gi)⟩
        · subst hlt
          clear HF0 HF1 HF2 HT
          go_wp2_with fail
          go_roundg 0
          case measure => omega
          case rel => exact ⟨2, by omega, by first | rfl | go_num, fun a' h k hk => by
            rcases (show a' < 1 ∨ a' = 1 by omega) with h2 | h2
            · exact HGA.out a' h2 k hk
            · subst h2; exact HG2.out k hk, hb⟩
    · subst h
      have e0 := HT.out (by rw [HN.out]; exact h100) (fun k hk => HGA.out 0 (by omega) k (by rw [HN.out] at hk; exact hk)) (fun k hk => HGA.out 1 (by omega) k (by rw [HN.out] at hk; exact hk))
      have HE0 := Lib.hid e0
      clear HF0 HF1 HF2 HT e0
      go_wp2_with fail
      go_ret
      exact ⟨by rw [HE0.out]; rfl, hb⟩
end Go.Proofs.Ytnmehelejdbjaaa


/- The law's Some: a cell that may be. -/
import Derived.Test.YtmipkloleklnkaaRefKids
namespace Go.Proofs.Ytmipkloleklnkaa
open Go.RowKit
set_option linter.unusedSimpArgs false
set_option linter.unusedVariables false
def capB : Nat → Int
  | 0 => 786432
  | n + 1 => (357 * capB n + 2550) / 50
theorem capB_fits : ∀ n : Nat, n < 13 → capB n ≤ 800000000000000000 := by decide
theorem qn_wide (a b : Int) (h : qn a b ≤ 800000000000000000) : zOk a b = true := by
  have e1 : 4 * qn a b = 3 * (a * a) + (a + 2 * b) * (a + 2 * b) := by unfold qn; grind
  have e2 : 4 * qn a b = 3 * (b * b) + (b + 2 * a) * (b + 2 * a) := by unfold qn; grind
  have p1 := mul_self_nonneg' (a + 2 * b)
  have p2 := mul_self_nonneg' (b + 2 * a)
  have k : ∀ c : Int, c * c ≤ 1066666666666666667 → -1073741824 ≤ c ∧ c ≤ 1073741824 := by
    intro c hc
    constructor
    · rcases Int.lt_or_le c (-1073741824) with h | h
      · have := Int.mul_le_mul (show (1073741824 : Int) ≤ -c by omega) (show (1073741824 : Int) ≤ -c by omega) (by omega) (by omega)
        rw [Int.neg_mul_neg] at this
        omega
      · exact h
    · rcases Int.lt_or_le 1073741824 c with h | h
      · have := Int.mul_le_mul (show (1073741824 : Int) ≤ c by omega) (show (1073741824 : Int) ≤ c by omega) (by omega) (by omega)
        omega
      · exact h
  have k1 := k a (by omega)
  have k2 := k b (by omega)
  exact decide_eq_true ⟨k1.1, k1.2, k2.1, k2.2⟩
/-- Nought or a unit, as child n has it. -/
theorem ch_unit (n : Nat) (hn : n < 7) (da db : Int) : ∃ u v : Int, chX da n = da + u ∧ chY db n = db + v ∧ ((u = 0 ∧ v = 0) ∨ (u = 1 ∧ v = 0) ∨ (u = 0 ∧ v = 1) ∨ (u = -1 ∧ v = 1) ∨ (u = -1 ∧ v = 0) ∨ (u = 0 ∧ v = -1) ∨ (u = 1 ∧ v = -1)) := by
  rcases (show n = 0 ∨ n = 1 ∨ n = 2 ∨ n = 3 ∨ n = 4 ∨ n = 5 ∨ n = 6 by omega) with rfl | rfl | rfl | rfl | rfl | rfl | rfl
  · exact ⟨0, 0, by simp [chX], by simp [chY], by omega⟩
  · exact ⟨uA 0, uB 0, rfl, rfl, by decide⟩
  · exact ⟨uA 1, uB 1, rfl, rfl, by decide⟩
  · exact ⟨uA 2, uB 2, rfl, rfl, by decide⟩
  · exact ⟨uA 3, uB 3, rfl, rfl, by decide⟩
  · exact ⟨uA 4, uB 4, rfl, rfl, by decide⟩
  · exact ⟨uA 5, uB 5, rfl, rfl, by decide⟩
theorem ch_up (a b : Int) (n : Nat) (hn : n < 7) : upA (chX (2 * a - b) n) (chY (a + 3 * b) n) = a ∧ upB (chX (2 * a - b) n) (chY (a + 3 * b) n) = b := by
  obtain ⟨u, v, e1, e2, hc⟩ := ch_unit n hn (2 * a - b) (a + 3 * b)
  rw [e1, e2]
  have hx : Hexa (3 * (2 * a - b + u) + (a + 3 * b + v) - 7 * a) (2 * (a + 3 * b + v) - (2 * a - b + u) - 7 * b) 7 := by
    constructor <;> omega
  exact rd_of_hexa _ _ 7 a b (by omega) hx
theorem ch_zz (a b : Int) (n : Nat) (hn : n < 7) (k : Nat) : zz (chX (2 * a - b) n) (chY (a + 3 * b) n) (k + 1) = zz a b k := by
  obtain ⟨h1, h2⟩ := ch_up a b n hn
  have h := zz_add (chX (2 * a - b) n) (chY (a + 3 * b) n) 1 k
  have e : zz (chX (2 * a - b) n) (chY (a + 3 * b) n) 1 = (a, b) := by
    show (upA _ _, upB _ _) = (a, b)
    exact Prod.ext h1 h2
  rw [e] at h
  rw [show k + 1 = 1 + k by omega, ← h]
theorem ch_qn (a b : Int) (n : Nat) (hn : n < 7) (k : Nat) (h : qn a b ≤ capB k) : qn (chX (2 * a - b) n) (chY (a + 3 * b) n) ≤ capB (k + 1) := by
  obtain ⟨u, v, e1, e2, hc⟩ := ch_unit n hn (2 * a - b) (a + 3 * b)
  rw [e1, e2]
  have hy := qn_young (2 * a - b) (a + 3 * b) (-u) (-v)
  rw [show 2 * a - b - -u = 2 * a - b + u by omega, show a + 3 * b - -v = a + 3 * b + v by omega] at hy
  have e3 : qn (2 * a - b) (a + 3 * b) = 7 * qn a b := by unfold qn; grind
  have e4 : qn (-u) (-v) ≤ 1 := by
    rcases hc with ⟨rfl, rfl⟩ | ⟨rfl, rfl⟩ | ⟨rfl, rfl⟩ | ⟨rfl, rfl⟩ | ⟨rfl, rfl⟩ | ⟨rfl, rfl⟩ | ⟨rfl, rfl⟩ <;> decide
  rw [e3] at hy
  show _ ≤ (357 * capB k + 2550) / 50
  omega
/-- A child of a cell that may be may be. -/
theorem ch_ok (a b : Int) (k n : Nat) (hk : k < 12) (hn : n < 7) (h : okB (k : Int) a b = true) (hq : qn a b ≤ capB k) :
    okB ((k : Int) + 1) (chX (2 * a - b) n) (chY (a + 3 * b) n) = true ∧ qn (chX (2 * a - b) n) (chY (a + 3 * b) n) ≤ capB (k + 1) := by
  have hq' := ch_qn a b n hn k hq
  refine ⟨?_, hq'⟩
  obtain ⟨_, _, hb⟩ := okB_true h
  unfold okB
  rw [show rsB ((k : Int) + 1) = true from decide_eq_true (by omega), qn_wide _ _ (Int.le_trans hq' (capB_fits (k + 1) (by omega))), show ((k : Int) + 1).toNat = k + 1 by omega, ch_zz a b n hn k]
  rw [show (k : Int).toNat = k by omega] at hb
  exact hb
theorem base_ok (a b : Int) (h1 : -512 ≤ a) (h2 : a ≤ 511) (h3 : -512 ≤ b) (h4 : b ≤ 511) : okB ((0 : Nat) : Int) a b = true ∧ qn a b ≤ capB 0 := by
  constructor
  · unfold okB
    rw [show rsB ((0 : Nat) : Int) = true by decide, show zOk a b = true from decide_eq_true (by omega)]
    show (inB a && inB b) = true
    rw [show inB a = true from decide_eq_true (by omega), show inB b = true from decide_eq_true (by omega)]
    rfl
  · have m1 := mul_bd a a 512 512 h1 (by omega) h1 (by omega)
    have m2 := mul_bd a b 512 512 h1 (by omega) h3 (by omega)
    have m3 := mul_bd b b 512 512 h3 (by omega) h3 (by omega)
    show a * a + a * b + b * b ≤ 786432
    omega
theorem chRow_get (r da db : Int) : ∀ (n j : Nat), j < n → (chRow r da db n)[3 * j]? = some (.int .i64 r) ∧ (chRow r da db n)[3 * j + 1]? = some (.int .i64 (chX da j)) ∧ (chRow r da db n)[3 * j + 2]? = some (.int .i64 (chY db j)) := by
  have hl : ∀ n, (chRow r da db n).length = 3 * n := by
    intro n
    induction n with
    | zero => rfl
    | succ n ih => simp [chRow, ih]; omega
  intro n
  induction n with
  | zero => intro j hj; omega
  | succ n ih =>
    intro j hj
    have hn := hl n
    unfold chRow
    by_cases e : j < n
    · obtain ⟨i1, i2, i3⟩ := ih j e
      rw [List.getElem?_append_left (by omega), List.getElem?_append_left (by omega), List.getElem?_append_left (by omega)]
      exact ⟨i1, i2, i3⟩
    · obtain rfl : j = n := by omega
      rw [List.getElem?_append_right (by omega), List.getElem?_append_right (by omega), List.getElem?_append_right (by omega), hn]
      refine ⟨?_, ?_, ?_⟩
      · rw [show 3 * j - 3 * j = 0 by omega]; rfl
      · rw [show 3 * j + 1 - 3 * j = 1 by omega]; rfl
      · rw [show 3 * j + 2 - 3 * j = 2 by omega]; rfl
/-- The seven children, as memory has them. -/
theorem own_kids {w : World} {B : Nat} {e : TypeId} {v : Value} {r da db : Int} (h : w.ownsRow B e 3 v 7 (chRow r da db 7)) :
    ∃ g cap, v = .slice (some ⟨g, 0, none⟩) 7 cap ∧ B ≤ g ∧ ∀ j : Nat, j < 7 → w.cell? ⟨g, j * 3, none⟩ = some (.int .i64 r) ∧ w.cell? ⟨g, j * 3 + 1, none⟩ = some (.int .i64 (chX da j)) ∧ w.cell? ⟨g, j * 3 + 2, none⟩ = some (.int .i64 (chY db j)) := by
  obtain ⟨g, cap, cur, rfl, hb, _⟩ : ∃ g cap cur, v = .slice (some ⟨g, 0, none⟩) 7 cap ∧ B ≤ g ∧ w.heap[g]? = some (.cells cur e (0, 0)) := by
    rcases h.2 with ⟨_, h0⟩ | ⟨g, cap, cur, hv, hb, hh, _⟩
    · omega
    · exact ⟨g, cap, cur, hv, hb, hh⟩
  have hc := h.cells (g := g) rfl
  have ha : ∀ j, (⟨g, 0, none⟩ : Addr).add j = ⟨g, j, none⟩ := fun j => by unfold Addr.add; split <;> simp_all
  simp only [ha] at hc
  refine ⟨g, cap, rfl, hb, fun j hj => ?_⟩
  obtain ⟨i1, i2, i3⟩ := chRow_get r da db 7 j hj
  rw [Nat.mul_comm] at i1 i2 i3
  exact ⟨hc _ _ i1, hc _ _ i2, hc _ _ i3⟩
set_option maxRecDepth 100000 in
set_option maxHeartbeats 4000000 in
theorem law4_some (x y r : Int) (hx : -9223372036854775808 ≤ x) (hx' : x ≤ 9223372036854775807) (hy : -9223372036854775808 ≤ y) (hy' : y ≤ 9223372036854775807) (hr : -9223372036854775808 ≤ r) (hr' : r ≤ 9223372036854775807) (w : World) :
    Calls Try.prog 22 #[.int .i64 x, .int .i64 y, .int .i64 r] w fun e w' => ∃ a b : Int, e = .returned (.agg #[.int .i64 ((r.tmod 13 + 13).tmod 13), .int .i64 a, .int .i64 b]) ∧ okB ((r.tmod 13 + 13).tmod 13) a b = true ∧ Below w.heap.size w w' := by
  obtain ⟨K, hK, hr0⟩ := res_of r
  obtain ⟨t1, t2⟩ := tmod_bd r 13 (by omega)
  obtain ⟨R, hR⟩ : ∃ R : Int, R = 12 - (K : Int) := ⟨_, rfl⟩
  have hm1 : bits .and .i64 y 1 = y % 2 := i64_mask y 1 (by omega)
  rcases (show y % 2 = 0 ∨ y % 2 = 1 by omega) with hy2 | hy2
  · rw [hy2] at hm1
    have PT := Lib.hid (law3_point x y hx hx' hy hy')
    obtain ⟨u1, u2⟩ := ptV_bd x
    obtain ⟨u3, u4⟩ := ptV_bd y
    have hok := near_ok (ptV x) (ptV y) K hK u1 u2 u3 u4
    rw [← hR] at hok hr0
    have HOK := Lib.hid hok
    have N1 := Lib.hid (ref_near (ptV x) (ptV y) R K hK (by omega) (pt_wd x y))
    rw [hr0]
    clear hR hok hy2
    generalize ptV x = X at *
    generalize ptV y = Y at *
    generalize nearA X Y K = za at *
    generalize nearB X Y K = zb at *
    go_enter Try.func22, Try.ntmps22
    go_wp2_with fail
    refine (PT.out _).mono ?_
    rintro e w1 ⟨rfl, rfl⟩
    go_wp2_with fail
    refine calls_start (fun V => V.cell? ⟨w.heap.size, 0, none⟩ = some (.int .i64 0) ∧ V.frozen? ⟨w.heap.size, 0, none⟩ = false ∧ V.cell? ⟨w.heap.size, 1, none⟩ = some (.int .i64 0) ∧ V.frozen? ⟨w.heap.size, 1, none⟩ = false ∧ V.cell? ⟨w.heap.size, 2, none⟩ = some (.int .i64 0) ∧ V.frozen? ⟨w.heap.size, 2, none⟩ = false ∧ Below w.heap.size w V) ⟨by first | with_reducible assumption | (simp [go_sem]; done), by first | with_reducible assumption | (simp [go_sem]; done), by first | with_reducible assumption | (simp [go_sem]; done), by first | with_reducible assumption | (simp [go_sem]; done), by first | with_reducible assumption | (simp [go_sem]; done), by first | with_reducible assumption | (simp [go_sem]; done), by repeat (first | with_reducible exact Below.refl _ _ | with_reducible refine bl_alloc ?_ _ | with_reducible refine bl_drewN ?_ _ | with_reducible refine bl_drew ?_ | (with_reducible refine bl_set ?_ ?_ _; rotate_left; focus (first | (simp; done) | (simp; omega) | omega)) | with_reducible refine below_step ?_ (Bw.below _) | with_reducible refine below_step ?_ (by assumption))⟩ ?_
    rintro V ⟨hc1, fc1, hc2, fc2, hc3, fc3, hWc⟩ gc
    have c1 := Bw.hold hc1
    have cf1 := Bw.free hc1 fc1
    have c2 := Bw.hold hc2
    have cf2 := Bw.free hc2 fc2
    have c3 := Bw.hold hc3
    have cf3 := Bw.free hc3 fc3
    have cz1 := fun g : Bw V => cell_lt (c1 g)
    have cy1 := fun g : Bw V => Nat.le_of_lt (cz1 g)
    clear hc1 fc1 hc2 fc2 hc3 fc3
    refine (N1.out _).mono ?_
    rintro e_g2 w_g2 ⟨rfl, hb_g2⟩
    obtain ⟨g2, rfl⟩ := gc.next hb_g2
    clear hb_g2
    go_wp2_with fail
    refine bodyPost_ret (v := .agg #[.int .i64 R, .int .i64 za, .int .i64 zb]) (by simp [results, Try.results22, go_sem, c1, c2, c3, cz1, cy1]) rfl ⟨za, zb, rfl, HOK.out, by repeat (first | with_reducible exact Below.refl _ _ | with_reducible refine bl_alloc ?_ _ | with_reducible refine bl_drewN ?_ _ | with_reducible refine bl_drew ?_ | (with_reducible refine bl_set ?_ ?_ _; rotate_left; focus (first | (simp; done) | (simp; omega) | omega)) | with_reducible refine below_step ?_ (Bw.below _) | with_reducible refine below_step ?_ (by assumption))⟩
  · rw [hy2] at hm1
    rw [← hR] at hr0
    have hmx : ∀ d : Int, bits .and .i64 d 1023 = d % 1024 := fun d => i64_mask d 10 (by omega)
    have hm6 : ∀ d : Int, bits .and .i64 d 63 = d % 64 := fun d => i64_mask d 6 (by omega)
    rw [hr0]
    obtain ⟨n, rfl⟩ : ∃ n : Nat, R = (n : Int) := ⟨R.toNat, by omega⟩
    have hn : n < 13 := by omega
    obtain ⟨B0, BQ⟩ := base_ok (x % 1024 - 512) (x / 1024 % 1024 - 512) (by omega) (by omega) (by omega) (by omega)
    have HB0 := Lib.hid B0
    have HBQ := Lib.hid BQ
    clear hR B0 BQ hy2
    go_enter Try.func22, Try.ntmps22
    go_wp2_with fail
    go_loopw [10] (fun k W => ∃ i : Nat, i ≤ n ∧ k = .int .i64 i ∧ (∃ p q : Int, okB (i : Int) p q = true ∧ qn p q ≤ capB i ∧ W.cell? ⟨w.heap.size + 1, 0, none⟩ = some (.int .i64 (i : Int)) ∧ W.cell? ⟨w.heap.size + 1, 1, none⟩ = some (.int .i64 p) ∧ W.cell? ⟨w.heap.size + 1, 2, none⟩ = some (.int .i64 q))
      ∧ W.frozen? ⟨w.heap.size + 1, 0, none⟩ = false ∧ W.frozen? ⟨w.heap.size + 1, 1, none⟩ = false ∧ W.frozen? ⟨w.heap.size + 1, 2, none⟩ = false
      ∧ W.cell? ⟨w.heap.size, 0, none⟩ = some (.int .i64 0) ∧ W.cell? ⟨w.heap.size, 1, none⟩ = some (.int .i64 0) ∧ W.cell? ⟨w.heap.size, 2, none⟩ = some (.int .i64 0)
      ∧ W.frozen? ⟨w.heap.size, 0, none⟩ = false ∧ W.frozen? ⟨w.heap.size, 1, none⟩ = false ∧ W.frozen? ⟨w.heap.size, 2, none⟩ = false ∧ Below w.heap.size w W) (fun k _ => n - (intOf k).toNat)
    case atStart => exact ⟨0, by omega, rfl, ⟨_, _, HB0.out, HBQ.out, by simp [go_sem], by simp [go_sem], by simp [go_sem]⟩, by simp [go_sem], by simp [go_sem], by simp [go_sem], by simp [go_sem], by simp [go_sem], by simp [go_sem], by simp [go_sem], by simp [go_sem], by simp [go_sem], by repeat (first | with_reducible exact Below.refl _ _ | with_reducible refine bl_alloc ?_ _ | with_reducible refine bl_drewN ?_ _ | with_reducible refine bl_drew ?_ | (with_reducible refine bl_set ?_ ?_ _; rotate_left; focus (first | (simp; done) | (simp; omega) | omega)) | with_reducible refine below_step ?_ (Bw.below _) | with_reducible refine below_step ?_ (by assumption))⟩
    case round =>
      obtain ⟨i, hi, rfl, ⟨p, q, hok, hq, e1, e2, e3⟩, ef1, ef2, ef3, d1, d2, d3, df1, df2, df3, hb⟩ := hrel
      clear HB0 HBQ
      by_cases hlt : i < n
      · have KD := Lib.hid (ref_children (i : Int) p q hok (by omega))
        have HCH : Hid (∀ m : Nat, m < 7 → okB ((i : Int) + 1) (chX (2 * p - q) m) (chY (p + 3 * q) m) = true ∧ qn (chX (2 * p - q) m) (chY (p + 3 * q) m) ≤ capB (i + 1)) := Lib.hid fun m hm => ch_ok p q i m (by omega) hm hok hq
        have s1 : (0 : Int) ≤ 3 * (i : Int) + 1 := by omega
        have s2 : 3 * (i : Int) + 1 < 64 := by omega
        clear hok hq
        generalize 2 * p - q = da at *
        generalize p + 3 * q = db at *
        go_wp2_with fail
        refine calls_start (fun V => V.cell? ⟨w.heap.size, 0, none⟩ = some (.int .i64 0) ∧ V.frozen? ⟨w.heap.size, 0, none⟩ = false ∧ V.cell? ⟨w.heap.size, 1, none⟩ = some (.int .i64 0) ∧ V.frozen? ⟨w.heap.size, 1, none⟩ = false ∧ V.cell? ⟨w.heap.size, 2, none⟩ = some (.int .i64 0) ∧ V.frozen? ⟨w.heap.size, 2, none⟩ = false ∧ V.cell? ⟨w.heap.size + 1, 0, none⟩ = some (.int .i64 (i : Int)) ∧ V.frozen? ⟨w.heap.size + 1, 0, none⟩ = false ∧ V.cell? ⟨w.heap.size + 1, 1, none⟩ = some (.int .i64 p) ∧ V.frozen? ⟨w.heap.size + 1, 1, none⟩ = false ∧ V.cell? ⟨w.heap.size + 1, 2, none⟩ = some (.int .i64 q) ∧ V.frozen? ⟨w.heap.size + 1, 2, none⟩ = false ∧ Below w.heap.size w V) ⟨by first | with_reducible assumption | (simp [go_sem]; done), by first | with_reducible assumption | (simp [go_sem]; done), by first | with_reducible assumption | (simp [go_sem]; done), by first | with_reducible assumption | (simp [go_sem]; done), by first | with_reducible assumption | (simp [go_sem]; done), by first | with_reducible assumption | (simp [go_sem]; done), by first | with_reducible assumption | (simp [go_sem]; done), by first | with_reducible assumption | (simp [go_sem]; done), by first | with_reducible assumption | (simp [go_sem]; done), by first | with_reducible assumption | (simp [go_sem]; done), by first | with_reducible assumption | (simp [go_sem]; done), by first | with_reducible assumption | (simp [go_sem]; done), by repeat (first | with_reducible exact Below.refl _ _ | with_reducible refine bl_alloc ?_ _ | with_reducible refine bl_drewN ?_ _ | with_reducible refine bl_drew ?_ | (with_reducible refine bl_set ?_ ?_ _; rotate_left; focus (first | (simp; done) | (simp; omega) | omega)) | with_reducible refine below_step ?_ (Bw.below _) | with_reducible refine below_step ?_ (by assumption))⟩ ?_
        rintro V ⟨hc1, fc1, hc2, fc2, hc3, fc3, hc4, fc4, hc5, fc5, hc6, fc6, hWc⟩ gc
        have c1 := Bw.hold hc1
        have cf1 := Bw.free hc1 fc1
        have c2 := Bw.hold hc2
        have cf2 := Bw.free hc2 fc2
        have c3 := Bw.hold hc3
        have cf3 := Bw.free hc3 fc3
        have c4 := Bw.hold hc4
        have cf4 := Bw.free hc4 fc4
        have c5 := Bw.hold hc5
        have cf5 := Bw.free hc5 fc5
        have c6 := Bw.hold hc6
        have cf6 := Bw.free hc6 fc6
        have cz1 := fun g : Bw V => cell_lt (c1 g)
        have cy1 := fun g : Bw V => Nat.le_of_lt (cz1 g)
        have cz4 := fun g : Bw V => cell_lt (c4 g)
        have cy4 := fun g : Bw V => Nat.le_of_lt (cz4 g)
        clear hc1 fc1 hc2 fc2 hc3 fc3 hc4 fc4 hc5 fc5 hc6 fc6
        clear e1 e2 e3 ef1 ef2 ef3 d1 d2 d3 df1 df2 df3 hb
        refine (KD.out _).mono ?_
        rintro e_h w_h ⟨v, rfl, own_h, hb_h⟩
        obtain ⟨g2, rfl⟩ := gc.next hb_h
        clear hb_h
        obtain ⟨hg, cap, rfl, hgb, hcs⟩ := own_kids own_h
        obtain ⟨J, hJ⟩ : ∃ J, (y / 2 ^ (3 * i + 1) % 64 % 7).toNat = J := ⟨_, rfl⟩
        have hJ7 : J < 7 := by
          have m1 := Int.emod_nonneg (y / 2 ^ (3 * i + 1) % 64) (show (7 : Int) ≠ 0 by decide)
          have m2 := Int.emod_lt_of_pos (y / 2 ^ (3 * i + 1) % 64) (show (0 : Int) < 7 by decide)
          omega
        obtain ⟨k1, k2, k3⟩ := hcs J hJ7
        obtain ⟨ho, hq⟩ := HCH.out J hJ7
        have HO := Lib.hid ho
        have HQ := Lib.hid hq
        clear own_h hcs ho hq HCH
        generalize chX da J = p' at *
        generalize chY db J = q' at *
        go_wp2_with fail
        go_roundw
        case rel => exact ⟨i + 1, by omega, by go_num, ⟨p', q', by rw [show ((i + 1 : Nat) : Int) = (i : Int) + 1 by omega]; exact HO.out, HQ.out, by simp [go_sem, c4, c5, c6], by simp [go_sem, c4, c5, c6], by simp [go_sem, c4, c5, c6]⟩, by simp [go_sem, cf4, cf5, cf6], by simp [go_sem, cf4, cf5, cf6], by simp [go_sem, cf4, cf5, cf6],
          by simp [go_sem, c1, c2, c3], by simp [go_sem, c1, c2, c3], by simp [go_sem, c1, c2, c3], by simp [go_sem, cf1, cf2, cf3], by simp [go_sem, cf1, cf2, cf3], by simp [go_sem, cf1, cf2, cf3], by repeat (first | with_reducible exact Below.refl _ _ | with_reducible refine bl_alloc ?_ _ | with_reducible refine bl_drewN ?_ _ | with_reducible refine bl_drew ?_ | (with_reducible refine bl_set ?_ ?_ _; rotate_left; focus (first | (simp; done) | (simp; omega) | omega)) | with_reducible refine below_step ?_ (Bw.below _) | with_reducible refine below_step ?_ (by assumption))⟩
        case measure => simp [intOf]; omega
      · obtain rfl : i = n := by omega
        have HOK := Lib.hid hok
        clear hok hq
        go_wp2_with fail
        refine bodyPost_ret (v := .agg #[.int .i64 (i : Int), .int .i64 p, .int .i64 q]) (by simp [results, Try.results22, go_sem, d1, d2, d3]) rfl ⟨p, q, rfl, HOK.out, by repeat (first | with_reducible exact Below.refl _ _ | with_reducible refine bl_alloc ?_ _ | with_reducible refine bl_drewN ?_ _ | with_reducible refine bl_drew ?_ | (with_reducible refine bl_set ?_ ?_ _; rotate_left; focus (first | (simp; done) | (simp; omega) | omega)) | with_reducible refine below_step ?_ (Bw.below _) | with_reducible refine below_step ?_ (by assumption))⟩
end Go.Proofs.Ytmipkloleklnkaa

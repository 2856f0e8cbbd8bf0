
/- The walk of eisen.Round. -/
import Derived.Test.YtmipkloleklnkaaEisW
import Derived.Test.YtmipkloleklnkaaNum
namespace Go.Proofs.Ytmipkloleklnkaa
open Go.RowKit

/-- The corners of a mesh that Round tries, behind the first; how much farther each is; the best of the first k; its value. -/
def rzA (k : Nat) : Int := if k = 0 then 0 else if k = 1 then 1 else 1
def rzB (k : Nat) : Int := if k = 0 then 1 else if k = 1 then 0 else 1
def rfar (a b d : Int) (k : Nat) : Int := if k = 0 then d - (a + 2 * b) else if k = 1 then d - (2 * a + b) else 3 * d - (2 * a + b) - (a + 2 * b)
def rbest (a b d : Int) : Nat → Int
  | 0 => 0
  | k + 1 => if rfar a b d k < rbest a b d k then rfar a b d k else rbest a b d k
def ratA (a b d : Int) : Nat → Int
  | 0 => 0
  | k + 1 => if rfar a b d k < rbest a b d k then rzA k else ratA a b d k
def ratB (a b d : Int) : Nat → Int
  | 0 => 0
  | k + 1 => if rfar a b d k < rbest a b d k then rzB k else ratB a b d k
/-- What Round tells. -/
def rdA (x y d : Int) : Int := x / d + ratA (x % d) (y % d) d 3
def rdB (x y d : Int) : Int := y / d + ratB (x % d) (y % d) d 3

structure RoundMem (w : World) (R Z S : Nat) (u v : Int) (W : World) : Prop where
  z0 : W.cell? ⟨Z, 0, none⟩ = some (.int .i64 u)
  z1 : W.cell? ⟨Z, 1, none⟩ = some (.int .i64 v)
  zf0 : W.frozen? ⟨Z, 0, none⟩ = false
  zf1 : W.frozen? ⟨Z, 1, none⟩ = false
  r0 : W.cell? ⟨R, 0, none⟩ = some (.int .i64 0)
  r1 : W.cell? ⟨R, 1, none⟩ = some (.int .i64 0)
  rf0 : W.frozen? ⟨R, 0, none⟩ = false
  rf1 : W.frozen? ⟨R, 1, none⟩ = false
  s0 : W.cell? ⟨S, 0, none⟩ = some (.int .i64 0)
  s1 : W.cell? ⟨S, 1, none⟩ = some (.int .i64 1)
  s2 : W.cell? ⟨S, 2, none⟩ = some (.int .i64 1)
  s3 : W.cell? ⟨S, 3, none⟩ = some (.int .i64 0)
  s4 : W.cell? ⟨S, 4, none⟩ = some (.int .i64 1)
  s5 : W.cell? ⟨S, 5, none⟩ = some (.int .i64 1)
  hb : Below w.heap.size w W
theorem RoundMem.alloc {w W : World} {R Z S : Nat} {u v : Int} (h : RoundMem w R Z S u v W) (ob : Obj) : RoundMem w R Z S u v (W.alloc ob) :=
  ⟨(cell_al (cell_lt h.z0) ob).trans h.z0, (cell_al (cell_lt h.z1) ob).trans h.z1, (free_al (cell_lt h.z0) ob).trans h.zf0, (free_al (cell_lt h.z1) ob).trans h.zf1,
   (cell_al (cell_lt h.r0) ob).trans h.r0, (cell_al (cell_lt h.r1) ob).trans h.r1, (free_al (cell_lt h.r0) ob).trans h.rf0, (free_al (cell_lt h.r1) ob).trans h.rf1,
   (cell_al (cell_lt h.s0) ob).trans h.s0, (cell_al (cell_lt h.s1) ob).trans h.s1, (cell_al (cell_lt h.s2) ob).trans h.s2, (cell_al (cell_lt h.s3) ob).trans h.s3, (cell_al (cell_lt h.s4) ob).trans h.s4, (cell_al (cell_lt h.s5) ob).trans h.s5,
   bl_alloc h.hb ob⟩
theorem RoundMem.drew {w W : World} {R Z S : Nat} {u v : Int} (h : RoundMem w R Z S u v W) : RoundMem w R Z S u v W.drew :=
  ⟨h.z0, h.z1, h.zf0, h.zf1, h.r0, h.r1, h.rf0, h.rf1, h.s0, h.s1, h.s2, h.s3, h.s4, h.s5, bl_drew h.hb⟩
theorem RoundMem.set {w W : World} {R Z S : Nat} {u v : Int} (h : RoundMem w R Z S u v W) (h1 : R ≠ Z) (h2 : S ≠ Z) (h3 : w.heap.size ≤ Z) (u' v' : Int) : RoundMem w R Z S u' v' ((W.setCell ⟨Z, 0, none⟩ (.int .i64 u')).setCell ⟨Z, 1, none⟩ (.int .i64 v')) := by
  obtain ⟨z0, z1, zf0, zf1, r0, r1, rf0, rf1, s0, s1, s2, s3, s4, s5, hb⟩ := h
  refine ⟨?_, ?_, ?_, ?_, ?_, ?_, ?_, ?_, ?_, ?_, ?_, ?_, ?_, ?_, by repeat (first | exact Below.refl _ _ | refine bl_alloc ?_ _ | refine bl_drewN ?_ _ | refine bl_drew ?_ | refine bl_set ?_ (by first | (simp; done) | (simp; omega) | omega) _ | refine below_step ?_ (by assumption) | refine below_step ?_ (Bw.below _))⟩
  all_goals simp [go_sem, *]
def RoundRel (w : World) (a b d : Int) (R Z S : Nat) (best i : Value) (W : World) : Prop :=
  ∃ k : Nat, k ≤ 3 ∧ i = .int .i64 k ∧ best = .int .i64 (rbest a b d k) ∧ RoundMem w R Z S (ratA a b d k) (ratB a b d k) W
theorem RoundRel.keep {w W : World} {a b d : Int} {R Z S k : Nat} {B : Int} (hB : B = rbest a b d k) (F : Int) (hF : F = rfar a b d k) (hk : k < 3) (h : RoundMem w R Z S (ratA a b d k) (ratB a b d k) W) (ob : Obj) (hf : B ≤ F) :
    RoundRel w a b d R Z S (.int .i64 B) (.int .i64 ((k + 1 : Nat) : Int)) (W.alloc ob) := by
  subst hB hF
  have hf' := Int.not_lt.2 hf
  refine ⟨k + 1, by omega, rfl, ?_, ?_⟩
  · rw [rbest, if_neg hf']
  · rw [ratA, ratB, if_neg hf', if_neg hf']
    exact h.alloc ob
theorem rat_bd (a b d : Int) : ∀ k, 0 ≤ ratA a b d k ∧ ratA a b d k ≤ 1 ∧ 0 ≤ ratB a b d k ∧ ratB a b d k ≤ 1
  | 0 => by simp [ratA, ratB]
  | k + 1 => by
    have h := rat_bd a b d k
    rw [ratA, ratB]
    by_cases c : rfar a b d k < rbest a b d k
    · rw [if_pos c, if_pos c]; unfold rzA rzB; split <;> (try split) <;> omega
    · rw [if_neg c, if_neg c]; exact h
theorem quo_bd (x d : Int) (hx : -1152921504606846976 ≤ x) (hx' : x ≤ 1152921504606846976) (hd : 1 ≤ d) : -1152921504606846976 ≤ x / d ∧ x / d ≤ 1152921504606846976 := by
  have h1 : x / d * d ≤ x := Int.ediv_mul_le x (by omega)
  have h2 : x < (x / d + 1) * d := Int.lt_ediv_add_one_mul_self x (by omega)
  constructor
  · by_cases h : 0 ≤ x / d
    · omega
    · have : (x / d + 1) * d ≤ (x / d + 1) * 1 := by
        rw [Int.mul_comm, Int.mul_comm (x / d + 1)]
        exact Int.mul_le_mul_of_nonpos_right (by omega) (by omega)
      omega
  · by_cases h : x / d ≤ 0
    · omega
    · have : (x / d) * 1 ≤ x / d * d := Int.mul_le_mul_of_nonneg_left (by omega) (by omega)
      omega
theorem RoundRel.turn {w W : World} {a b d : Int} {R Z S k : Nat} {B F u v : Int} (hB : B = rbest a b d k) (hF : F = rfar a b d k) (hu : u = rzA k) (hv : v = rzB k) (hk : k < 3) (h : RoundMem w R Z S (ratA a b d k) (ratB a b d k) W) (h1 : R ≠ Z) (h2 : S ≠ Z) (h3 : w.heap.size ≤ Z) (ob : Obj) (hf : F < B) :
    RoundRel w a b d R Z S (.int .i64 F) (.int .i64 ((k + 1 : Nat) : Int)) (((W.alloc ob).setCell ⟨Z, 0, none⟩ (.int .i64 u)).setCell ⟨Z, 1, none⟩ (.int .i64 v)).drew := by
  subst hB hF hu hv
  refine ⟨k + 1, by omega, rfl, ?_, ?_⟩
  · rw [rbest, if_pos hf]
  · rw [ratA, ratB, if_pos hf, if_pos hf]
    exact ((h.alloc ob).set h1 h2 h3 _ _).drew
set_option maxHeartbeats 400000 in
theorem eis_round (x y d : Int) (hx : -1152921504606846976 ≤ x) (hx' : x ≤ 1152921504606846976) (hy : -1152921504606846976 ≤ y) (hy' : y ≤ 1152921504606846976) (hd : 1 ≤ d) (hd' : d ≤ 1125899906842624) (w : World) :
    Calls Try.prog 79 #[.agg #[.int .i64 x, .int .i64 y], .int .i64 d] w fun e w' => e = .returned (.tuple #[.agg #[.int .i64 (rdA x y d), .int .i64 (rdB x y d)], .bool true]) ∧ Below w.heap.size w w' := by
  have d1 : decide (d < 1) = false := decide_eq_false (by omega)
  have d2 : decide (1125899906842624 < d) = false := decide_eq_false (by omega)
  have W1 := num_within x 1152921504606846976 (by omega) (by omega)
  have W2 := num_within y 1152921504606846976 (by omega) (by omega)
  rw [show withinB x 1152921504606846976 = true from decide_eq_true ⟨hx, hx'⟩] at W1
  rw [show withinB y 1152921504606846976 = true from decide_eq_true ⟨hy, hy'⟩] at W2
  have H1 := Lib.hid W1
  have H2 := Lib.hid W2
  have F1 := Lib.hid (num_floor_pos x d (by omega) (by omega) (by omega) (by omega))
  have F2 := Lib.hid (num_floor_pos y d (by omega) (by omega) (by omega) (by omega))
  clear W1 W2
  go_enter Try.func79, Try.ntmps79
  go_wp2_with fail
  refine (H1.out _).mono ?_
  rintro e w' ⟨rfl, rfl⟩
  go_wp2_with fail
  refine (H2.out _).mono ?_
  rintro e w' ⟨rfl, rfl⟩
  go_wp2_with fail
  refine (F1.out _).mono ?_
  rintro e w' ⟨rfl, n1, rfl⟩
  go_wp2_with fail
  refine (F2.out _).mono ?_
  rintro e w' ⟨rfl, n2, rfl⟩
  go_wp2_with fail
  have xb := Int.emod_lt_of_pos x (b := d) (by omega)
  have xb0 := Int.emod_nonneg x (b := d) (by omega)
  have yb := Int.emod_lt_of_pos y (b := d) (by omega)
  have yb0 := Int.emod_nonneg y (b := d) (by omega)
  go_loopw [12, 59] (fun best i W => RoundRel w (x % d) (y % d) d (w.heap.size + 1) (w.heap.size + 1 + 1) (w.heap.size + 1 + 1 + 1) best i W) (fun _ i _ => 3 - (intOf i).toNat)
  case atStart => exact ⟨0, Nat.zero_le _, rfl, rfl, by simp [go_sem, ratA], by simp [go_sem, ratB], by simp [go_sem], by simp [go_sem], by simp [go_sem], by simp [go_sem], by simp [go_sem], by simp [go_sem], by simp [go_sem], by simp [go_sem], by simp [go_sem], by simp [go_sem], by simp [go_sem], by simp [go_sem], by repeat (first | exact Below.refl _ _ | refine bl_alloc ?_ _ | refine bl_drewN ?_ _ | refine bl_drew ?_ | refine bl_set ?_ (by first | (simp; done) | (simp; omega) | omega) _ | refine below_step ?_ (by assumption) | refine below_step ?_ (Bw.below _))⟩
  case round =>
    obtain ⟨k, hk, rfl, rfl, hm⟩ := hrel
    have HM := Lib.hid hm
    obtain ⟨z0, z1, zf0, zf1, r0, r1, rf0, rf1, s0, s1, s2, s3, s4, s5, hb⟩ := hm
    obtain ⟨B, hB⟩ : ∃ B, B = rbest (x % d) (y % d) d k := ⟨_, rfl⟩
    rw [← hB]
    have HB := Lib.hid hB
    clear hB
    have za0 := fun ob : Obj => (cell_al (cell_lt z0) ob).trans z0
    have za1 := fun ob : Obj => (cell_al (cell_lt z1) ob).trans z1
    have zb0 := fun ob : Obj => (free_al (cell_lt z0) ob).trans zf0
    have zb1 := fun ob : Obj => (free_al (cell_lt z1) ob).trans zf1
    have hk4 : k = 0 ∨ k = 1 ∨ k = 2 ∨ k = 3 := by omega
    rcases hk4 with rfl | rfl | rfl | rfl
    · go_wp2
      · go_region
        all_goals (try go_wp2)
        go_roundw
        case rel => exact RoundRel.turn HB.out (by simp [rfar]; try omega) rfl rfl (by omega) HM.out (by omega) (by omega) (by omega) _ (by assumption)
        case measure => simp [intOf]
      · go_roundw
        case rel =>
          exact RoundRel.keep HB.out _ rfl (by omega) HM.out _ (by simp [rfar]; omega)
        case measure => simp [intOf]
    · go_wp2
      · go_region
        all_goals (try go_wp2)
        go_roundw
        case rel => exact RoundRel.turn HB.out (by simp [rfar]; try omega) rfl rfl (by omega) HM.out (by omega) (by omega) (by omega) _ (by assumption)
        case measure => simp [intOf]
      · go_roundw
        case rel =>
          exact RoundRel.keep HB.out _ rfl (by omega) HM.out _ (by simp [rfar]; omega)
        case measure => simp [intOf]
    · go_wp2
      · go_region
        all_goals (try go_wp2)
        go_roundw
        case rel => exact RoundRel.turn HB.out (by simp [rfar]; try omega) rfl rfl (by omega) HM.out (by omega) (by omega) (by omega) _ (by assumption)
        case measure => simp [intOf]
      · go_roundw
        case rel =>
          exact RoundRel.keep HB.out _ rfl (by omega) HM.out _ (by simp [rfar]; omega)
        case measure => simp [intOf]
    · obtain ⟨t1, t2, t3, t4⟩ := rat_bd (x % d) (y % d) d 3
      obtain ⟨t5, t6⟩ := quo_bd x d hx hx' hd
      obtain ⟨t7, t8⟩ := quo_bd y d hy hy' hd
      go_wp2
      refine bodyPost_ret (v := .tuple #[.agg #[.int .i64 (x / d + ratA (x % d) (y % d) d 3), .int .i64 (y / d + ratB (x % d) (y % d) d 3)], .bool true]) (by simp [results, Try.results79, go_sem, r0, r1]) rfl ⟨rfl, ?_⟩
      repeat (first | exact Below.refl _ _ | refine bl_alloc ?_ _ | refine bl_drewN ?_ _ | refine bl_drew ?_ | refine bl_set ?_ (by first | (simp; done) | (simp; omega) | omega) _ | refine below_step ?_ (by assumption) | refine below_step ?_ (Bw.below _))

set_option maxHeartbeats 400000 in
theorem eis_round_no (x y d : Int) (h : d < 1 ∨ 1125899906842624 < d ∨ withinB x 1152921504606846976 = false ∨ withinB y 1152921504606846976 = false) (w : World) :
    Calls Try.prog 79 #[.agg #[.int .i64 x, .int .i64 y], .int .i64 d] w fun e w' => e = .returned (.tuple #[.agg #[.int .i64 0, .int .i64 0], .bool false]) ∧ Below w.heap.size w w' := by
  have W1 := num_within x 1152921504606846976 (by omega) (by omega)
  have W2 := num_within y 1152921504606846976 (by omega) (by omega)
  by_cases c1 : d < 1
  · have d1 : decide (d < 1) = true := decide_eq_true c1
    go_enter Try.func79, Try.ntmps79
    go_wp2
    refine bodyPost_ret (v := .tuple #[.agg #[.int .i64 0, .int .i64 0], .bool false]) (by simp [results, Try.results79, go_sem]) rfl ⟨rfl, by repeat (first | exact Below.refl _ _ | refine bl_alloc ?_ _ | refine bl_drewN ?_ _ | refine bl_drew ?_ | refine bl_set ?_ (by first | (simp; done) | (simp; omega) | omega) _ | refine below_step ?_ (by assumption) | refine below_step ?_ (Bw.below _))⟩
  · have d1 : decide (d < 1) = false := decide_eq_false c1
    by_cases c2 : 1125899906842624 < d
    · have d2 : decide (1125899906842624 < d) = true := decide_eq_true c2
      go_enter Try.func79, Try.ntmps79
      go_wp2
      refine bodyPost_ret (v := .tuple #[.agg #[.int .i64 0, .int .i64 0], .bool false]) (by simp [results, Try.results79, go_sem]) rfl ⟨rfl, by repeat (first | exact Below.refl _ _ | refine bl_alloc ?_ _ | refine bl_drewN ?_ _ | refine bl_drew ?_ | refine bl_set ?_ (by first | (simp; done) | (simp; omega) | omega) _ | refine below_step ?_ (by assumption) | refine below_step ?_ (Bw.below _))⟩
    · have d2 : decide (1125899906842624 < d) = false := decide_eq_false c2
      rcases hx1 : withinB x 1152921504606846976 with _ | _
      · rw [hx1] at W1
        have H1 := Lib.hid W1
        clear W1 W2 h hx1
        go_enter Try.func79, Try.ntmps79
        go_wp2_with fail
        refine (H1.out _).mono ?_
        rintro e w' ⟨rfl, rfl⟩
        go_wp2
        refine bodyPost_ret (v := .tuple #[.agg #[.int .i64 0, .int .i64 0], .bool false]) (by simp [results, Try.results79, go_sem]) rfl ⟨rfl, by repeat (first | exact Below.refl _ _ | refine bl_alloc ?_ _ | refine bl_drewN ?_ _ | refine bl_drew ?_ | refine bl_set ?_ (by first | (simp; done) | (simp; omega) | omega) _ | refine below_step ?_ (by assumption) | refine below_step ?_ (Bw.below _))⟩
      · have hy1 : withinB y 1152921504606846976 = false := by
          rcases h with h | h | h | h
          · omega
          · omega
          · rw [hx1] at h; cases h
          · exact h
        rw [hx1] at W1
        rw [hy1] at W2
        have H1 := Lib.hid W1
        have H2 := Lib.hid W2
        clear W1 W2 h hx1 hy1
        go_enter Try.func79, Try.ntmps79
        go_wp2_with fail
        refine (H1.out _).mono ?_
        rintro e w' ⟨rfl, rfl⟩
        go_wp2_with fail
        refine (H2.out _).mono ?_
        rintro e w' ⟨rfl, rfl⟩
        go_wp2
        refine bodyPost_ret (v := .tuple #[.agg #[.int .i64 0, .int .i64 0], .bool false]) (by simp [results, Try.results79, go_sem]) rfl ⟨rfl, by repeat (first | exact Below.refl _ _ | refine bl_alloc ?_ _ | refine bl_drewN ?_ _ | refine bl_drew ?_ | refine bl_set ?_ (by first | (simp; done) | (simp; omega) | omega) _ | refine below_step ?_ (by assumption) | refine below_step ?_ (Bw.below _))⟩
end Go.Proofs.Ytmipkloleklnkaa

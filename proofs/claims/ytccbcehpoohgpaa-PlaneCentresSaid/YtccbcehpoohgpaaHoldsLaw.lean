/- The plain law of PlaneHolds: on which side of a hexagon's edges a point lies. No condition. -/
import Derived.Test.YtccbcehpoohgpaaHex
import Derived.Test.YtccbcehpoohgpaaSide
import Derived.Test.YtccbcehpoohgpaaBack
import Derived.Test.YtccbcehpoohgpaaRoundLaw
namespace Go.Proofs.Ytccbcehpoohgpaa
open Go.RowKit
theorem cross_core (t1 t2 ca cb x y ka kb la lb : Int) :
    (52 * (3 * ca + (t1 * la - t2 * lb)) + 26 * (3 * cb + (t1 * lb + t2 * la + t2 * lb)) - (52 * (3 * ca + (t1 * ka - t2 * kb)) + 26 * (3 * cb + (t1 * kb + t2 * ka + t2 * kb)))) * (3 * y - 45 * (3 * cb + (t1 * kb + t2 * ka + t2 * kb)))
      - (45 * (3 * cb + (t1 * lb + t2 * la + t2 * lb)) - 45 * (3 * cb + (t1 * kb + t2 * ka + t2 * kb))) * (3 * x - (52 * (3 * ca + (t1 * ka - t2 * kb)) + 26 * (3 * cb + (t1 * kb + t2 * ka + t2 * kb))))
    = (la - ka) * (3 * ((45 * x - 26 * y) * (-t2) + 52 * y * (t1 + t2) + 52 * y * (-t2) - 2340 * (t1 * cb - t2 * ca)) - 2340 * (t1 * t1 + t1 * t2 + t2 * t2) * kb)
      - (lb - kb) * (3 * ((45 * x - 26 * y) * (t1 + t2) - 52 * y * (-t2) - 2340 * ((t1 + t2) * ca + t2 * cb)) - 2340 * (t1 * t1 + t1 * t2 + t2 * t2) * ka) := by
  grind
theorem back_core (t1 t2 za zb : Int) : t1 * (t1 * zb + t2 * za + t2 * zb) - t2 * (t1 * za - t2 * zb) = (t1 * t1 + t1 * t2 + t2 * t2) * zb ∧ (t1 + t2) * (t1 * za - t2 * zb) + t2 * (t1 * zb + t2 * za + t2 * zb) = (t1 * t1 + t1 * t2 + t2 * t2) * za := by
  constructor <;> grind
theorem cn_cross (za zb x y : Int) (K : Nat) (hK : K < 13) (k l : Nat) :
    (cnX (3 * plA za zb K) (3 * plB za zb K) K l - cnX (3 * plA za zb K) (3 * plB za zb K) K k) * (3 * y - cnY (3 * plA za zb K) (3 * plB za zb K) K k)
      - (cnY (3 * plA za zb K) (3 * plB za zb K) K l - cnY (3 * plA za zb K) (3 * plB za zb K) K k) * (3 * x - cnX (3 * plA za zb K) (3 * plB za zb K) K k)
    = (hkA l - hkA k) * (3 * (nrY x y K - 2340 * p7 K * zb) - 2340 * p7 K * hkB k) - (hkB l - hkB k) * (3 * (nrX x y K - 2340 * p7 K * za) - 2340 * p7 K * hkA k) := by
  have h0 := bt_norm K hK
  unfold cnX cnY plA plB nrX nrY cjA cjB
  generalize (bt K).1 = t1 at *
  generalize (bt K).2 = t2 at *
  generalize p7 K = N at *
  have h1 := cross_core t1 t2 (t1 * za - t2 * zb) (t1 * zb + t2 * za + t2 * zb) x y (hkA k) (hkB k) (hkA l) (hkB l)
  obtain ⟨h2, h3⟩ := back_core t1 t2 za zb
  rw [h2, h3, h0] at h1
  rw [h1, Int.mul_assoc 2340 N zb, Int.mul_assoc 2340 N za]
theorem ce_cross (za zb : Int) (K : Nat) (hK : K < 13) : nrX (ceX za zb K) (ceY za zb K) K = 2340 * p7 K * za ∧ nrY (ceX za zb K) (ceY za zb K) K = 2340 * p7 K * zb := by
  have h0 := bt_norm K hK
  unfold nrX nrY ceX ceY plA plB cjA cjB
  generalize (bt K).1 = t1 at *
  generalize (bt K).2 = t2 at *
  rw [← h0]
  constructor <;> grind
/-- n and m stand one behind the other, around. -/
def Next (n m : Nat) : Prop := (n = 0 ∧ m = 1) ∨ (n = 1 ∧ m = 2) ∨ (n = 2 ∧ m = 3) ∨ (n = 3 ∧ m = 4) ∨ (n = 4 ∧ m = 5) ∨ (n = 5 ∧ m = 0)
theorem cn_hexa (S T d : Int) (h : Hexa S T d) (hd : 0 < d) (n m : Nat) (hn : Next n m) :
    0 ≤ (hkA m - hkA n) * (3 * T - d * hkB n) - (hkB m - hkB n) * (3 * S - d * hkA n) ∧ 0 < (hkA m - hkA n) * (3 * 0 - d * hkB n) - (hkB m - hkB n) * (3 * 0 - d * hkA n) := by
  obtain ⟨a1, a2, b1, b2, c1, c2⟩ := h
  rcases hn with ⟨rfl, rfl⟩ | ⟨rfl, rfl⟩ | ⟨rfl, rfl⟩ | ⟨rfl, rfl⟩ | ⟨rfl, rfl⟩ | ⟨rfl, rfl⟩ <;> simp only [hkA, hkB] <;> omega
theorem sdV_ge {l r : Int} (h : 0 ≤ l - r) : sdV l r = 0 ∨ sdV l r = 1 := by
  unfold sdV
  split
  · omega
  · split <;> simp
theorem sdV_gt {l r : Int} (h : 0 < l - r) : sdV l r = 1 := by
  unfold sdV
  rw [if_neg (by omega), if_pos (by omega)]
theorem cn_bd (ma mb : Int) (K : Nat) (hK : K < 13) (h1 : -1000000000000000 ≤ ma) (h2 : ma ≤ 1000000000000000) (h3 : -1000000000000000 ≤ mb) (h4 : mb ≤ 1000000000000000) (k : Nat) :
    -100000000000000000 ≤ cnX ma mb K k ∧ cnX ma mb K k ≤ 100000000000000000 ∧ -100000000000000000 ≤ cnY ma mb K k ∧ cnY ma mb K k ≤ 100000000000000000 := by
  have hb : -2 ≤ hkA k ∧ hkA k ≤ 2 ∧ -2 ≤ hkB k ∧ hkB k ≤ 2 := by
    unfold hkA hkB
    split <;> decide
  obtain ⟨l1, l2, l3, l4⟩ := pl_bd (hkA k) (hkB k) K hK 2 (by omega) hb.1 hb.2.1 hb.2.2.1 hb.2.2.2
  unfold cnX cnY
  omega
/-- On the inner side, or on it: the point; on the inner side: the centre. -/
theorem holds_sides (x y : Int) (K : Nat) (hK : K < 13) (x1 : 0 ≤ x) (x2 : x < 1073741824) (y1 : 0 ≤ y) (y2 : y < 1073741824) (n m : Nat) (hn : Next n m) :
    ∃ s : Int, (s = 0 ∨ s = 1) ∧
      (∀ w : World, Calls Try.prog 27 #[.agg #[.int .i64 (cnX (plA (3 * nearA x y K) (3 * nearB x y K) K) (plB (3 * nearA x y K) (3 * nearB x y K) K) K n), .int .i64 (cnY (plA (3 * nearA x y K) (3 * nearB x y K) K) (plB (3 * nearA x y K) (3 * nearB x y K) K) K n)],
        .agg #[.int .i64 (cnX (plA (3 * nearA x y K) (3 * nearB x y K) K) (plB (3 * nearA x y K) (3 * nearB x y K) K) K m), .int .i64 (cnY (plA (3 * nearA x y K) (3 * nearB x y K) K) (plB (3 * nearA x y K) (3 * nearB x y K) K) K m)],
        .int .i64 (3 * x), .int .i64 (3 * y)] w fun e w' => e = .returned (.int .i64 s) ∧ Below w.heap.size w w') ∧
      (∀ w : World, Calls Try.prog 27 #[.agg #[.int .i64 (cnX (plA (3 * nearA x y K) (3 * nearB x y K) K) (plB (3 * nearA x y K) (3 * nearB x y K) K) K n), .int .i64 (cnY (plA (3 * nearA x y K) (3 * nearB x y K) K) (plB (3 * nearA x y K) (3 * nearB x y K) K) K n)],
        .agg #[.int .i64 (cnX (plA (3 * nearA x y K) (3 * nearB x y K) K) (plB (3 * nearA x y K) (3 * nearB x y K) K) K m), .int .i64 (cnY (plA (3 * nearA x y K) (3 * nearB x y K) K) (plB (3 * nearA x y K) (3 * nearB x y K) K) K m)],
        .int .i64 (3 * ceX (nearA x y K) (nearB x y K) K), .int .i64 (3 * ceY (nearA x y K) (nearB x y K) K)] w fun e w' => e = .returned (.int .i64 1) ∧ Below w.heap.size w w') := by
  obtain ⟨b1, b2, b3, b4⟩ := near_tame x y K hK x1 x2 y1 y2
  obtain ⟨p1, p2⟩ := p7_small K hK
  have hx := rd_hexa (nrX x y K) (nrY x y K) (2340 * p7 K) (by omega)
  have hx' : Hexa (nrX x y K - 2340 * p7 K * nearA x y K) (nrY x y K - 2340 * p7 K * nearB x y K) (2340 * p7 K) := hx
  obtain ⟨g1, g2⟩ := cn_hexa _ _ _ hx' (by omega) n m hn
  have c1 := cn_cross (nearA x y K) (nearB x y K) x y K hK n m
  have c2 := cn_cross (nearA x y K) (nearB x y K) (ceX (nearA x y K) (nearB x y K) K) (ceY (nearA x y K) (nearB x y K) K) K hK n m
  rw [(ce_cross (nearA x y K) (nearB x y K) K hK).1, (ce_cross (nearA x y K) (nearB x y K) K hK).2, Int.sub_self, Int.sub_self] at c2
  rw [← c1] at g1
  rw [← c2] at g2
  obtain ⟨e1, e2⟩ := pl_times (nearA x y K) (nearB x y K) 3 K
  rw [e1, e2]
  clear c1 c2 hx hx' e1 e2
  generalize nearA x y K = za at *
  generalize nearB x y K = zb at *
  obtain ⟨l1, l2, l3, l4⟩ := pl_bd za zb K hK 140000001 (by omega) b1 b2 b3 b4
  have h1 : -600000000000000000 ≤ 3 * ceX za zb K := by unfold ceX; omega
  have h2 : 3 * ceX za zb K ≤ 600000000000000000 := by unfold ceX; omega
  have h3 : -600000000000000000 ≤ 3 * ceY za zb K := by unfold ceY; omega
  have h4 : 3 * ceY za zb K ≤ 600000000000000000 := by unfold ceY; omega
  obtain ⟨m1, m2, m3, m4⟩ := cn_bd (3 * plA za zb K) (3 * plB za zb K) K hK (by omega) (by omega) (by omega) (by omega) n
  obtain ⟨m5, m6, m7, m8⟩ := cn_bd (3 * plA za zb K) (3 * plB za zb K) K hK (by omega) (by omega) (by omega) (by omega) m
  refine ⟨_, sdV_ge g1, fun w => law3_side _ _ _ _ _ _ _ rfl (by omega) (by omega) (by omega) (by omega) (by omega) (by omega) (by omega) (by omega) (by omega) (by omega) (by omega) (by omega) w, fun w => ?_⟩
  have k := law3_side (cnX (3 * plA za zb K) (3 * plB za zb K) K n) (cnY (3 * plA za zb K) (3 * plB za zb K) K n) (cnX (3 * plA za zb K) (3 * plB za zb K) K m) (cnY (3 * plA za zb K) (3 * plB za zb K) K m) (3 * ceX za zb K) (3 * ceY za zb K) _ rfl (by omega) (by omega) (by omega) (by omega) (by omega) (by omega) (by omega) (by omega) (by omega) (by omega) (by omega) (by omega) w
  rw [sdV_gt g2] at k
  exact k
end Go.Proofs.Ytccbcehpoohgpaa

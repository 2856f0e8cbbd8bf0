
/- The plain law of Round: its remainder lies in the hexagon of the numbers nearest to it, ties told by the least; and that pins it. -/
import Derived.Test.YtmipkloleklnkaaRound
namespace Go.Proofs.Ytmipkloleklnkaa
open Go.RowKit

/-- The remainder's hexagon, with just those of its edges that go with the least of ties. -/
structure Hexa (s t d : Int) : Prop where
  a1 : -d < 2 * s + t
  a2 : 2 * s + t ≤ d
  b1 : -d < s + 2 * t
  b2 : s + 2 * t ≤ d
  c1 : t - s < d
  c2 : s - t ≤ d
theorem rat_hexa (a b d : Int) (ha : 0 ≤ a) (ha' : a < d) (hb : 0 ≤ b) (hb' : b < d) :
    (ratA a b d 3 = 0 ∧ ratB a b d 3 = 0 ∧ Hexa a b d) ∨ (ratA a b d 3 = 0 ∧ ratB a b d 3 = 1 ∧ Hexa a (b - d) d) ∨ (ratA a b d 3 = 1 ∧ ratB a b d 3 = 0 ∧ Hexa (a - d) b d) ∨ (ratA a b d 3 = 1 ∧ ratB a b d 3 = 1 ∧ Hexa (a - d) (b - d) d) := by
  have f0 : rfar a b d 0 = d - (a + 2 * b) := by simp [rfar]
  have f1 : rfar a b d 1 = d - (2 * a + b) := by simp [rfar]
  have f2 : rfar a b d 2 = 3 * d - (2 * a + b) - (a + 2 * b) := by simp [rfar]
  by_cases c0 : d - (a + 2 * b) < 0
  · by_cases c1 : d - (2 * a + b) < d - (a + 2 * b)
    · by_cases c2 : 3 * d - (2 * a + b) - (a + 2 * b) < d - (2 * a + b)
      · exact .inr (.inr (.inr ⟨by simp [ratA, rbest, f0, f1, f2, c0, c1, c2, rzA], by simp [ratB, rbest, f0, f1, f2, c0, c1, c2, rzB], by constructor <;> omega⟩))
      · exact .inr (.inr (.inl ⟨by simp [ratA, rbest, f0, f1, f2, c0, c1, c2, rzA], by simp [ratB, rbest, f0, f1, f2, c0, c1, c2, rzB], by constructor <;> omega⟩))
    · by_cases c2 : 3 * d - (2 * a + b) - (a + 2 * b) < d - (a + 2 * b)
      · exact .inr (.inr (.inr ⟨by simp [ratA, rbest, f0, f1, f2, c0, c1, c2, rzA], by simp [ratB, rbest, f0, f1, f2, c0, c1, c2, rzB], by constructor <;> omega⟩))
      · exact .inr (.inl ⟨by simp [ratA, rbest, f0, f1, f2, c0, c1, c2, rzA], by simp [ratB, rbest, f0, f1, f2, c0, c1, c2, rzB], by constructor <;> omega⟩)
  · by_cases c1 : d - (2 * a + b) < 0
    · by_cases c2 : 3 * d - (2 * a + b) - (a + 2 * b) < d - (2 * a + b)
      · exact .inr (.inr (.inr ⟨by simp [ratA, rbest, f0, f1, f2, c0, c1, c2, rzA], by simp [ratB, rbest, f0, f1, f2, c0, c1, c2, rzB], by constructor <;> omega⟩))
      · exact .inr (.inr (.inl ⟨by simp [ratA, rbest, f0, f1, f2, c0, c1, c2, rzA], by simp [ratB, rbest, f0, f1, f2, c0, c1, c2, rzB], by constructor <;> omega⟩))
    · by_cases c2 : 3 * d - (2 * a + b) - (a + 2 * b) < 0
      · exact .inr (.inr (.inr ⟨by simp [ratA, rbest, f0, f1, f2, c0, c1, c2, rzA], by simp [ratB, rbest, f0, f1, f2, c0, c1, c2, rzB], by constructor <;> omega⟩))
      · exact .inl ⟨by simp [ratA, rbest, f0, f1, f2, c0, c1, c2], by simp [ratB, rbest, f0, f1, f2, c0, c1, c2], by constructor <;> omega⟩
theorem rd_hexa (x y d : Int) (hd : 1 ≤ d) : Hexa (x - d * rdA x y d) (y - d * rdB x y d) d := by
  have e1 : x = d * (x / d) + x % d := (Int.mul_ediv_add_emod x d).symm
  have e2 : y = d * (y / d) + y % d := (Int.mul_ediv_add_emod y d).symm
  have h := rat_hexa (x % d) (y % d) d (Int.emod_nonneg x (by omega)) (Int.emod_lt_of_pos x (by omega)) (Int.emod_nonneg y (by omega)) (Int.emod_lt_of_pos y (by omega))
  have k1 : x - d * rdA x y d = x % d - d * ratA (x % d) (y % d) d 3 := by unfold rdA; rw [Int.mul_add]; omega
  have k2 : y - d * rdB x y d = y % d - d * ratB (x % d) (y % d) d 3 := by unfold rdB; rw [Int.mul_add]; omega
  rw [k1, k2]
  rcases h with ⟨p, q, h⟩ | ⟨p, q, h⟩ | ⟨p, q, h⟩ | ⟨p, q, h⟩ <;> rw [p, q] <;> simpa using h
theorem small_of_mul {d k : Int} (hd : 1 ≤ d) (h1 : -(2 * d) < d * k) (h2 : d * k < 2 * d) : -2 < k ∧ k < 2 := by
  constructor
  · apply Int.lt_of_mul_lt_mul_left (a := d) _ (by omega)
    rw [Int.mul_comm d (-2)]; omega
  · apply Int.lt_of_mul_lt_mul_left (a := d) _ (by omega)
    rw [Int.mul_comm d 2]; omega
/-- Just one number has its remainder there. -/
theorem hexa_unique (x y d i j i' j' : Int) (hd : 1 ≤ d) (h : Hexa (x - d * i) (y - d * j) d) (h' : Hexa (x - d * i') (y - d * j') d) : i = i' ∧ j = j' := by
  obtain ⟨a1, a2, b1, b2, c1, c2⟩ := h
  obtain ⟨a1', a2', b1', b2', c1', c2'⟩ := h'
  have e1 : d * (2 * (i' - i) + (j' - j)) = 2 * (d * i') - 2 * (d * i) + (d * j' - d * j) := by grind
  have e2 : d * ((i' - i) + 2 * (j' - j)) = d * i' - d * i + 2 * (d * j') - 2 * (d * j) := by grind
  have e3 : d * ((j' - j) - (i' - i)) = d * j' - d * j - (d * i' - d * i) := by grind
  obtain ⟨p1, p2⟩ := small_of_mul hd (k := 2 * (i' - i) + (j' - j)) (by omega) (by omega)
  obtain ⟨p3, p4⟩ := small_of_mul hd (k := (i' - i) + 2 * (j' - j)) (by omega) (by omega)
  obtain ⟨p5, p6⟩ := small_of_mul hd (k := (j' - j) - (i' - i)) (by omega) (by omega)
  omega
theorem rd_of_hexa (x y d i j : Int) (hd : 1 ≤ d) (h : Hexa (x - d * i) (y - d * j) d) : rdA x y d = i ∧ rdB x y d = j :=
  hexa_unique x y d _ _ _ _ hd (rd_hexa x y d hd) h
theorem rd_moved (x y d i j : Int) (hd : 1 ≤ d) : rdA (x + d * i) (y + d * j) d = rdA x y d + i ∧ rdB (x + d * i) (y + d * j) d = rdB x y d + j := by
  apply rd_of_hexa _ _ _ _ _ hd
  have h := rd_hexa x y d hd
  have e1 : x + d * i - d * (rdA x y d + i) = x - d * rdA x y d := by grind
  have e2 : y + d * j - d * (rdB x y d + j) = y - d * rdB x y d := by grind
  rw [e1, e2]; exact h
theorem rd_whole (d i j : Int) (hd : 1 ≤ d) : rdA (d * i) (d * j) d = i ∧ rdB (d * i) (d * j) d = j := by
  apply rd_of_hexa _ _ _ _ _ hd
  rw [Int.sub_self, Int.sub_self]
  constructor <;> omega
/-- The size of a remainder against that of one moved by a step (i, j). -/
theorem norm_moved (s t d i j : Int) : (s - d * i) * (s - d * i) + (s - d * i) * (t - d * j) + (t - d * j) * (t - d * j) =
    s * s + s * t + t * t + d * (d * (i * i + i * j + j * j) - (i * (2 * s + t) + j * (s + 2 * t))) := by grind
theorem hexa_third (s t d : Int) (h : Hexa s t d) : 3 * (s * s + s * t + t * t) ≤ d * d := by
  obtain ⟨a1, a2, b1, b2, c1, c2⟩ := h
  have e : 3 * (s * s + s * t + t * t) = (2 * s + t) * (2 * s + t) - (2 * s + t) * (s + 2 * t) + (s + 2 * t) * (s + 2 * t) := by grind
  rw [e]
  generalize hX : 2 * s + t = X at *
  generalize hY : s + 2 * t = Y at *
  have c3 : -d ≤ X - Y := by omega
  have c4 : X - Y ≤ d := by omega
  have sq : ∀ z : Int, -d ≤ z → z ≤ d → z * z ≤ d * d := fun z h1 h2 => by
    have := Int.mul_nonneg (show 0 ≤ d - z by omega) (show 0 ≤ d + z by omega)
    have e : (d - z) * (d + z) = d * d - z * z := by grind
    omega
  have sX := sq X (by omega) (by omega)
  have sY := sq Y (by omega) (by omega)
  have sZ := sq (X - Y) c3 c4
  by_cases hx : 0 ≤ X
  · by_cases hy : 0 ≤ Y
    · by_cases hxy : X ≤ Y
      · have := Int.mul_nonneg hx (show 0 ≤ Y - X by omega)
        have e : X * (Y - X) = X * Y - X * X := by grind
        omega
      · have := Int.mul_nonneg hy (show 0 ≤ X - Y by omega)
        have e : Y * (X - Y) = X * Y - Y * Y := by grind
        omega
    · have := Int.mul_nonneg hx (show 0 ≤ -Y by omega)
      have e : X * -Y = -(X * Y) := by grind
      have e2 : (X - Y) * (X - Y) = X * X - 2 * (X * Y) + Y * Y := by grind
      omega
  · by_cases hy : 0 ≤ Y
    · have := Int.mul_nonneg (show 0 ≤ -X by omega) hy
      have e : -X * Y = -(X * Y) := by grind
      have e2 : (X - Y) * (X - Y) = X * X - 2 * (X * Y) + Y * Y := by grind
      omega
    · by_cases hxy : X ≤ Y
      · have := Int.mul_nonneg (show 0 ≤ -Y by omega) (show 0 ≤ Y - X by omega)
        have e : -Y * (Y - X) = X * Y - Y * Y := by grind
        omega
      · have := Int.mul_nonneg (show 0 ≤ -X by omega) (show 0 ≤ X - Y by omega)
        have e : -X * (X - Y) = X * Y - X * X := by grind
        omega
end Go.Proofs.Ytmipkloleklnkaa

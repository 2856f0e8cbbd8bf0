
/- Plain law: a box clipped to a box is what both have in common. -/
import Derived.Test.YtnmehelejdbjaaaCutLaw
namespace Go.Proofs.Ytnmehelejdbjaaa
open Go.RowKit
set_option linter.unusedSimpArgs false
set_option linter.unusedVariables false
def R4 (x0 y0 x1 y1 : Int) : List (Int × Int) := [(x0, y0), (x1, y0), (x1, y1), (x0, y1)]
def V2 (x y0 y1 : Int) : List (Int × Int) := [(x, y0), (x, y1)]
theorem cut_nil (ax t : Int) (ab : Bool) : cutL ax t ab [] = [] := rfl
/-- A rectangle cut across. -/
theorem r4_lo (x0 y0 x1 y1 t : Int) (h : x0 < x1) : (t ≤ x0 ∧ cutL 0 t true (R4 x0 y0 x1 y1) = R4 x0 y0 x1 y1) ∨ (x0 < t ∧ t < x1 ∧ cutL 0 t true (R4 x0 y0 x1 y1) = R4 t y0 x1 y1) ∨ (t = x1 ∧ cutL 0 t true (R4 x0 y0 x1 y1) = V2 x1 y0 y1) ∨ (x1 < t ∧ cutL 0 t true (R4 x0 y0 x1 y1) = []) := by
  rcases (show t ≤ x0 ∨ (x0 < t ∧ t < x1) ∨ t = x1 ∨ x1 < t by omega) with h1 | ⟨h1, h2⟩ | h1 | h1
  · refine .inl ⟨h1, cut_same ?_⟩
    intro p hp
    rw [kp_lo]
    simp [R4] at hp
    rcases hp with rfl | rfl | rfl | rfl <;> simp [pcx] <;> omega
  · refine .inr (.inl ⟨h1, h2, ?_⟩)
    have n1 : ¬ t ≤ x0 := by omega
    have n2 : t ≤ x1 := by omega
    have n3 : ¬ x1 < t := by omega
    have n4 : ¬ t < x0 := by omega
    simp [cutL, cutN, cutS, R4, kpB, btB, pcx, crP, flo, h1, h2, n1, n2, n3, n4]
  · subst h1
    have n1 : ¬ t ≤ x0 := by omega
    have n4 : ¬ t < x0 := by omega
    refine .inr (.inr (.inl ⟨rfl, ?_⟩))
    simp [cutL, cutN, cutS, R4, V2, kpB, btB, pcx, crP, flo, h, n1, n4]
  · have n1 : ¬ t ≤ x0 := by omega
    have n2 : ¬ t ≤ x1 := by omega
    have n3 : ¬ t < x0 := by omega
    have n4 : ¬ t < x1 := by omega
    refine .inr (.inr (.inr ⟨h1, ?_⟩))
    simp [cutL, cutN, cutS, R4, kpB, btB, pcx, crP, flo, h1, n1, n2, n3, n4]
theorem r4_hi (x0 y0 x1 y1 t : Int) (h : x0 < x1) : (x1 ≤ t ∧ cutL 0 t false (R4 x0 y0 x1 y1) = R4 x0 y0 x1 y1) ∨ (x0 < t ∧ t < x1 ∧ cutL 0 t false (R4 x0 y0 x1 y1) = R4 x0 y0 t y1) ∨ (t = x0 ∧ cutL 0 t false (R4 x0 y0 x1 y1) = V2 x0 y0 y1) ∨ (t < x0 ∧ cutL 0 t false (R4 x0 y0 x1 y1) = []) := by
  rcases (show x1 ≤ t ∨ (x0 < t ∧ t < x1) ∨ t = x0 ∨ t < x0 by omega) with h1 | ⟨h1, h2⟩ | h1 | h1
  · refine .inl ⟨h1, cut_same ?_⟩
    intro p hp
    rw [kp_hi]
    simp [R4] at hp
    rcases hp with rfl | rfl | rfl | rfl <;> simp [pcx] <;> omega
  · refine .inr (.inl ⟨h1, h2, ?_⟩)
    have n1 : x0 ≤ t := by omega
    have n2 : ¬ x1 ≤ t := by omega
    have n3 : ¬ x1 < t := by omega
    have n4 : ¬ t < x0 := by omega
    simp [cutL, cutN, cutS, R4, kpB, btB, pcx, crP, flo, h1, h2, n1, n2, n3, n4]
  · subst h1
    have n1 : ¬ x1 ≤ t := by omega
    have n4 : ¬ x1 < t := by omega
    refine .inr (.inr (.inl ⟨rfl, ?_⟩))
    simp [cutL, cutN, cutS, R4, V2, kpB, btB, pcx, crP, flo, h, n1, n4]
  · have n1 : ¬ x0 ≤ t := by omega
    have n2 : ¬ x1 ≤ t := by omega
    have n3 : ¬ x0 < t := by omega
    have n4 : ¬ x1 < t := by omega
    refine .inr (.inr (.inr ⟨h1, ?_⟩))
    simp [cutL, cutN, cutS, R4, kpB, btB, pcx, crP, flo, h1, n1, n2, n3, n4]
/-- .. between two lines: a rectangle, a step of one line, or nothing. -/
theorem xstage (x0 y0 x1 y1 l h u v : Int) (hx : x0 < x1) (hlh : l ≤ h) (hu : (l ≤ x0 ∧ u = x0) ∨ (x0 < l ∧ u = l)) (hv : (x1 ≤ h ∧ v = x1) ∨ (h < x1 ∧ v = h)) :
    (u < v ∧ cutL 0 h false (cutL 0 l true (R4 x0 y0 x1 y1)) = R4 u y0 v y1) ∨ (u = v ∧ cutL 0 h false (cutL 0 l true (R4 x0 y0 x1 y1)) = V2 u y0 y1) ∨ (v < u ∧ cutL 0 h false (cutL 0 l true (R4 x0 y0 x1 y1)) = []) := by
  rcases r4_lo x0 y0 x1 y1 l hx with ⟨h1, e1⟩ | ⟨h1, h2, e1⟩ | ⟨h1, e1⟩ | ⟨h1, e1⟩
  · have hu' : u = x0 := by omega
    rw [e1]
    rcases r4_hi x0 y0 x1 y1 h hx with ⟨g1, e2⟩ | ⟨g1, g2, e2⟩ | ⟨g1, e2⟩ | ⟨g1, e2⟩
    · exact .inl ⟨by omega, by rw [e2, show u = x0 by omega, show v = x1 by omega]⟩
    · exact .inl ⟨by omega, by rw [e2, show u = x0 by omega, show v = h by omega]⟩
    · exact .inr (.inl ⟨by omega, by rw [e2, show u = x0 by omega]⟩)
    · exact .inr (.inr ⟨by omega, e2⟩)
  · rw [e1]
    rcases r4_hi l y0 x1 y1 h h2 with ⟨g1, e2⟩ | ⟨g1, g2, e2⟩ | ⟨g1, e2⟩ | ⟨g1, e2⟩
    · exact .inl ⟨by omega, by rw [e2, show u = l by omega, show v = x1 by omega]⟩
    · exact .inl ⟨by omega, by rw [e2, show u = l by omega, show v = h by omega]⟩
    · exact .inr (.inl ⟨by omega, by rw [e2, show u = l by omega]⟩)
    · omega
  · rw [e1]
    have e2 : cutL 0 h false (V2 x1 y0 y1) = V2 x1 y0 y1 := cut_same fun p hp => by
      rw [kp_hi]
      simp [V2] at hp
      rcases hp with rfl | rfl <;> simp [pcx] <;> omega
    exact .inr (.inl ⟨by omega, by rw [e2, show u = x1 by omega]⟩)
  · rw [e1]
    exact .inr (.inr ⟨by omega, rfl⟩)
/-- Just the four corners of a box, all of them. -/
def Fin4 (u v a b : Int) (r : List (Int × Int)) : Prop := (∀ p ∈ r, (p.1 = u ∨ p.1 = v) ∧ (p.2 = a ∨ p.2 = b)) ∧ (u, a) ∈ r ∧ (v, b) ∈ r ∧ (u, b) ∈ r ∧ (v, a) ∈ r
theorem ystage (u v y0 y1 l h a b : Int) (huv : u < v) (hy : y0 < y1) (hlh : l ≤ h) (ha : (l ≤ y0 ∧ a = y0) ∨ (y0 < l ∧ a = l)) (hb : (y1 ≤ h ∧ b = y1) ∨ (h < y1 ∧ b = h)) :
    (a ≤ b → Fin4 u v a b (cutL 1 h false (cutL 1 l true (R4 u y0 v y1)))) ∧ (b < a → cutL 1 h false (cutL 1 l true (R4 u y0 v y1)) = []) := by
  rcases (show l ≤ y0 ∨ (y0 < l ∧ l < y1) ∨ l = y1 ∨ y1 < l by omega) with h1 | ⟨h1, h2⟩ | h1 | h1
  · have e1 : cutL 1 l true (R4 u y0 v y1) = R4 u y0 v y1 := cut_same fun p hp => by
      rw [kp_lo]
      simp [R4] at hp
      rcases hp with rfl | rfl | rfl | rfl <;> simp [pcx] <;> omega
    rw [e1, show a = y0 by omega]
    rcases (show y1 ≤ h ∨ (y0 < h ∧ h < y1) ∨ h = y0 ∨ h < y0 by omega) with g1 | ⟨g1, g2⟩ | g1 | g1
    · have e2 : cutL 1 h false (R4 u y0 v y1) = R4 u y0 v y1 := cut_same fun p hp => by
        rw [kp_hi]
        simp [R4] at hp
        rcases hp with rfl | rfl | rfl | rfl <;> simp [pcx] <;> omega
      rw [e2, show b = y1 by omega]
      exact ⟨fun _ => by simp [Fin4, R4], fun _ => by omega⟩
    · have n1 : y0 ≤ h := by omega
      have n2 : ¬ y1 ≤ h := by omega
      have n3 : ¬ h < y0 := by omega
      have n4 : ¬ y1 < h := by omega
      have e2 : cutL 1 h false (R4 u y0 v y1) = [(u, y0), (v, y0), (v, h), (u, h)] := by
        simp [cutL, cutN, cutS, R4, kpB, btB, pcx, crP, flo, g1, g2, n1, n2, n3, n4]
      rw [e2, show b = h by omega]
      exact ⟨fun _ => by simp [Fin4], fun _ => by omega⟩
    · subst g1
      have n1 : ¬ y1 ≤ h := by omega
      have n4 : ¬ y1 < h := by omega
      have e2 : cutL 1 h false (R4 u h v y1) = [(u, h), (v, h)] := by
        simp [cutL, cutN, cutS, R4, kpB, btB, pcx, crP, flo, hy, n1, n4]
      rw [e2, show b = h by omega]
      exact ⟨fun _ => by simp [Fin4], fun _ => by omega⟩
    · have n1 : ¬ y0 ≤ h := by omega
      have n2 : ¬ y1 ≤ h := by omega
      have n3 : ¬ y0 < h := by omega
      have n4 : ¬ y1 < h := by omega
      have e2 : cutL 1 h false (R4 u y0 v y1) = [] := by
        simp [cutL, cutN, cutS, R4, kpB, btB, pcx, crP, flo, g1, n1, n2, n3, n4]
      exact ⟨fun _ => by omega, fun _ => e2⟩
  · have m1 : ¬ l ≤ y0 := by omega
    have m2 : l ≤ y1 := by omega
    have m3 : ¬ l < y0 := by omega
    have m4 : ¬ y1 < l := by omega
    have e1 : cutL 1 l true (R4 u y0 v y1) = [(v, l), (v, y1), (u, y1), (u, l)] := by
      simp [cutL, cutN, cutS, R4, kpB, btB, pcx, crP, flo, h1, h2, m1, m2, m3, m4]
    rw [e1, show a = l by omega]
    rcases (show y1 ≤ h ∨ (l < h ∧ h < y1) ∨ h = l by omega) with g1 | ⟨g1, g2⟩ | g1
    · have e2 : cutL 1 h false [(v, l), (v, y1), (u, y1), (u, l)] = [(v, l), (v, y1), (u, y1), (u, l)] := cut_same fun p hp => by
        rw [kp_hi]
        simp at hp
        rcases hp with rfl | rfl | rfl | rfl <;> simp [pcx] <;> omega
      rw [e2, show b = y1 by omega]
      exact ⟨fun _ => by simp [Fin4], fun _ => by omega⟩
    · have n1 : l ≤ h := by omega
      have n2 : ¬ y1 ≤ h := by omega
      have n3 : ¬ h < l := by omega
      have n4 : ¬ y1 < h := by omega
      have e2 : cutL 1 h false [(v, l), (v, y1), (u, y1), (u, l)] = [(v, l), (v, h), (u, h), (u, l)] := by
        simp [cutL, cutN, cutS, kpB, btB, pcx, crP, flo, g1, g2, n1, n2, n3, n4]
      rw [e2, show b = h by omega]
      exact ⟨fun _ => by simp [Fin4], fun _ => by omega⟩
    · subst g1
      have n1 : ¬ y1 ≤ h := by omega
      have n4 : ¬ y1 < h := by omega
      have e2 : cutL 1 h false [(v, h), (v, y1), (u, y1), (u, h)] = [(v, h), (u, h)] := by
        simp [cutL, cutN, cutS, kpB, btB, pcx, crP, flo, h2, n1, n4]
      rw [e2, show b = h by omega]
      exact ⟨fun _ => by simp [Fin4], fun _ => by omega⟩
  · subst h1
    have m1 : ¬ l ≤ y0 := by omega
    have m3 : ¬ l < y0 := by omega
    have e1 : cutL 1 l true (R4 u y0 v l) = [(v, l), (u, l)] := by
      simp [cutL, cutN, cutS, R4, kpB, btB, pcx, crP, flo, hy, m1, m3]
    have e2 : cutL 1 h false [(v, l), (u, l)] = [(v, l), (u, l)] := cut_same fun p hp => by
      rw [kp_hi]
      simp at hp
      rcases hp with rfl | rfl <;> simp [pcx] <;> omega
    rw [e1, e2, show a = l by omega, show b = l by omega]
    exact ⟨fun _ => by simp [Fin4], fun _ => by omega⟩
  · have m1 : ¬ l ≤ y0 := by omega
    have m2 : ¬ l ≤ y1 := by omega
    have m3 : ¬ l < y0 := by omega
    have m4 : ¬ l < y1 := by omega
    have e1 : cutL 1 l true (R4 u y0 v y1) = [] := by
      simp [cutL, cutN, cutS, R4, kpB, btB, pcx, crP, flo, h1, m1, m2, m3, m4]
    rw [e1]
    exact ⟨fun _ => by omega, fun _ => rfl⟩
theorem vstage (x y0 y1 l h a b : Int) (hy : y0 < y1) (hlh : l ≤ h) (ha : (l ≤ y0 ∧ a = y0) ∨ (y0 < l ∧ a = l)) (hb : (y1 ≤ h ∧ b = y1) ∨ (h < y1 ∧ b = h)) :
    (a ≤ b → Fin4 x x a b (cutL 1 h false (cutL 1 l true (V2 x y0 y1)))) ∧ (b < a → cutL 1 h false (cutL 1 l true (V2 x y0 y1)) = []) := by
  rcases (show l ≤ y0 ∨ (y0 < l ∧ l < y1) ∨ l = y1 ∨ y1 < l by omega) with h1 | ⟨h1, h2⟩ | h1 | h1
  · have e1 : cutL 1 l true (V2 x y0 y1) = V2 x y0 y1 := cut_same fun p hp => by
      rw [kp_lo]
      simp [V2] at hp
      rcases hp with rfl | rfl <;> simp [pcx] <;> omega
    rw [e1, show a = y0 by omega]
    rcases (show y1 ≤ h ∨ (y0 < h ∧ h < y1) ∨ h = y0 ∨ h < y0 by omega) with g1 | ⟨g1, g2⟩ | g1 | g1
    · have e2 : cutL 1 h false (V2 x y0 y1) = V2 x y0 y1 := cut_same fun p hp => by
        rw [kp_hi]
        simp [V2] at hp
        rcases hp with rfl | rfl <;> simp [pcx] <;> omega
      rw [e2, show b = y1 by omega]
      exact ⟨fun _ => by simp [Fin4, V2], fun _ => by omega⟩
    · have n1 : y0 ≤ h := by omega
      have n2 : ¬ y1 ≤ h := by omega
      have n3 : ¬ h < y0 := by omega
      have n4 : ¬ y1 < h := by omega
      have e2 : cutL 1 h false (V2 x y0 y1) = [(x, y0), (x, h), (x, h)] := by
        simp [cutL, cutN, cutS, V2, kpB, btB, pcx, crP, flo, g1, g2, n1, n2, n3, n4]
      rw [e2, show b = h by omega]
      exact ⟨fun _ => by simp [Fin4], fun _ => by omega⟩
    · subst g1
      have n1 : ¬ y1 ≤ h := by omega
      have n4 : ¬ y1 < h := by omega
      have e2 : cutL 1 h false (V2 x h y1) = [(x, h)] := by
        simp [cutL, cutN, cutS, V2, kpB, btB, pcx, crP, flo, hy, n1, n4]
      rw [e2, show b = h by omega]
      exact ⟨fun _ => by simp [Fin4], fun _ => by omega⟩
    · have n1 : ¬ y0 ≤ h := by omega
      have n2 : ¬ y1 ≤ h := by omega
      have n3 : ¬ y0 < h := by omega
      have n4 : ¬ y1 < h := by omega
      have e2 : cutL 1 h false (V2 x y0 y1) = [] := by
        simp [cutL, cutN, cutS, V2, kpB, btB, pcx, crP, flo, g1, n1, n2, n3, n4]
      exact ⟨fun _ => by omega, fun _ => e2⟩
  · have m1 : ¬ l ≤ y0 := by omega
    have m2 : l ≤ y1 := by omega
    have m3 : ¬ l < y0 := by omega
    have m4 : ¬ y1 < l := by omega
    have e1 : cutL 1 l true (V2 x y0 y1) = [(x, l), (x, y1), (x, l)] := by
      simp [cutL, cutN, cutS, V2, kpB, btB, pcx, crP, flo, h1, h2, m1, m2, m3, m4]
    rw [e1, show a = l by omega]
    rcases (show y1 ≤ h ∨ (l < h ∧ h < y1) ∨ h = l by omega) with g1 | ⟨g1, g2⟩ | g1
    · have e2 : cutL 1 h false [(x, l), (x, y1), (x, l)] = [(x, l), (x, y1), (x, l)] := cut_same fun p hp => by
        rw [kp_hi]
        simp at hp
        rcases hp with rfl | rfl | rfl <;> simp [pcx] <;> omega
      rw [e2, show b = y1 by omega]
      exact ⟨fun _ => by simp [Fin4], fun _ => by omega⟩
    · have n1 : l ≤ h := by omega
      have n2 : ¬ y1 ≤ h := by omega
      have n3 : ¬ h < l := by omega
      have n4 : ¬ y1 < h := by omega
      have e2 : cutL 1 h false [(x, l), (x, y1), (x, l)] = [(x, l), (x, h), (x, h), (x, l)] := by
        simp [cutL, cutN, cutS, kpB, btB, pcx, crP, flo, g1, g2, n1, n2, n3, n4]
      rw [e2, show b = h by omega]
      exact ⟨fun _ => by simp [Fin4], fun _ => by omega⟩
    · subst g1
      have n1 : ¬ y1 ≤ h := by omega
      have n4 : ¬ y1 < h := by omega
      have e2 : cutL 1 h false [(x, h), (x, y1), (x, h)] = [(x, h), (x, h)] := by
        simp [cutL, cutN, cutS, kpB, btB, pcx, crP, flo, h2, n1, n4]
      rw [e2, show b = h by omega]
      exact ⟨fun _ => by simp [Fin4], fun _ => by omega⟩
  · subst h1
    have m1 : ¬ l ≤ y0 := by omega
    have m3 : ¬ l < y0 := by omega
    have e1 : cutL 1 l true (V2 x y0 l) = [(x, l)] := by
      simp [cutL, cutN, cutS, V2, kpB, btB, pcx, crP, flo, hy, m1, m3]
    have e2 : cutL 1 h false [(x, l)] = [(x, l)] := cut_same fun p hp => by
      rw [kp_hi]
      simp at hp
      rw [hp]
      exact hlh
    rw [e1, e2, show a = l by omega, show b = l by omega]
    exact ⟨fun _ => by simp [Fin4], fun _ => by omega⟩
  · have m1 : ¬ l ≤ y0 := by omega
    have m2 : ¬ l ≤ y1 := by omega
    have m3 : ¬ l < y0 := by omega
    have m4 : ¬ l < y1 := by omega
    have e1 : cutL 1 l true (V2 x y0 y1) = [] := by
      simp [cutL, cutN, cutS, V2, kpB, btB, pcx, crP, flo, h1, m1, m2, m3, m4]
    rw [e1]
    exact ⟨fun _ => by omega, fun _ => rfl⟩
/-- A box clipped to a box. -/
theorem box_box (x0 y0 x1 y1 lx ly hx hy u v a b : Int) (h1 : x0 < x1) (h2 : y0 < y1) (h3 : lx ≤ hx) (h4 : ly ≤ hy) (hu : (lx ≤ x0 ∧ u = x0) ∨ (x0 < lx ∧ u = lx)) (hv : (x1 ≤ hx ∧ v = x1) ∨ (hx < x1 ∧ v = hx))
    (ha : (ly ≤ y0 ∧ a = y0) ∨ (y0 < ly ∧ a = ly)) (hb : (y1 ≤ hy ∧ b = y1) ∨ (hy < y1 ∧ b = hy)) :
    (u ≤ v ∧ a ≤ b → Fin4 u v a b (boxL lx ly hx hy (R4 x0 y0 x1 y1))) ∧ (v < u ∨ b < a → boxL lx ly hx hy (R4 x0 y0 x1 y1) = []) := by
  have e : boxL lx ly hx hy (R4 x0 y0 x1 y1) = cutL 1 hy false (cutL 1 ly true (cutL 0 hx false (cutL 0 lx true (R4 x0 y0 x1 y1)))) := rfl
  rw [e]
  rcases xstage x0 y0 x1 y1 lx hx u v h1 h3 hu hv with ⟨g, e1⟩ | ⟨g, e1⟩ | ⟨g, e1⟩
  · rw [e1]
    obtain ⟨y1', y2'⟩ := ystage u v y0 y1 ly hy a b g h2 h4 ha hb
    exact ⟨fun h => y1' h.2, fun h => y2' (by omega)⟩
  · rw [e1, ← g]
    obtain ⟨y1', y2'⟩ := vstage u y0 y1 ly hy a b h2 h4 ha hb
    exact ⟨fun h => y1' h.2, fun h => y2' (by omega)⟩
  · rw [e1]
    exact ⟨fun h => by omega, fun _ => rfl⟩
end Go.Proofs.Ytnmehelejdbjaaa


/- Plain laws of what is cut of a ring. -/
import Derived.Test.YtnmehelejdbjaaaBox
namespace Go.Proofs.Ytnmehelejdbjaaa
open Go.RowKit
theorem bt_kp {ax t : Int} {ab : Bool} {p q : Int × Int} (h : btB ax t p q = true) : (kpB ax t ab p = true ∧ kpB ax t ab q = false) ∨ (kpB ax t ab p = false ∧ kpB ax t ab q = true) := by
  have hb := btB_true h
  unfold kpB
  cases ab
  · rcases hb with ⟨h1, h2⟩ | ⟨h1, h2⟩
    · exact .inl ⟨decide_eq_true (by omega), decide_eq_false (by omega)⟩
    · exact .inr ⟨decide_eq_false (by omega), decide_eq_true (by omega)⟩
  · rcases hb with ⟨h1, h2⟩ | ⟨h1, h2⟩
    · exact .inr ⟨decide_eq_false (by omega), decide_eq_true (by omega)⟩
    · exact .inl ⟨decide_eq_true (by omega), decide_eq_false (by omega)⟩
/-- A part of a step, divided downwards, lies within the step. -/
theorem flo_in (d s b : Int) (h : (0 < s ∧ s < b) ∨ (s < 0 ∧ b < s)) : (0 ≤ flo (d * s) b ∧ flo (d * s) b ≤ d) ∨ (d ≤ flo (d * s) b ∧ flo (d * s) b ≤ 0) := by
  have key : ∀ s b : Int, 0 < s → s < b → (0 ≤ (d * s) / b ∧ (d * s) / b ≤ d) ∨ (d ≤ (d * s) / b ∧ (d * s) / b ≤ 0) := by
    intro s b h1 h2
    rcases (show 0 ≤ d ∨ d < 0 by omega) with hd | hd
    · refine .inl ⟨Int.ediv_nonneg (Int.mul_nonneg hd (by omega)) (by omega), ?_⟩
      have h3 : d * s ≤ d * b := Int.mul_le_mul_of_nonneg_left (by omega) hd
      have h4 := Int.ediv_le_ediv (show 0 < b by omega) h3
      rw [Int.mul_ediv_cancel d (show b ≠ 0 by omega)] at h4
      exact h4
    · refine .inr ⟨?_, ?_⟩
      · rw [Int.le_ediv_iff_mul_le (show 0 < b by omega)]
        exact Int.mul_le_mul_of_nonpos_left (by omega) (by omega)
      · have h3 : d * s < 0 := Int.mul_neg_of_neg_of_pos hd h1
        have := Int.ediv_neg_of_neg_of_pos h3 (show 0 < b by omega)
        omega
  unfold flo
  rcases h with ⟨h1, h2⟩ | ⟨h1, h2⟩
  · rw [if_neg (by omega)]
    exact key s b h1 h2
  · rw [if_pos (by omega), show -(d * s) = d * (-s) by rw [Int.mul_neg]]
    exact key (-s) (-b) (by omega) (by omega)
/-- Where an edge crosses a line, it lies between its ends. -/
theorem cr_in {ax t : Int} {p q : Int × Int} (hax : ax = 0 ∨ ax = 1) (h : btB ax t p q = true) (lx hx ly hy : Int) (hp : lx ≤ p.1 ∧ p.1 ≤ hx ∧ ly ≤ p.2 ∧ p.2 ≤ hy) (hq : lx ≤ q.1 ∧ q.1 ≤ hx ∧ ly ≤ q.2 ∧ q.2 ≤ hy) :
    lx ≤ (crP ax t p q).1 ∧ (crP ax t p q).1 ≤ hx ∧ ly ≤ (crP ax t p q).2 ∧ (crP ax t p q).2 ≤ hy := by
  have hb := btB_true h
  obtain ⟨x, y⟩ := p
  obtain ⟨u, v⟩ := q
  rcases hax with rfl | rfl
  · have hb' : (x < t ∧ t < u) ∨ (u < t ∧ t < x) := hb
    have f := flo_in (v - y) (t - x) (u - x) (by omega)
    show lx ≤ t ∧ t ≤ hx ∧ ly ≤ y + flo ((v - y) * (t - x)) (u - x) ∧ y + flo ((v - y) * (t - x)) (u - x) ≤ hy
    generalize flo ((v - y) * (t - x)) (u - x) = n at *
    simp only at hp hq
    omega
  · have hb' : (y < t ∧ t < v) ∨ (v < t ∧ t < y) := hb
    have f := flo_in (u - x) (t - y) (v - y) (by omega)
    show lx ≤ x + flo ((u - x) * (t - y)) (v - y) ∧ x + flo ((u - x) * (t - y)) (v - y) ≤ hx ∧ ly ≤ t ∧ t ≤ hy
    generalize flo ((u - x) * (t - y)) (v - y) = n at *
    simp only at hp hq
    omega
theorem cr_on {ax t : Int} {ab : Bool} {p q : Int × Int} (hax : ax = 0 ∨ ax = 1) : pcx ax (crP ax t p q) = t ∧ kpB ax t ab (crP ax t p q) = true := by
  have e : pcx ax (crP ax t p q) = t := by rcases hax with rfl | rfl <;> rfl
  refine ⟨e, ?_⟩
  unfold kpB
  rw [e]
  cases ab <;> simp
theorem getD_mem (L : List (Int × Int)) (j : Nat) (hj : j < L.length) : L.getD j (0, 0) ∈ L := by
  have e : L.getD j (0, 0) = L[j] := by simp [List.getD, List.getElem?_eq_getElem hj]
  rw [e]
  exact List.getElem_mem hj
/-- What is cut comes of a corner that is kept, or of an edge that crosses. -/
theorem cut_mem {ax t : Int} {ab : Bool} {L : List (Int × Int)} {c : Int × Int} (h : c ∈ cutL ax t ab L) : (c ∈ L ∧ kpB ax t ab c = true) ∨ ∃ p q, p ∈ L ∧ q ∈ L ∧ btB ax t p q = true ∧ c = crP ax t p q := by
  have key : ∀ k, k ≤ L.length → c ∈ cutN ax t ab L k → (c ∈ L ∧ kpB ax t ab c = true) ∨ ∃ p q, p ∈ L ∧ q ∈ L ∧ btB ax t p q = true ∧ c = crP ax t p q := by
    intro k
    induction k with
    | zero => intro _ h; simp [cutN] at h
    | succ k ih =>
      intro hk h
      have hm : L.getD ((k + 1) % L.length) (0, 0) ∈ L := getD_mem L _ (Nat.mod_lt _ (by omega))
      have hp := getD_mem L k (by omega)
      unfold cutN cutS at h
      rw [List.mem_append, List.mem_append] at h
      rcases h with h | h | h
      · exact ih (by omega) h
      · split at h
        · rename_i hkp
          rw [List.mem_singleton] at h
          rw [h]
          exact .inl ⟨hp, hkp⟩
        · simp at h
      · split at h
        · rename_i hbt
          rw [List.mem_singleton] at h
          exact .inr ⟨_, _, hp, hm, hbt, h⟩
        · simp at h
  exact key _ (Nat.le_refl _) h
theorem cut_kp {ax t : Int} {ab : Bool} {L : List (Int × Int)} (hax : ax = 0 ∨ ax = 1) : ∀ c ∈ cutL ax t ab L, kpB ax t ab c = true := fun c hc => by
  rcases cut_mem hc with ⟨_, h⟩ | ⟨p, q, _, _, _, rfl⟩
  · exact h
  · exact (cr_on hax).2
def InBox (lx hx ly hy : Int) (L : List (Int × Int)) : Prop := ∀ p ∈ L, lx ≤ p.1 ∧ p.1 ≤ hx ∧ ly ≤ p.2 ∧ p.2 ≤ hy
theorem cut_box {ax t : Int} {ab : Bool} {L : List (Int × Int)} (hax : ax = 0 ∨ ax = 1) {lx hx ly hy : Int} (h : InBox lx hx ly hy L) : InBox lx hx ly hy (cutL ax t ab L) := fun c hc => by
  rcases cut_mem hc with ⟨h1, _⟩ | ⟨p, q, hp, hq, hb, rfl⟩
  · exact h c h1
  · exact cr_in hax hb lx hx ly hy (h p hp) (h q hq)
/-- What is kept whole is left as it is. -/
theorem cut_same {ax t : Int} {ab : Bool} {L : List (Int × Int)} (h : ∀ p ∈ L, kpB ax t ab p = true) : cutL ax t ab L = L := by
  have key : ∀ k, k ≤ L.length → cutN ax t ab L k = L.take k := by
    intro k
    induction k with
    | zero => intro _; rfl
    | succ k ih =>
      intro hk
      have hm : L.getD ((k + 1) % L.length) (0, 0) ∈ L := getD_mem L _ (Nat.mod_lt _ (by omega))
      have hp := getD_mem L k (by omega)
      have hb : btB ax t (L.getD k (0, 0)) (L.getD ((k + 1) % L.length) (0, 0)) = false := by
        rcases hbt : btB ax t (L.getD k (0, 0)) (L.getD ((k + 1) % L.length) (0, 0)) with _ | _
        · rfl
        · rcases bt_kp (ab := ab) hbt with ⟨_, h2⟩ | ⟨h2, _⟩
          · rw [h _ hm] at h2; cases h2
          · rw [h _ hp] at h2; cases h2
      unfold cutN cutS
      rw [ih (by omega), h _ hp, hb, List.take_add_one]
      have e : L.getD k (0, 0) = L[k] := by simp [List.getD, List.getElem?_eq_getElem (show k < L.length by omega)]
      rw [e]
      simp [List.getElem?_eq_getElem (show k < L.length by omega)]
  unfold cutL
  rw [key _ (Nat.le_refl _), List.take_length]
/-- A cut makes a ring no longer than by half. -/
theorem cut_len (ax t : Int) (ab : Bool) (L : List (Int × Int)) : 2 * (cutL ax t ab L).length ≤ 3 * L.length := by
  obtain ⟨b, hb⟩ : ∃ b : Int × Int → Nat, ∀ p, b p = if kpB ax t ab p then 1 else 0 := ⟨_, fun _ => rfl⟩
  have key : ∀ k, k ≤ L.length → 2 * (cutN ax t ab L k).length + b (L.getD (k % L.length) (0, 0)) ≤ 3 * k + b (L.getD 0 (0, 0)) := by
    intro k
    induction k with
    | zero => intro _; rw [Nat.zero_mod]; exact Nat.le_of_eq (by show 2 * 0 + _ = _; omega)
    | succ k ih =>
      intro hk
      have h1 := ih (by omega)
      rw [Nat.mod_eq_of_lt (show k < L.length by omega)] at h1
      show 2 * (cutN ax t ab L k ++ cutS ax t ab _ _).length + _ ≤ _
      rw [List.length_append]
      generalize L.getD ((k + 1) % L.length) (0, 0) = q at *
      generalize L.getD k (0, 0) = p at *
      have h2 : 2 * (cutS ax t ab p q).length + b q ≤ 3 + b p := by
        rw [hb, hb]
        unfold cutS
        rcases hbt : btB ax t p q with _ | _
        · rcases kpB ax t ab p with _ | _ <;> rcases kpB ax t ab q with _ | _ <;> simp
        · rcases bt_kp (ab := ab) hbt with ⟨e1, e2⟩ | ⟨e1, e2⟩ <;> rw [e1, e2] <;> simp
      omega
  have h := key _ (Nat.le_refl _)
  rcases Nat.eq_zero_or_pos L.length with h0 | h0
  · have : cutL ax t ab L = [] := by unfold cutL; rw [h0]; rfl
    rw [this]
    simp
  · rw [Nat.mod_self] at h
    unfold cutL
    omega
theorem small_cut {ax t : Int} {ab : Bool} {L : List (Int × Int)} (hax : ax = 0 ∨ ax = 1) (hl : 3 * L.length ≤ 201) (h : InBox (-536870912) 536870912 (-536870912) 536870912 L) : Small (cutL ax t ab L) :=
  ⟨by have := cut_len ax t ab L; omega, cut_box hax h⟩
/-- A box's cuts are small where the ring is. -/
theorem box_small (lx ly hx hy : Int) (L : List (Int × Int)) (hl : L.length ≤ 12) (h : InBox (-536870912) 536870912 (-536870912) 536870912 L) : (∀ k, k < 4 → Small (bxN lx ly hx hy L k)) ∧ Small (boxL lx ly hx hy L) := by
  have b1 := cut_box (ax := 0) (t := lx) (ab := true) (.inl rfl) h
  have b2 := cut_box (ax := 0) (t := hx) (ab := false) (.inl rfl) b1
  have b3 := cut_box (ax := 1) (t := ly) (ab := true) (.inr rfl) b2
  have b4 := cut_box (ax := 1) (t := hy) (ab := false) (.inr rfl) b3
  have l1 := cut_len 0 lx true L
  have l2 := cut_len 0 hx false (cutL 0 lx true L)
  have l3 := cut_len 1 ly true (cutL 0 hx false (cutL 0 lx true L))
  have l4 := cut_len 1 hy false (cutL 1 ly true (cutL 0 hx false (cutL 0 lx true L)))
  refine ⟨fun k hk => ?_, ⟨by show (cutL 1 hy false _).length ≤ 100; omega, b4⟩⟩
  rcases (show k = 0 ∨ k = 1 ∨ k = 2 ∨ k = 3 by omega) with rfl | rfl | rfl | rfl
  · exact ⟨by show L.length ≤ 100; omega, h⟩
  · exact ⟨by show (cutL 0 lx true L).length ≤ 100; omega, b1⟩
  · exact ⟨by show (cutL 0 hx false _).length ≤ 100; omega, b2⟩
  · exact ⟨by show (cutL 1 ly true _).length ≤ 100; omega, b3⟩
theorem kp_lo {ax t : Int} {p : Int × Int} : kpB ax t true p = true ↔ t ≤ pcx ax p := by unfold kpB; simp
theorem kp_hi {ax t : Int} {p : Int × Int} : kpB ax t false p = true ↔ pcx ax p ≤ t := by unfold kpB; simp
/-- What a box leaves lies in it. -/
theorem box_in (lx ly hx hy M : Int) (L : List (Int × Int)) (h : InBox (-M) M (-M) M L) : InBox lx hx ly hy (boxL lx ly hx hy L) := by
  have k1 := cut_kp (ax := 0) (t := lx) (ab := true) (L := L) (.inl rfl)
  have b1 : InBox lx M (-M) M (cutL 0 lx true L) := fun p hp => by
    have := cut_box (ax := 0) (t := lx) (ab := true) (.inl rfl) h p hp
    exact ⟨kp_lo.1 (k1 p hp), this.2.1, this.2.2.1, this.2.2.2⟩
  have k2 := cut_kp (ax := 0) (t := hx) (ab := false) (L := cutL 0 lx true L) (.inl rfl)
  have b2 : InBox lx hx (-M) M (cutL 0 hx false (cutL 0 lx true L)) := fun p hp => by
    have := cut_box (ax := 0) (t := hx) (ab := false) (.inl rfl) b1 p hp
    exact ⟨this.1, kp_hi.1 (k2 p hp), this.2.2.1, this.2.2.2⟩
  have k3 := cut_kp (ax := 1) (t := ly) (ab := true) (L := cutL 0 hx false (cutL 0 lx true L)) (.inr rfl)
  have b3 : InBox lx hx ly M (cutL 1 ly true (cutL 0 hx false (cutL 0 lx true L))) := fun p hp => by
    have := cut_box (ax := 1) (t := ly) (ab := true) (.inr rfl) b2 p hp
    exact ⟨this.1, this.2.1, kp_lo.1 (k3 p hp), this.2.2.2⟩
  have k4 := cut_kp (ax := 1) (t := hy) (ab := false) (L := cutL 1 ly true (cutL 0 hx false (cutL 0 lx true L))) (.inr rfl)
  exact fun p hp => by
    have := cut_box (ax := 1) (t := hy) (ab := false) (.inr rfl) b3 p hp
    exact ⟨this.1, this.2.1, this.2.2.1, kp_hi.1 (k4 p hp)⟩
/-- What lies in a box is left as it is. -/
theorem box_same (lx ly hx hy : Int) (L : List (Int × Int)) (h : InBox lx hx ly hy L) : (∀ k, bxN lx ly hx hy L k = L) := by
  have c1 : cutL 0 lx true L = L := cut_same fun p hp => kp_lo.2 (h p hp).1
  have c2 : cutL 0 hx false L = L := cut_same fun p hp => kp_hi.2 (h p hp).2.1
  have c3 : cutL 1 ly true L = L := cut_same fun p hp => kp_lo.2 (h p hp).2.2.1
  have c4 : cutL 1 hy false L = L := cut_same fun p hp => kp_hi.2 (h p hp).2.2.2
  intro k
  match k with
  | 0 => rfl
  | 1 => exact c1
  | 2 => show cutL 0 hx false (cutL 0 lx true L) = L; rw [c1, c2]
  | 3 => show cutL 1 ly true (cutL 0 hx false (cutL 0 lx true L)) = L; rw [c1, c2, c3]
  | k + 4 => show cutL 1 hy false (cutL 1 ly true (cutL 0 hx false (cutL 0 lx true L))) = L; rw [c1, c2, c3, c4]
end Go.Proofs.Ytnmehelejdbjaaa

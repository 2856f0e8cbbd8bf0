
/- What the frames of the statements over rings and points use: a slice of pairs of numbers, opened; a pair, opened and shut. -/
import Derived.Test.YtnmehelejdbjaaaRowI
import Derived.Test.YtnmehelejdbjaaaRowA
import Derived.Test.YtnmehelejdbjaaaRing
import Derived.Deep.Slices
namespace Go.Proofs.Ytnmehelejdbjaaa
open Go.RowKit Go.WideShapes Go.ChangeShapes Go.Joins
section
variable {H : Type} {enc : TypeId × Value → H} {P : Program} {w : World} {base : Nat} {spare : Nat → Bool} {held : Bool}
theorem list2 {α : Type} {l : List α} (h : l.length = 2) : ∃ a b, l = [a, b] := by
  match l, h with
  | [a, b], _ => exact ⟨a, b, rfl⟩
theorem open_pair {t e : TypeId} {fuel : Nat} {cs : List Value} {x : DataW H × List MemPlace} (hs : P.underlying t = some (.array 2 e)) (hC : P.cellsOf t = 2) (hc : P.cellsOf e = 1) (he : P.underlying e = some (.int .i64))
    (hf : DataW.trod enc P w base spare held fuel t cs = some x) :
    ∃ a b : Int, cs = [.int .i64 a, .int .i64 b] ∧ x = (.agg [.lit (.int .i64 a), .lit (.int .i64 b)], []) ∧ (Lit.int .i64 a).wf = true ∧ (Lit.int .i64 b).wf = true := by
  obtain ⟨xs, m, _, hx, hl, hn, hg⟩ := DataW.trod_array hs hf
  rw [hC] at hl
  obtain ⟨c0, c1, rfl⟩ := list2 hl
  match xs, hn with
  | [y0, y1], _ =>
    have g0 := hg 0 (by decide)
    have g1 := hg 1 (by decide)
    simp [hc] at g0 g1
    obtain ⟨a, ea, rfl, wa⟩ := DataW.trod_int he g0
    obtain ⟨b, eb, rfl, wb⟩ := DataW.trod_int he g1
    simp at ea eb
    subst ea eb
    simp at hx
    exact ⟨a, b, rfl, hx, wa, wb⟩
theorem open_arr2 {r : Reach} {b0 : Nat} {t e : TypeId} {v : Value} {d : DataW H} {p : List MemPlace} (hs : P.underlying t = some (.array 2 e)) (hC : P.cellsOf t = 2) (hc : P.cellsOf e = 1) (he : P.underlying e = some (.int .i64))
    (hv : Value.okWide P w r b0 t v) (h : DataW.Trod enc P w base spare held t v d p) :
    ∃ a b : Int, v = .agg #[.int .i64 a, .int .i64 b] ∧ d = .agg [.lit (.int .i64 a), .lit (.int .i64 b)] ∧ p = [] ∧ (Lit.int .i64 a).wf = true ∧ (Lit.int .i64 b).wf = true := by
  simp only [Value.okWide, hs] at hv
  obtain ⟨cs, rfl, _⟩ := hv
  obtain ⟨fuel, hf⟩ := h
  obtain ⟨a, b, hcs, hx, wa, wb⟩ := open_pair hs hC hc he hf
  have : cs = #[.int .i64 a, .int .i64 b] := by
    apply Array.ext'
    simpa [Value.cells] using hcs
  subst this
  cases hx
  exact ⟨a, b, rfl, rfl, rfl, wa, wb⟩
theorem shut_arr2 {t e : TypeId} {a b : Int} (hs : P.underlying t = some (.array 2 e)) (hC : P.cellsOf t = 2) (hc : P.cellsOf e = 1) (he : P.underlying e = some (.int .i64))
    (wa : (Lit.int .i64 a).wf = true) (wb : (Lit.int .i64 b).wf = true) :
    DataW.Trod enc P w base spare held t (.agg #[.int .i64 a, .int .i64 b]) (.agg [.lit (.int .i64 a), .lit (.int .i64 b)]) [] := by
  refine ⟨2, ?_⟩
  simp [DataW.trod, hs, he, Value.cells, hC, hc, List.range_succ, wa, wb]
theorem open_ringF {r : Reach} {b0 : Nat} {t e i : TypeId} {v : Value} {d : DataW H} {p : List MemPlace} (ht : P.underlying t = some (.slice e)) (hs : P.underlying e = some (.array 2 i)) (hC : P.cellsOf e = 2) (hc : P.cellsOf i = 1) (he : P.underlying i = some (.int .i64))
    (hv : Value.okWide P w r b0 t v) (h : DataW.Trod enc P w base spare held t v d p) :
    ∃ (X : Option Addr) (cap : Nat) (L : List (Int × Int)), v = .slice X L.length cap ∧ L.length ≤ cap ∧ RingAt w X L := by
  obtain ⟨X, n, cap, rfl⟩ := okWide_slice ht hv
  obtain ⟨fuel, hf⟩ := h
  rcases Go.Deep.open_slice ht hf with ⟨hcs, _⟩ | ⟨a, len, cap', m, k, D, Pl, hcs, _, hl, hm, hmm, _, hx⟩
  · simp [Value.cells] at hcs
    obtain ⟨rfl, rfl, rfl⟩ := hcs
    exact ⟨none, 0, [], rfl, Nat.le_refl _, fun j hj => by simp at hj⟩
  · simp [Value.cells] at hcs
    obtain ⟨rfl, rfl, rfl⟩ := hcs
    have hlm : n ≤ m := by rw [hmm]; split <;> omega
    obtain ⟨f, hfx⟩ := Go.Deep.choose_lt (α := Int × Int) (n := m) (p := fun j (q : Int × Int) => w.cell? (a.add (j * 2)) = some (.int .i64 q.1) ∧ w.cell? (a.add (j * 2 + 1)) = some (.int .i64 q.2)) (fun j hj => by
      obtain ⟨cs', h1, h2⟩ := hx j hj
      rw [hC] at h1
      obtain ⟨x, y, rfl, _, _, _⟩ := open_pair hs hC hc he h2
      obtain ⟨_, _, hcell⟩ := World.cells?_some h1
      have g0 := hcell 0 (by decide)
      have g1 := hcell 1 (by decide)
      rw [Go.Deep.add_add] at g0 g1
      exact ⟨(x, y), by simpa using g0, by simpa using g1⟩)
    have hlen : ((List.range n).map f).length = n := by simp
    refine ⟨some a, cap, (List.range n).map f, by rw [hlen], by rw [hlen]; exact hl, fun j hj => ?_⟩
    rw [hlen] at hj
    have hget : ((List.range n).map f).getD j (0, 0) = f j := by
      rw [List.getD_eq_getElem?_getD, List.getElem?_map, List.getElem?_range hj]
      rfl
    rw [hget]
    have hsp : a.spot = none := by
      have h0 := (hfx 0 (by omega)).1
      rw [Nat.zero_mul, show a.add 0 = a by simp [Addr.add]] at h0
      simp only [World.cell?] at h0
      split at h0
      · split at h0
        · cases h0
        · rename_i hns
          simpa using hns
      · cases h0
    obtain ⟨h1, h2⟩ := hfx j (by omega)
    obtain ⟨g, o, s⟩ := a
    simp only at hsp
    subst hsp
    refine ⟨g, o, rfl, ?_, ?_⟩
    · rcases Nat.eq_zero_or_pos j with e0 | e0
      · subst e0
        simpa [Addr.add] using h1
      · have hne : ¬ j * 2 = 0 := by omega
        simpa [Addr.add, hne] using h1
    · have hne : ¬ j * 2 + 1 = 0 := by omega
      simpa [Addr.add, hne, Nat.add_assoc] using h2
end
end Go.Proofs.Ytnmehelejdbjaaa

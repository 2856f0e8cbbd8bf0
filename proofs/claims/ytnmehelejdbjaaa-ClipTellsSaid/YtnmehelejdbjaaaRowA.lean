
/- What the frames of the statements over arrays of four numbers use: such an array, opened and shut. -/
import Derived.Test.YtnmehelejdbjaaaRow
namespace Go.Proofs.Ytnmehelejdbjaaa
open Go.RowKit Go.WideShapes Go.ChangeShapes Go.Joins
section
variable {H : Type} {enc : TypeId × Value → H} {P : Program} {w : World} {base : Nat} {spare : Nat → Bool} {held : Bool}
theorem open_arr4 {t e : TypeId} {cs : Array Value} {d : DataW H} {p : List MemPlace} (hs : P.underlying t = some (.array 4 e)) (hC : P.cellsOf t = 4) (hc : P.cellsOf e = 1) (he : P.underlying e = some (.int .i64))
    (h : DataW.Trod enc P w base spare held t (.agg cs) d p) :
    ∃ a b c x : Int, cs = #[.int .i64 a, .int .i64 b, .int .i64 c, .int .i64 x] ∧ d = .agg [.lit (.int .i64 a), .lit (.int .i64 b), .lit (.int .i64 c), .lit (.int .i64 x)] ∧ p = [] ∧
      (Lit.int .i64 a).wf = true ∧ (Lit.int .i64 b).wf = true ∧ (Lit.int .i64 c).wf = true ∧ (Lit.int .i64 x).wf = true := by
  obtain ⟨fuel, hf⟩ := h
  obtain ⟨xs, m, _, hx, hl, hn, hg⟩ := DataW.trod_array hs hf
  have hsz : cs.size = 4 := by
    have : (Value.agg cs).cells.toList.length = 4 := hl.trans hC
    simpa [Value.cells] using this
  obtain ⟨c0, c1, c2, c3, rfl⟩ := array4 hsz
  match xs, hn with
  | [y0, y1, y2, y3], _ =>
    have g0 := hg 0 (by decide)
    have g1 := hg 1 (by decide)
    have g2 := hg 2 (by decide)
    have g3 := hg 3 (by decide)
    simp [Value.cells, hc] at g0 g1 g2 g3
    obtain ⟨a, ea, rfl, wa⟩ := DataW.trod_int he g0
    obtain ⟨b, eb, rfl, wb⟩ := DataW.trod_int he g1
    obtain ⟨c, ec, rfl, wc⟩ := DataW.trod_int he g2
    obtain ⟨x, ex, rfl, wx⟩ := DataW.trod_int he g3
    simp at ea eb ec ex
    subst ea eb ec ex
    simp at hx
    exact ⟨a, b, c, x, rfl, hx.1, hx.2, wa, wb, wc, wx⟩
theorem open_arr {r : Reach} {b0 : Nat} {t e : TypeId} {v : Value} {d : DataW H} {p : List MemPlace} (hs : P.underlying t = some (.array 4 e)) (hC : P.cellsOf t = 4) (hc : P.cellsOf e = 1) (he : P.underlying e = some (.int .i64))
    (hv : Value.okWide P w r b0 t v) (h : DataW.Trod enc P w base spare held t v d p) :
    ∃ a b c x : Int, v = .agg #[.int .i64 a, .int .i64 b, .int .i64 c, .int .i64 x] ∧ d = .agg [.lit (.int .i64 a), .lit (.int .i64 b), .lit (.int .i64 c), .lit (.int .i64 x)] ∧ p = [] ∧
      (Lit.int .i64 a).wf = true ∧ (Lit.int .i64 b).wf = true ∧ (Lit.int .i64 c).wf = true ∧ (Lit.int .i64 x).wf = true := by
  simp only [Value.okWide, hs] at hv
  obtain ⟨cs, rfl, _⟩ := hv
  obtain ⟨a, b, c, x, rfl, r⟩ := open_arr4 hs hC hc he h
  exact ⟨a, b, c, x, rfl, r⟩
theorem shut_arr4 {t e : TypeId} {a b c x : Int} (hs : P.underlying t = some (.array 4 e)) (hC : P.cellsOf t = 4) (hc : P.cellsOf e = 1) (he : P.underlying e = some (.int .i64))
    (wa : (Lit.int .i64 a).wf = true) (wb : (Lit.int .i64 b).wf = true) (wc : (Lit.int .i64 c).wf = true) (wx : (Lit.int .i64 x).wf = true) :
    DataW.Trod enc P w base spare held t (.agg #[.int .i64 a, .int .i64 b, .int .i64 c, .int .i64 x]) (.agg [.lit (.int .i64 a), .lit (.int .i64 b), .lit (.int .i64 c), .lit (.int .i64 x)]) [] := by
  refine ⟨2, ?_⟩
  simp [DataW.trod, hs, he, Value.cells, hC, hc, List.range_succ, wa, wb, wc, wx]
end
end Go.Proofs.Ytnmehelejdbjaaa

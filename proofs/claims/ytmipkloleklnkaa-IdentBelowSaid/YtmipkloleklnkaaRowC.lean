
/- What the frames of the statements over cells use: a struct of an int and a struct of two int64s, opened and shut. -/
import Derived.Test.YtmipkloleklnkaaRow
namespace Go.Proofs.Ytmipkloleklnkaa
open Go.RowKit Go.WideShapes Go.ChangeShapes Go.Joins

section
variable {H : Type} {enc : TypeId × Value → H} {P : Program} {w : World} {base : Nat} {spare : Nat → Bool} {held : Bool}
theorem open_cell {r : Reach} {b0 : Nat} {t : TypeId} {f0 f1 g0 g1 : Field} {v : Value} {d : DataW H} {p : List MemPlace} (hs : P.underlying t = some (.struct #[f0, f1])) (hC : P.cellsOf t = 3)
    (o0 : f0.offset = 0) (k0 : P.cellsOf f0.type = 1) (u0 : P.underlying f0.type = some (.int .i64))
    (o1 : f1.offset = 1) (k1 : P.cellsOf f1.type = 2) (u1 : P.underlying f1.type = some (.struct #[g0, g1]))
    (q0 : g0.offset = 0) (l0 : P.cellsOf g0.type = 1) (x0 : P.underlying g0.type = some (.int .i64))
    (q1 : g1.offset = 1) (l1 : P.cellsOf g1.type = 1) (x1 : P.underlying g1.type = some (.int .i64))
    (hv : Value.okWide P w r b0 t v) (h : DataW.Trod enc P w base spare held t v d p) :
    ∃ a b c : Int, v = .agg #[.int .i64 a, .int .i64 b, .int .i64 c] ∧ d = .agg [.lit (.int .i64 a), .agg [.lit (.int .i64 b), .lit (.int .i64 c)]] ∧ p = [] ∧
      (Lit.int .i64 a).wf = true ∧ (Lit.int .i64 b).wf = true ∧ (Lit.int .i64 c).wf = true := by
  obtain ⟨cs, rfl, hsz⟩ := okWide_struct hs hv
  obtain ⟨c0, c1, c2, rfl⟩ := array3 (hsz.trans hC)
  obtain ⟨fuel, hf⟩ := h
  obtain ⟨y0, y1, n, hx, _, h0, h1⟩ := trod_struct2 hs hf
  simp only [Prod.mk.injEq] at hx
  have h0' : DataW.trod enc P w base spare held n f0.type [c0] = some y0 := by simpa [Value.cells, o0, k0] using h0
  have h1' : DataW.trod enc P w base spare held n f1.type [c1, c2] = some y1 := by simpa [Value.cells, o1, k1] using h1
  obtain ⟨a, ea, rfl, wa⟩ := DataW.trod_int u0 h0'
  obtain ⟨z0, z1, m, rfl, _, i0, i1⟩ := trod_struct2 u1 h1'
  have i0' : DataW.trod enc P w base spare held m g0.type [c1] = some z0 := by simpa [q0, l0] using i0
  have i1' : DataW.trod enc P w base spare held m g1.type [c2] = some z1 := by simpa [q1, l1] using i1
  obtain ⟨b, eb, rfl, wb⟩ := DataW.trod_int x0 i0'
  obtain ⟨c, ec, rfl, wc⟩ := DataW.trod_int x1 i1'
  simp at ea eb ec
  subst ea eb ec
  exact ⟨a, b, c, rfl, by simpa using hx.1, by simpa using hx.2, wa, wb, wc⟩
theorem shut_cell {t : TypeId} {f0 f1 g0 g1 : Field} {a b c : Int} (hs : P.underlying t = some (.struct #[f0, f1])) (hC : P.cellsOf t = 3)
    (o0 : f0.offset = 0) (k0 : P.cellsOf f0.type = 1) (u0 : P.underlying f0.type = some (.int .i64))
    (o1 : f1.offset = 1) (k1 : P.cellsOf f1.type = 2) (u1 : P.underlying f1.type = some (.struct #[g0, g1]))
    (q0 : g0.offset = 0) (l0 : P.cellsOf g0.type = 1) (x0 : P.underlying g0.type = some (.int .i64))
    (q1 : g1.offset = 1) (l1 : P.cellsOf g1.type = 1) (x1 : P.underlying g1.type = some (.int .i64))
    (wa : (Lit.int .i64 a).wf = true) (wb : (Lit.int .i64 b).wf = true) (wc : (Lit.int .i64 c).wf = true) :
    DataW.Trod enc P w base spare held t (.agg #[.int .i64 a, .int .i64 b, .int .i64 c]) (.agg [.lit (.int .i64 a), .agg [.lit (.int .i64 b), .lit (.int .i64 c)]]) [] := by
  have i := trod_struct2_mk (enc := enc) (w := w) (base := base) (spare := spare) (held := held) (n := 1) (cs := [.int .i64 b, .int .i64 c]) (y0 := (.lit (.int .i64 b), [])) (y1 := (.lit (.int .i64 c), [])) u1 (by simp [k1])
    (by simpa [q0, l0] using trod_int_mk 0 x0 wb) (by simpa [q1, l1] using trod_int_mk 0 x1 wc)
  have ts := trod_struct2_mk (enc := enc) (w := w) (base := base) (spare := spare) (held := held) (n := 2) (cs := [.int .i64 a, .int .i64 b, .int .i64 c]) (y0 := (.lit (.int .i64 a), [])) hs (by simp [hC])
    (by simpa [o0, k0] using trod_int_mk 1 u0 wa) (by simpa [o1, k1] using i)
  exact ⟨3, by simpa [Value.cells] using ts⟩
end
end Go.Proofs.Ytmipkloleklnkaa

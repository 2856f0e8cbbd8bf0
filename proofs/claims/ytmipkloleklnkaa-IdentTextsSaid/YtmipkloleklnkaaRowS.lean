/- What the frames of the statements over strings use: a string, opened and shut. -/
import Derived.Test.YtmipkloleklnkaaRow
namespace Go.Proofs.Ytmipkloleklnkaa
open Go.RowKit Go.WideShapes Go.ChangeShapes Go.Joins

section
variable {H : Type} {enc : TypeId × Value → H} {P : Program} {w : World} {base : Nat} {spare : Nat → Bool} {held : Bool}
theorem open_str {r : Reach} {b0 : Nat} {t : TypeId} {v : Value} {d : DataW H} {p : List MemPlace} (ht : P.underlying t = some .string) (hv : Value.okWide P w r b0 t v) (h : DataW.Trod enc P w base spare held t v d p) :
    ∃ s : ByteArray, v = .string s ∧ d = .lit (.string s.data.toList) ∧ p = [] ∧ s.size ≤ 9223372036854775807 := by
  obtain ⟨s, rfl⟩ := okWide_string ht hv
  obtain ⟨fuel, hf⟩ := h
  obtain ⟨s', h1, h2, h3⟩ := DataW.trod_string ht hf
  simp [Value.cells] at h1
  subst h1
  simp only [Prod.mk.injEq] at h2
  exact ⟨s, rfl, h2.1, h2.2, h3⟩
theorem shut_str {t : TypeId} {s : ByteArray} (ht : P.underlying t = some .string) (hs : s.size ≤ 9223372036854775807) : DataW.Trod enc P w base spare held t (.string s) (.lit (.string s.data.toList)) [] :=
  ⟨1, by
    have h' : s.size ≤ maxLen := hs
    simp [DataW.trod, Value.cells, ht, h']⟩
end
end Go.Proofs.Ytmipkloleklnkaa

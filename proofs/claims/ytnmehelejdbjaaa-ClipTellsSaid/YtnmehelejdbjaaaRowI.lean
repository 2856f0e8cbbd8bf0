
/- What the frames of the statements over slices of numbers use: such a slice, opened; what it is behind a call that leaves old memory as it was. -/
import Derived.Test.YtnmehelejdbjaaaRow
import Derived.Carry
import Derived.ChangeSlices
namespace Go.Proofs.Ytnmehelejdbjaaa
open Go.RowKit Go.WideShapes Go.ChangeShapes Go.Joins
/-- A slice of numbers, as it is read. -/
def IntsAt (w : World) (X : Option Addr) (n : Nat) (Z : Nat → Int) : Prop := ∀ j, j < n → ∃ g o, X = some ⟨g, o, none⟩ ∧ w.cell? ⟨g, o + j, none⟩ = some (.int .i64 (Z j))
theorem IntsAt.bl {w w' : World} {X : Option Addr} {n : Nat} {Z : Nat → Int} (h : IntsAt w X n Z) (hb : Below w.heap.size w w') : IntsAt w' X n Z := fun j hj => by
  obtain ⟨g, o, e, h1⟩ := h j hj
  exact ⟨g, o, e, bl_hold hb h1⟩
theorem lidB : laidOutB Try.prog = true := by kernel_rfl
section
variable {H : Type} {enc : TypeId × Value → H} {P : Program} {w : World} {base : Nat} {spare : Nat → Bool} {held : Bool}
theorem open_intsF {r : Reach} {b0 : Nat} {t e : TypeId} {v : Value} {d : DataW H} {p : List MemPlace} (ht : P.underlying t = some (.slice e)) (he : P.underlying e = some (.int .i64)) (hc : P.cellsOf e = 1)
    (hv : Value.okWide P w r b0 t v) (h : DataW.Trod enc P w base spare held t v d p) :
    ∃ (X : Option Addr) (n cap : Nat) (Z : Nat → Int), v = .slice X n cap ∧ n ≤ 9223372036854775807 ∧ IntsAt w X n Z ∧ ∀ j, j < n → -9223372036854775808 ≤ Z j ∧ Z j ≤ 9223372036854775807 := by
  obtain ⟨X, n, cap, rfl⟩ := okWide_slice ht hv
  obtain ⟨fuel, hf⟩ := h
  rcases open_ints ht he hc hf with ⟨hcs, _⟩ | ⟨a, len, cap', zs, hcs, _, hl, hm, hz, _, hcell, hwf⟩
  · simp [Value.cells] at hcs
    obtain ⟨rfl, rfl, rfl⟩ := hcs
    exact ⟨none, 0, 0, fun _ => 0, rfl, by omega, fun j hj => by omega, fun j hj => by omega⟩
  · simp [Value.cells] at hcs
    obtain ⟨rfl, rfl, rfl⟩ := hcs
    have hlen : n ≤ zs.length := by rw [hz]; split <;> omega
    refine ⟨some a, n, cap, fun j => zs.getD j 0, rfl, by unfold maxLen at hm; omega, fun j hj => ?_, fun j hj => ?_⟩
    · have h0 := hcell 0 (by omega)
      have hs : a.spot = none := by
        have e0 : a.add 0 = a := by simp [Addr.add]
        rw [e0] at h0
        simp only [World.cell?] at h0
        split at h0
        · split at h0
          · cases h0
          · rename_i hns
            simpa using hns
        · cases h0
      have hj' := hcell j (by omega)
      obtain ⟨g, o, s⟩ := a
      simp only at hs
      subst hs
      refine ⟨g, o, rfl, ?_⟩
      rcases Nat.eq_zero_or_pos j with e | e
      · subst e
        simpa [Addr.add] using hj'
      · have hne : ¬ j = 0 := by omega
        simpa [Addr.add, hne] using hj'
    · have hm' := hwf (zs.getD j 0) (by
        have hjz : j < zs.length := by omega
        rw [show zs.getD j 0 = zs[j] by simp [List.getD, List.getElem?_eq_getElem hjz]]
        exact List.getElem_mem hjz)
      exact wf_i64 hm'
end
end Go.Proofs.Ytnmehelejdbjaaa

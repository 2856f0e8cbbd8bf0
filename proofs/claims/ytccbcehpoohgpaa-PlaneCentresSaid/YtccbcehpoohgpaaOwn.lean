/- Slices that a call owns, in worlds that have grown: they last where nothing below the heap's end turns; an append to one turns nothing older. -/
import Derived.Test.YtccbcehpoohgpaaCorner
import Derived.Test.YtccbcehpoohgpaaStraight
import Derived.Laws.AppendOwn
namespace Go.Proofs.Ytccbcehpoohgpaa
open Go.RowKit
theorem bl_to_grown {w w' : World} (hb : Below w.heap.size w w') (row : Option Nat) : w.grownBy w' row := ⟨hb.os, hb.tape, hb.output, hb.size, fun k hk _ => hb.block k hk⟩
theorem own_bl {w w' : World} {base size n : Nat} {e : TypeId} {v : Value} {xs : List Value} (h : w.ownsRow base e size v n xs) (hb : Below w.heap.size w w') : w'.ownsRow base e size v n xs :=
  h.kept (bl_to_grown hb none) (by cases hv : v.ownBlock <;> simp)
theorem bl_grown {V w w2 : World} {base size n : Nat} {e : TypeId} {v : Value} {xs : List Value} (hown : w.ownsRow base e size v n xs) (hB : V.heap.size ≤ base) (hg : w.grownBy w2 v.ownBlock) (h : Below V.heap.size V w) : Below V.heap.size V w2 :=
  h.grown hg h.size (fun k hk => Nat.le_trans hB (hown.lt k hk).1)
theorem own_mono {w : World} {base base' size n : Nat} {e : TypeId} {v : Value} {xs : List Value} (h : w.ownsRow base e size v n xs) (hb : base' ≤ base) : w.ownsRow base' e size v n xs := by
  obtain ⟨h1, h2⟩ := h
  refine ⟨h1, ?_⟩
  rcases h2 with h2 | ⟨g, cap, cur, hv, hg, r⟩
  · exact .inl h2
  · exact .inr ⟨g, cap, cur, hv, Nat.le_trans hb hg, r⟩
/-- A pair that was laid for an append, as the law on append asks it. -/
theorem news2 (w : World) (x y : Value) (e : TypeId) : ∀ j u, [x, y][j]? = some u → (w.alloc (.cells #[x, y] e)).cell? ((⟨w.heap.size, 0, none⟩ : Addr).add j) = some u := by
  intro j u hj
  match j, hj with
  | 0, hj => simp at hj; subst hj; simp [go_sem, Addr.add]
  | 1, hj => simp at hj; subst hj; simp [go_sem, Addr.add]
theorem ones2 (x y : Int) (k l : IntKind) : ∀ u ∈ [Value.int k x, Value.int l y], u.oneCell' = true := by
  intro u hu
  simp at hu
  rcases hu with rfl | rfl <;> rfl
end Go.Proofs.Ytccbcehpoohgpaa

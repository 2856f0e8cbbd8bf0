
/- Rings: lists of points in a slice's cells; slices that a call owns, in worlds that have grown. -/
import Derived.Test.YtnmehelejdbjaaaNum
import Derived.Test.YtnmehelejdbjaaaTail
import Derived.Test.YtnmehelejdbjaaaEqA
import Derived.Laws.AppendOwn
import Derived.OwnWalk
import Derived.BigRegion
import Derived.Deep.LoopGhost
import Derived.Lib.Hide
namespace Go.Proofs.Ytnmehelejdbjaaa
open Go.RowKit
theorem bw_of {V W : World} (h : Below V.heap.size V W) : ∃ g : Bw V, g.out = W := ⟨⟨W, h⟩, rfl⟩
theorem bl_to_grown {w w' : World} (hb : Below w.heap.size w w') (row : Option Nat) : w.grownBy w' row := ⟨hb.os, hb.tape, hb.output, hb.size, fun k hk _ => hb.block k hk⟩
theorem own_bl {w w' : World} {base size n : Nat} {e : TypeId} {v : Value} {xs : List Value} (h : w.ownsRow base e size v n xs) (hb : Below w.heap.size w w') : w'.ownsRow base e size v n xs :=
  h.kept (bl_to_grown hb none) (by cases hv : v.ownBlock <;> simp)
theorem bl_grown {V w w2 : World} {base size n : Nat} {e : TypeId} {v : Value} {xs : List Value} (hown : w.ownsRow base e size v n xs) (hB : V.heap.size ≤ base) (hg : w.grownBy w2 v.ownBlock) (h : Below V.heap.size V w) : Below V.heap.size V w2 :=
  h.grown hg h.size (fun k hk => Nat.le_trans hB (hown.lt k hk).1)
theorem own_mono {w : World} {base base' size n : Nat} {e : TypeId} {v : Value} {xs : List Value} (h : w.ownsRow base e size v n xs) (hb : base' ≤ base) : w.ownsRow base' e size v n xs := by
  obtain ⟨h1, h2⟩ := h
  refine ⟨h1, ?_⟩
  rcases h2 with h2 | ⟨g, cap, cur, hv, hg, r⟩
  · exact .inl h2
  · exact .inr ⟨g, cap, cur, hv, Nat.le_trans hb hg, r⟩
theorem news2 (w : World) (x y : Value) (e : TypeId) : ∀ j u, [x, y][j]? = some u → (w.alloc (.cells #[x, y] e)).cell? ((⟨w.heap.size, 0, none⟩ : Addr).add j) = some u := by
  intro j u hj
  match j, hj with
  | 0, hj => simp at hj; subst hj; simp [go_sem, Addr.add]
  | 1, hj => simp at hj; subst hj; simp [go_sem, Addr.add]
theorem ones2 (x y : Int) (k l : IntKind) : ∀ u ∈ [Value.int k x, Value.int l y], u.oneCell' = true := by
  intro u hu
  simp at hu
  rcases hu with rfl | rfl <;> rfl
theorem info_A2 : (Try.prog.info? 26).map (fun i => (i.zero, i.size, i.bytes)) = some (some (.agg #[.int .i64 0, .int .i64 0]), 2, 16) := by kernel_rfl
/-- A ring's cells. -/
def rgRow (L : List (Int × Int)) : List Value := L.flatMap fun p => [.int .i64 p.1, .int .i64 p.2]
theorem rgRow_append (L M : List (Int × Int)) : rgRow (L ++ M) = rgRow L ++ rgRow M := by simp [rgRow]
theorem rgRow_one (x y : Int) : rgRow [(x, y)] = [.int .i64 x, .int .i64 y] := by simp [rgRow]
theorem rgRow_get (L : List (Int × Int)) : ∀ j, j < L.length → (rgRow L)[j * 2]? = some (.int .i64 (L.getD j (0, 0)).1) ∧ (rgRow L)[j * 2 + 1]? = some (.int .i64 (L.getD j (0, 0)).2) := by
  induction L with
  | nil => intro j hj; simp at hj
  | cons p L ih =>
    intro j hj
    have e : rgRow (p :: L) = .int .i64 p.1 :: .int .i64 p.2 :: rgRow L := by simp [rgRow]
    rw [e]
    match j, hj with
    | 0, _ => exact ⟨rfl, rfl⟩
    | j + 1, hj =>
      have := ih j (by simpa using hj)
      rw [show (j + 1) * 2 = j * 2 + 2 by omega]
      simpa using this
def RingAt (w : World) (X : Option Addr) (L : List (Int × Int)) : Prop := ∀ j, j < L.length → ∃ g o, X = some ⟨g, o, none⟩ ∧ w.cell? ⟨g, o + j * 2, none⟩ = some (.int .i64 (L.getD j (0, 0)).1) ∧ w.cell? ⟨g, o + j * 2 + 1, none⟩ = some (.int .i64 (L.getD j (0, 0)).2)
theorem RingAt.bl {w w' : World} {X : Option Addr} {L : List (Int × Int)} (h : RingAt w X L) (hb : Below w.heap.size w w') : RingAt w' X L := fun j hj => by
  obtain ⟨g, o, e, h1, h2⟩ := h j hj
  exact ⟨g, o, e, bl_hold hb h1, bl_hold hb h2⟩
theorem own_ring {w : World} {B : Nat} {e : TypeId} {v : Value} {L : List (Int × Int)} (h : w.ownsRow B e 2 v L.length (rgRow L)) : ∃ X cap, v = .slice X L.length cap ∧ RingAt w X L := by
  rcases h.2 with ⟨hv, h0⟩ | ⟨g, cap, cur, hv, hb, hh, _⟩
  · exact ⟨none, 0, by rw [hv, h0], fun j hj => by omega⟩
  · refine ⟨some ⟨g, 0, none⟩, cap, hv, fun j hj => ⟨g, 0, rfl, ?_⟩⟩
    have hc := h.cells (g := g) (by rw [hv]; rfl)
    have ha : ∀ j, (⟨g, 0, none⟩ : Addr).add j = ⟨g, j, none⟩ := fun j => by unfold Addr.add; split <;> simp_all
    simp only [ha] at hc
    obtain ⟨r1, r2⟩ := rgRow_get L j hj
    rw [Nat.zero_add]
    exact ⟨hc _ _ r1, hc _ _ r2⟩
end Go.Proofs.Ytnmehelejdbjaaa

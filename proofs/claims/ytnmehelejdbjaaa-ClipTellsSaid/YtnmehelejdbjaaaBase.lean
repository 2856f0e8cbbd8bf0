
/- Words and small laws that all walks of this seat use: what fits 64 bits, a class of worlds for regions that hold calls which make memory, ends of calls. No condition. -/
import Derived.Test.YtnmehelejdbjaaaChecked
import Derived.WalkKit
import Derived.WalkSpells
import Derived.WalkLawsBesides
import Derived.Deep.QuietTactic
import Derived.BigQuiet
import Derived.Lib.Hide
namespace Go.Proofs.Ytnmehelejdbjaaa
open Go.RowKit

/-- Does a number fit int64? -/
def i64B (x : Int) : Bool := decide (-9223372036854775808 ≤ x ∧ x ≤ 9223372036854775807)
theorem i64B_true {x : Int} (h : i64B x = true) : -9223372036854775808 ≤ x ∧ x ≤ 9223372036854775807 := of_decide_eq_true h
theorem i64B_false {x : Int} (h : i64B x = false) : x < -9223372036854775808 ∨ 9223372036854775807 < x := by
  have := of_decide_eq_false h
  omega
theorem i64B_mk {x : Int} (h : -9223372036854775808 ≤ x) (h' : x ≤ 9223372036854775807) : i64B x = true := decide_eq_true ⟨h, h'⟩
theorem i64B_no {x : Int} (h : x < -9223372036854775808 ∨ 9223372036854775807 < x) : i64B x = false := decide_eq_false (by omega)

/-- A number, or nought if it does not fit int64. -/
def okv (x : Int) : Int := if i64B x = true then x else 0
theorem okv_yes {x : Int} (h : i64B x = true) : okv x = x := if_pos h
theorem okv_no {x : Int} (h : i64B x = false) : okv x = 0 := if_neg (by rw [h]; decide)

/-- The worlds that have grown from W: what W had is as it was. -/
def Bw (W : World) : Type := { g : World // Below W.heap.size W g }
def Bw.out {W : World} (g : Bw W) : World := g.1
instance Bw.inst {W : World} : Nonempty (Bw W) := ⟨⟨W, ⟨rfl, rfl, rfl, Nat.le_refl _, fun _ _ => rfl⟩⟩⟩
theorem Bw.below {W : World} (g : Bw W) : Below W.heap.size W g.out := g.2
theorem Bw.cell {W : World} (g : Bw W) (b o : Nat) (h : b < W.heap.size) : g.out.cell? ⟨b, o, none⟩ = W.cell? ⟨b, o, none⟩ := g.2.cell (p := ⟨b, o, none⟩) h
theorem Bw.frozen {W : World} (g : Bw W) (b o : Nat) (h : b < W.heap.size) : g.out.frozen? ⟨b, o, none⟩ = W.frozen? ⟨b, o, none⟩ := g.2.frozen (p := ⟨b, o, none⟩) h
theorem cell_lt {W : World} {b o : Nat} {v : Value} (h : W.cell? ⟨b, o, none⟩ = some v) : b < W.heap.size := by
  rcases Nat.lt_or_ge b W.heap.size with hlt | hge
  · exact hlt
  · unfold World.cell? at h
    rw [Array.getElem?_eq_none hge] at h
    cases h
/-- What a cell of W holds, in every world that has grown from it. -/
theorem Bw.hold {W : World} {b o : Nat} {v : Value} (h : W.cell? ⟨b, o, none⟩ = some v) (g : Bw W) : g.out.cell? ⟨b, o, none⟩ = some v := (g.cell b o (cell_lt h)).trans h
theorem Bw.free {W : World} {b o : Nat} {v : Value} (h : W.cell? ⟨b, o, none⟩ = some v) (hf : W.frozen? ⟨b, o, none⟩ = false) (g : Bw W) : g.out.frozen? ⟨b, o, none⟩ = false := (g.frozen b o (cell_lt h)).trans hf
theorem cell_al {W : World} {b o : Nat} (h : b < W.heap.size) (ob : Obj) : (W.alloc ob).cell? ⟨b, o, none⟩ = W.cell? ⟨b, o, none⟩ := World.cell?_alloc_lt W ob ⟨b, o, none⟩ h
theorem free_al {W : World} {b o : Nat} (h : b < W.heap.size) (ob : Obj) : (W.alloc ob).frozen? ⟨b, o, none⟩ = W.frozen? ⟨b, o, none⟩ := ((Below.refl W.heap.size W).alloc (Nat.le_refl _) ob).frozen (p := ⟨b, o, none⟩) h
theorem calls_start {P : Program} {f : FuncId} {args : Array Value} {R : Ending → World → Prop} {w : World} (C : World → Prop) (hC : C w) (h : ∀ W, C W → ∀ g : Bw W, Calls P f args g.out R) : Calls P f args w R :=
  h w hC ⟨w, ⟨rfl, rfl, rfl, Nat.le_refl _, fun _ _ => rfl⟩⟩
theorem Bw.al {W : World} {b o : Nat} {v : Value} (g : Bw W) (h : W.cell? ⟨b, o, none⟩ = some v) (ob : Obj) : (g.out.alloc ob).cell? ⟨b, o, none⟩ = some v := (cell_al (cell_lt (Bw.hold h g)) ob).trans (Bw.hold h g)
theorem Bw.alF {W : World} {b o : Nat} {v : Value} (g : Bw W) (h : W.cell? ⟨b, o, none⟩ = some v) (hf : W.frozen? ⟨b, o, none⟩ = false) (ob : Obj) : (g.out.alloc ob).frozen? ⟨b, o, none⟩ = false := (free_al (cell_lt (Bw.hold h g)) ob).trans (Bw.free h hf g)

theorem hold_al {W : World} {b o : Nat} {v : Value} (h : ∀ g : Bw W, g.out.cell? ⟨b, o, none⟩ = some v) (g : Bw W) (ob : Obj) : (g.out.alloc ob).cell? ⟨b, o, none⟩ = some v := (cell_al (cell_lt (h g)) ob).trans (h g)
theorem hold_alF {W : World} {b o : Nat} {v : Value} (h : ∀ g : Bw W, g.out.cell? ⟨b, o, none⟩ = some v) (hf : ∀ g : Bw W, g.out.frozen? ⟨b, o, none⟩ = false) (g : Bw W) (ob : Obj) : (g.out.alloc ob).frozen? ⟨b, o, none⟩ = false := (free_al (cell_lt (h g)) ob).trans (hf g)

/-- The world under a name, with what is known of it; from here on all is said of worlds that have grown from it. -/
theorem wp_start {c : Code} {P : Program} {Q : Exit → Act → World → Prop} {a : Act} {w : World} (C : World → Prop) (hC : C w) (h : ∀ W, C W → ∀ g : Bw W, c.wp P Q a g.out) : c.wp P Q a w :=
  h w hC ⟨w, ⟨rfl, rfl, rfl, Nat.le_refl _, fun _ _ => rfl⟩⟩
/-- A region that draws its order, whose operations read and whose callees make new memory alone: one walk, in the text's order. -/
theorem wp_region_bw {P : Program} {id : Nat} {Q : Exit → Act → World → Prop} {a : Act} {W : World} {l : List Oper} (hm : P.follows .mixedOrders = true) (hB : Region.lexB .any l.toArray = true) (g : Bw W)
    (h : wpQuiet P l.toArray (fun w' => ∃ g : Bw W, w' = g.out) (fun a' => ∀ w', (∃ g : Bw W, w' = g.out) → Q .normal a' w') l a) : (Code.region id l.toArray true).wp P Q a g.out :=
  wp_region_quiet (C := fun w' => ∃ g : Bw W, w' = g.out) hm hB ⟨⟨{ g.out with drawn := g.out.drawn + 1 }, ⟨g.below.os, g.below.tape, g.below.output, g.below.size, g.below.block⟩⟩, rfl⟩ (by simpa using h)
theorem below_step {W g w' : World} (h : Below W.heap.size W g) (h' : Below g.heap.size g w') : Below W.heap.size W w' := h.trans (h'.mono h.size)
theorem Bw.next {W : World} (g : Bw W) {w' : World} (hb : Below g.out.heap.size g.out w') : ∃ g' : Bw W, g'.out = w' := ⟨⟨w', below_step g.below hb⟩, rfl⟩
theorem Bw.nextN {W : World} (g : Bw W) (n : Nat) : ∃ g' : Bw W, g'.out = g.out.drewN n := g.next ⟨rfl, rfl, rfl, Nat.le_refl _, fun _ _ => rfl⟩
/-- At a call in such a region. -/
theorem bw_call {P : Program} {f : FuncId} {args : Array Value} {W : World} {g : Bw W} {v : Value}
    (h : Calls P f args g.out fun e w' => e = .returned v ∧ Below g.out.heap.size g.out w') : Calls P f args g.out fun e w'' => e = .returned v ∧ ∃ g' : Bw W, w'' = g'.out :=
  h.mono fun _ _ ⟨he, hb⟩ => ⟨he, ⟨_, below_step g.below hb⟩, rfl⟩
theorem bw_call_same {P : Program} {f : FuncId} {args : Array Value} {W : World} {g : Bw W} {v : Value}
    (h : Calls P f args g.out fun e w' => e = .returned v ∧ g.out = w') : Calls P f args g.out fun e w'' => e = .returned v ∧ ∃ g' : Bw W, w'' = g'.out :=
  h.mono fun _ _ ⟨he, hb⟩ => ⟨he, g, hb.symm⟩
theorem bw_call_drew {P : Program} {f : FuncId} {args : Array Value} {W : World} {g : Bw W} {v : Value}
    (h : Calls P f args g.out fun e w' => e = .returned v ∧ ∃ n, g.out.drewN n = w') : Calls P f args g.out fun e w'' => e = .returned v ∧ ∃ g' : Bw W, w'' = g'.out :=
  h.mono fun _ _ ⟨he, n, hb⟩ => ⟨he, ⟨g.out.drewN n, below_step g.below ⟨rfl, rfl, rfl, Nat.le_refl _, fun _ _ => rfl⟩⟩, hb.symm⟩
/-- Ends of walks: what was there is as it was. -/
theorem bl_alloc {W g : World} (h : Below W.heap.size W g) (o : Obj) : Below W.heap.size W (g.alloc o) := h.alloc h.size o
theorem bl_set {W g : World} (h : Below W.heap.size W g) {p : Addr} (hp : W.heap.size ≤ p.block) (u : Value) : Below W.heap.size W (g.setCell p u) := h.setCell hp u
theorem bl_drew {W g : World} (h : Below W.heap.size W g) : Below W.heap.size W g.drew := ⟨h.os, h.tape, h.output, h.size, h.block⟩
theorem bl_drewN {W g : World} (h : Below W.heap.size W g) (n : Nat) : Below W.heap.size W (g.drewN n) := ⟨h.os, h.tape, h.output, h.size, h.block⟩
theorem bl_hold {W w1 : World} {b o : Nat} {v : Value} (hb : Below W.heap.size W w1) (h : W.cell? ⟨b, o, none⟩ = some v) : w1.cell? ⟨b, o, none⟩ = some v := (hb.cell (p := ⟨b, o, none⟩) (cell_lt h)).trans h
theorem bl_free {W w1 : World} {b o : Nat} {v : Value} (hb : Below W.heap.size W w1) (h : W.cell? ⟨b, o, none⟩ = some v) (hf : W.frozen? ⟨b, o, none⟩ = false) : w1.frozen? ⟨b, o, none⟩ = false := (hb.frozen (p := ⟨b, o, none⟩) (cell_lt h)).trans hf
theorem below_drewN {B : Nat} {a w : World} (h : Below B a w) (n : Nat) : Below B a (w.drewN n) := ⟨h.os, h.tape, h.output, h.size, h.block⟩
theorem bcell {W w1 : World} (hb : Below W.heap.size W w1) : (∀ b o, b < W.heap.size → w1.cell? ⟨b, o, none⟩ = W.cell? ⟨b, o, none⟩) ∧ (∀ b o, b < W.heap.size → w1.frozen? ⟨b, o, none⟩ = W.frozen? ⟨b, o, none⟩) :=
  ⟨fun b o h => hb.cell (p := ⟨b, o, none⟩) h, fun b o h => hb.frozen (p := ⟨b, o, none⟩) h⟩
theorem ret_iib {k l : IntKind} {a b a' b' : Int} {c c' : Bool} (h : a = a') (h2 : b = b') (h3 : c = c') : Ending.returned (.tuple #[.int k a, .int l b, .bool c]) = .returned (.tuple #[.int k a', .int l b', .bool c']) := by rw [h, h2, h3]
theorem ret_ib {k : IntKind} {a a' : Int} {c c' : Bool} (h : a = a') (h3 : c = c') : Ending.returned (.tuple #[.int k a, .bool c]) = .returned (.tuple #[.int k a', .bool c']) := by rw [h, h3]
theorem ret_ii {k l : IntKind} {a b a' b' : Int} (h : a = a') (h2 : b = b') : Ending.returned (.tuple #[.int k a, .int l b]) = .returned (.tuple #[.int k a', .int l b']) := by rw [h, h2]
theorem ret_i {k : IntKind} {a b : Int} (h : a = b) : Ending.returned (.int k a) = .returned (.int k b) := by rw [h]
theorem ret_b {a b : Bool} (h : a = b) : Ending.returned (.bool a) = .returned (.bool b) := by rw [h]
theorem ret_agg2 {k l : IntKind} {a b a' b' : Int} (h : a = a') (h2 : b = b') : Ending.returned (.agg #[.int k a, .int l b]) = .returned (.agg #[.int k a', .int l b']) := by rw [h, h2]
theorem wrap64_id {x : Int} (h : -9223372036854775808 ≤ x) (h' : x ≤ 9223372036854775807) : wrap64 x = x := by unfold wrap64; omega
end Go.Proofs.Ytnmehelejdbjaaa

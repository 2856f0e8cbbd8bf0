
/- Lists of words in a slice's cells; a word put in between. -/
import Derived.Test.YtmipkloleklnkaaBelowLaw
import Derived.Laws.OwnMore
import Derived.Laws.CopyOwn
import Derived.Laws.AppendOwn
namespace Go.Proofs.Ytmipkloleklnkaa
open Go.RowKit
def wsR (L : List Int) : List Value := L.map fun x => .int .u64 x
theorem wsR_len (L : List Int) : (wsR L).length = L.length := by simp [wsR]
theorem wsR_append (L M : List Int) : wsR (L ++ M) = wsR L ++ wsR M := by simp [wsR]
theorem wsR_ones (L : List Int) : ∀ u ∈ wsR L, u.oneCell' = true := by
  intro u hu
  simp [wsR] at hu
  obtain ⟨x, _, rfl⟩ := hu
  rfl
theorem wsR_get (L : List Int) (j : Nat) (h : j < L.length) : (wsR L)[j]? = some (.int .u64 (L.getD j 0)) := by
  simp [wsR, List.getElem?_eq_getElem h, List.getD_eq_getElem?_getD]
theorem wsR_get' (L : List Int) (j : Nat) (u : Value) (h : (wsR L)[j]? = some u) : j < L.length ∧ u = .int .u64 (L.getD j 0) := by
  have hj : j < L.length := by
    rcases Nat.lt_or_ge j L.length with h1 | h1
    · exact h1
    · rw [List.getElem?_eq_none (by rw [wsR_len]; exact h1)] at h
      cases h
  rw [wsR_get L j hj] at h
  exact ⟨hj, by cases h; rfl⟩
def WsAt (w : World) (X : Option Addr) (L : List Int) : Prop := ∀ j, j < L.length → ∃ g, X = some ⟨g, 0, none⟩ ∧ w.cell? ⟨g, j, none⟩ = some (.int .u64 (L.getD j 0))
theorem WsAt.bl {w w' : World} {X : Option Addr} {L : List Int} (h : WsAt w X L) (hb : Below w.heap.size w w') : WsAt w' X L := fun j hj => by
  obtain ⟨g, e, h1⟩ := h j hj
  exact ⟨g, e, bl_hold hb h1⟩
theorem at_add (g j : Nat) : (⟨g, 0, none⟩ : Addr).add j = ⟨g, j, none⟩ := by unfold Addr.add; split <;> simp_all
/-- The cells that an append or a copy reads. -/
theorem WsAt.news {w : World} {g : Nat} {L : List Int} (h : WsAt w (some ⟨g, 0, none⟩) L) : ∀ j u, (wsR L)[j]? = some u → w.cell? ((⟨g, 0, none⟩ : Addr).add j) = some u := by
  intro j u hj
  obtain ⟨h1, rfl⟩ := wsR_get' L j u hj
  obtain ⟨g', e, h2⟩ := h j h1
  cases e
  rw [at_add]
  exact h2
theorem own_ws {w : World} {B n : Nat} {e : TypeId} {v : Value} {L : List Int} (h : w.ownsRow B e 1 v n (wsR L)) (hn : 0 < n) : ∃ g cap, v = .slice (some ⟨g, 0, none⟩) n cap ∧ B ≤ g ∧ L.length = n ∧ WsAt w (some ⟨g, 0, none⟩) L := by
  rcases h.2 with ⟨hv, h0⟩ | ⟨g, cap, cur, hv, hb, hh, _⟩
  · omega
  · refine ⟨g, cap, hv, hb, by have := h.1; rw [wsR_len] at this; omega, fun j hj => ⟨g, rfl, ?_⟩⟩
    have hc := h.cells (g := g) (by rw [hv]; rfl)
    have := hc j _ (wsR_get L j hj)
    rwa [at_add] at this
theorem own_wsX {w : World} {B n : Nat} {e : TypeId} {v : Value} {L : List Int} (h : w.ownsRow B e 1 v n (wsR L)) : ∃ X cap, v = .slice X n cap ∧ L.length = n ∧ WsAt w X L := by
  have hl : L.length = n := by have := h.1; rw [wsR_len] at this; omega
  rcases Nat.eq_zero_or_pos n with h0 | h0
  · rcases h.2 with ⟨hv, _⟩ | ⟨g, cap, cur, hv, _⟩
    · exact ⟨none, 0, by rw [hv, h0], hl, fun j hj => by omega⟩
    · exact ⟨_, cap, hv, hl, fun j hj => by omega⟩
  · obtain ⟨g, cap, hv, _, _, hw⟩ := own_ws h h0
    exact ⟨_, cap, hv, hl, hw⟩
/-- The whole row behind an owned list. -/
theorem own_row {w : World} {B n : Nat} {e : TypeId} {v : Value} {xs : List Value} (h : w.ownsRow B e 1 v n xs) (hn : 0 < n) :
    ∃ g cap cur, v = .slice (some ⟨g, 0, none⟩) n cap ∧ B ≤ g ∧ w.heap[g]? = some (.cells (cur : List Value).toArray e (0, 0)) ∧ n ≤ cap ∧ cap ≤ maxLen ∧ cur.length = cap ∧ cur.take n = xs := by
  rcases h.2 with ⟨hv, h0⟩ | ⟨g, cap, cur, hv, hb, hh, h1, h2, h3, h4⟩
  · omega
  · exact ⟨g, cap, cur.toList, hv, hb, by simpa using hh, h1, h2, by simpa using h3, by simpa using h4⟩
theorem take_splice (cur : List Value) (lo n : Nat) (cs : List Value) (h1 : lo + 1 + cs.length = n) (h2 : n ≤ cur.length) : (splice cur (lo + 1) cs).take n = cur.take (lo + 1) ++ cs := by
  unfold splice
  have hl : (cur.take (lo + 1)).length = lo + 1 := by rw [List.length_take]; omega
  rw [← List.append_assoc, List.take_append_of_le_length (by rw [List.length_append, hl]; omega)]
  exact List.take_of_length_le (by rw [List.length_append, hl]; omega)
theorem take_ins (L : List Int) (lo : Nat) (h : lo ≤ L.length) : ∃ z, (L ++ [0]).take (lo + 1) = L.take lo ++ [z] := by
  refine ⟨(L ++ [0]).getD lo 0, ?_⟩
  have hl : lo < (L ++ [0]).length := by simp; omega
  rw [List.take_add_one, List.getElem?_eq_getElem hl, List.getD_eq_getElem?_getD, List.getElem?_eq_getElem hl, List.take_append_of_le_length h]
  rfl
theorem own_spliced {w : World} {B g cap lo n : Nat} {e : TypeId} {cur : List Value} {L : List Int} (hn : L.length = n) (hB : B ≤ g) (hg : w.heap[g]? = some (.cells (splice cur (lo + 1) (wsR (L.drop lo))).toArray e (0, 0)))
    (hc : n + 1 ≤ cap) (hcm : cap ≤ maxLen) (hcs : cur.length = cap) (ht : cur.take (n + 1) = wsR (L ++ [0])) (hlo : lo ≤ n) :
    ∃ z, w.ownsRow B e 1 (.slice (some ⟨g, 0, none⟩) (n + 1) cap) (n + 1) (wsR (L.take lo ++ z :: L.drop lo)) := by
  obtain ⟨z, hz⟩ := take_ins L lo (by omega)
  have hdl : (wsR (L.drop lo)).length = n - lo := by rw [wsR_len, List.length_drop]; omega
  refine ⟨z, ?_, .inr ⟨g, cap, _, rfl, hB, hg, hc, hcm, ?_, ?_⟩⟩
  · rw [wsR_len]; simp; omega
  · have := length_splice cur (lo + 1) (wsR (L.drop lo)) (by omega)
    simp
    omega
  · rw [Nat.mul_one]
    show (splice cur (lo + 1) (wsR (L.drop lo))).take (n + 1) = _
    rw [take_splice cur lo (n + 1) _ (by omega) (by omega)]
    have e1 : cur.take (lo + 1) = (cur.take (n + 1)).take (lo + 1) := by rw [List.take_take, Nat.min_eq_left (by omega)]
    rw [e1, ht]
    have e2 : (wsR (L ++ [0])).take (lo + 1) = wsR ((L ++ [0]).take (lo + 1)) := by simp [wsR, List.map_take]
    rw [e2, hz, ← wsR_append, List.append_assoc]
    rfl
theorem set_mid (A C : List Int) (z x : Int) (lo : Nat) (h : A.length = lo) : (wsR (A ++ z :: C)).set lo (.int .u64 x) = wsR (A ++ x :: C) := by
  subst h
  simp [wsR]
/-- A word put into an owned list: what a store leaves. -/
theorem own_put {w : World} {B g cap lo n : Nat} {e : TypeId} {L : List Int} {z : Int} (x : Int) (hn : L.length = n) (hlo : lo ≤ n) (h : w.ownsRow B e 1 (.slice (some ⟨g, 0, none⟩) (n + 1) cap) (n + 1) (wsR (L.take lo ++ z :: L.drop lo))) :
    (w.setCell ⟨g, lo, none⟩ (.int .u64 x)).ownsRow B e 1 (.slice (some ⟨g, 0, none⟩) (n + 1) cap) (n + 1) (wsR (L.take lo ++ x :: L.drop lo)) := by
  have h1 := (h.stored lo (.int .u64 x)).1
  rwa [set_mid _ _ _ _ _ (by rw [List.length_take]; omega)] at h1
theorem mem_ins (L : List Int) (lo : Nat) (x y : Int) (h : y ∈ L.take lo ++ x :: L.drop lo) : y = x ∨ y ∈ L := by
  rcases List.mem_append.1 h with h1 | h1
  · exact .inr (List.mem_of_mem_take h1)
  · rcases List.mem_cons.1 h1 with h2 | h2
    · exact .inl h2
    · exact .inr (List.mem_of_mem_drop h2)
theorem src_cells {w : World} {g a : Nat} {M : List Int} {z : Int} (h : WsAt w (some ⟨g, 0, none⟩) (M ++ [z])) : ∀ j v, (wsR (M.drop a))[j]? = some v → w.cell? ((⟨g, a, none⟩ : Addr).add j) = some v := by
  intro j v hj
  obtain ⟨h1, rfl⟩ := wsR_get' _ j v hj
  rw [List.length_drop] at h1
  obtain ⟨g', e, hc⟩ := h (a + j) (by simp; omega)
  cases e
  have e2 : (⟨g, a, none⟩ : Addr).add j = ⟨g, a + j, none⟩ := by unfold Addr.add; split <;> simp_all
  rw [e2, hc]
  have e3 : (M ++ [z]).getD (a + j) 0 = (M.drop a).getD j 0 := by
    rw [List.getD_eq_getElem?_getD, List.getD_eq_getElem?_getD, List.getElem?_append_left (by omega), List.getElem?_drop]
  rw [e3]
theorem info_U64 : (Try.prog.info? 22).map (fun i => (i.zero, i.size, i.bytes)) = some (some (.int .u64 0), 1, 8) := by kernel_rfl
theorem news1 (w : World) (x : Value) (e : TypeId) : ∀ j u, [x][j]? = some u → (w.alloc (.cells #[x] e)).cell? ((⟨w.heap.size, 0, none⟩ : Addr).add j) = some u := by
  intro j u hj
  match j, hj with
  | 0, hj => simp at hj; subst hj; simp [go_sem, Addr.add]
theorem ones1 (x : Int) (k : IntKind) : ∀ u ∈ [Value.int k x], u.oneCell' = true := by
  intro u hu
  simp at hu
  subst hu
  rfl
theorem own_lit1 (W : World) (x : Value) (e : TypeId) (base : Nat) (hb : base ≤ W.heap.size) : (W.alloc (.cells #[x] e)).ownsRow base e 1 (.slice (some ⟨W.heap.size, 0, none⟩) 1 1) 1 [x] :=
  ⟨rfl, .inr ⟨W.heap.size, 1, #[x], rfl, hb, heap_alloc_new W _, Nat.le_refl _, by decide, rfl, rfl⟩⟩
end Go.Proofs.Ytmipkloleklnkaa


/- The walk of the reference's Children. -/
import Derived.Test.YtmipkloleklnkaaRefCell
import Derived.Laws.AppendOwn
namespace Go.Proofs.Ytmipkloleklnkaa
open Go.RowKit
set_option linter.unusedSimpArgs false
set_option linter.unusedVariables false
theorem bl_to_grown {w w' : World} (hb : Below w.heap.size w w') (row : Option Nat) : w.grownBy w' row := ⟨hb.os, hb.tape, hb.output, hb.size, fun k hk _ => hb.block k hk⟩
theorem own_bl {w w' : World} {base size n : Nat} {e : TypeId} {v : Value} {xs : List Value} (h : w.ownsRow base e size v n xs) (hb : Below w.heap.size w w') : w'.ownsRow base e size v n xs :=
  h.kept (bl_to_grown hb none) (by cases hv : v.ownBlock <;> simp)
theorem bl_grown {V w w2 : World} {base size n : Nat} {e : TypeId} {v : Value} {xs : List Value} (hown : w.ownsRow base e size v n xs) (hB : V.heap.size ≤ base) (hg : w.grownBy w2 v.ownBlock) (h : Below V.heap.size V w) : Below V.heap.size V w2 :=
  h.grown hg h.size (fun k hk => Nat.le_trans hB (hown.lt k hk).1)
theorem gr_hold {w w2 : World} {base size n b o : Nat} {e : TypeId} {v u : Value} {xs : List Value} (hown : w.ownsRow base e size v n xs) (hg : w.grownBy w2 v.ownBlock) (hb : b < base) (h : w.cell? ⟨b, o, none⟩ = some u) : w2.cell? ⟨b, o, none⟩ = some u :=
  hg.cell h (by intro he; have := (hown.lt b he.symm).1; omega)
theorem own_mono {w : World} {base base' size n : Nat} {e : TypeId} {v : Value} {xs : List Value} (h : w.ownsRow base e size v n xs) (hb : base' ≤ base) : w.ownsRow base' e size v n xs := by
  obtain ⟨h1, h2⟩ := h
  refine ⟨h1, ?_⟩
  rcases h2 with h2 | ⟨g, cap, cur, hv, hg, r⟩
  · exact .inl h2
  · exact .inr ⟨g, cap, cur, hv, Nat.le_trans hb hg, r⟩
theorem own_lit3 (W : World) (x y z : Value) (e : TypeId) (base : Nat) (hb : base ≤ W.heap.size) : (W.alloc (.cells #[x, y, z] e)).ownsRow base e 3 (.slice (some ⟨W.heap.size, 0, none⟩) 1 1) 1 [x, y, z] :=
  ⟨rfl, .inr ⟨W.heap.size, 1, #[x, y, z], rfl, hb, heap_alloc_new W _, Nat.le_refl _, by decide, rfl, rfl⟩⟩
theorem news3 (w : World) (o : Obj) (x y z : Value) (e : TypeId) : ∀ j u, [x, y, z][j]? = some u → ((w.alloc o).alloc (.cells #[x, y, z] e)).cell? ((⟨w.heap.size + 1, 0, none⟩ : Addr).add j) = some u := by
  intro j u hj
  match j, hj with
  | 0, hj => simp at hj; subst hj; simp [go_sem, Addr.add]
  | 1, hj => simp at hj; subst hj; simp [go_sem, Addr.add]
  | 2, hj => simp at hj; subst hj; simp [go_sem, Addr.add]
theorem ones3 (x y z : Int) : ∀ u ∈ [Value.int .i64 x, Value.int .i64 y, Value.int .i64 z], u.oneCell' = true := by
  intro u hu
  simp at hu
  rcases hu with rfl | rfl | rfl <;> rfl
/-- Child n's numbers. -/
def chX (da : Int) : Nat → Int
  | 0 => da
  | k + 1 => da + uA (k : Int)
def chY (db : Int) : Nat → Int
  | 0 => db
  | k + 1 => db + uB (k : Int)
def chRow (r da db : Int) : Nat → List Value
  | 0 => []
  | n + 1 => chRow r da db n ++ [.int .i64 r, .int .i64 (chX da n), .int .i64 (chY db n)]
theorem info_C3 : (Try.prog.info? 27).map (fun i => (i.zero, i.size, i.bytes)) = some (some (.agg #[.int .i64 0, .int .i64 0, .int .i64 0]), 3, 24) := by kernel_rfl
theorem u_bd (k : Nat) : -1 ≤ uA (k : Int) ∧ uA (k : Int) ≤ 1 ∧ -1 ≤ uB (k : Int) ∧ uB (k : Int) ≤ 1 := by
  unfold uA uB
  split <;> (try split) <;> (try split) <;> (try split) <;> (try split) <;> omega
set_option maxRecDepth 100000 in
set_option maxHeartbeats 2000000 in
theorem ref_children (r a b : Int) (h : okB r a b = true) (hr : r ≠ 12) (w : World) :
    Calls Try.prog 16 #[.agg #[.int .i64 r, .int .i64 a, .int .i64 b]] w fun e w' =>
      ∃ v, e = .returned (.tuple #[v, .int .i64 0]) ∧ w'.ownsRow w.heap.size 27 3 v 7 (chRow (r + 1) (2 * a - b) (a + 3 * b) 7) ∧ Below w.heap.size w w' := by
  obtain ⟨⟨r1, r2⟩, hz, _⟩ := okB_true h
  obtain ⟨z1, z2, z3, z4⟩ := zOk_true hz
  have OK := ref_ok r a b
  rw [h] at OK
  have HO := Lib.hid OK
  have ML := Lib.hid (ref_mul_fit a b 2 1 (2 * a - b) (a + 3 * b) (by omega) (by omega) (by omega) (by omega) (by decide) (by decide) (by decide) (by decide) (by omega) (by omega) (by omega) (by omega) (by omega) (by omega))
  obtain ⟨i0, hi, hz0, hz1, hz2⟩ := info_parts info_C3
  have hr12 : (r == 12) = false := by simp [hr]
  have w1 : -9000000000 ≤ 2 * a - b := by omega
  have w2 : 2 * a - b ≤ 9000000000 := by omega
  have w3 : -9000000000 ≤ a + 3 * b := by omega
  have w4 : a + 3 * b ≤ 9000000000 := by omega
  clear OK h hz
  generalize 2 * a - b = da at *
  generalize a + 3 * b = db at *
  go_enter Try.func16, Try.ntmps16
  go_wp2_with fail
  refine calls_start (fun V => V.cell? ⟨w.heap.size, 0, none⟩ = some (.int .i64 r) ∧ V.cell? ⟨w.heap.size, 1, none⟩ = some (.int .i64 a) ∧ V.cell? ⟨w.heap.size, 2, none⟩ = some (.int .i64 b) ∧ Below w.heap.size w V) ⟨by first | with_reducible assumption | (simp [go_sem]; done), by first | with_reducible assumption | (simp [go_sem]; done), by first | with_reducible assumption | (simp [go_sem]; done), by repeat (first | with_reducible exact Below.refl _ _ | with_reducible refine bl_alloc ?_ _ | with_reducible refine bl_drewN ?_ _ | with_reducible refine bl_drew ?_ | (with_reducible refine bl_set ?_ ?_ _; rotate_left; focus (first | (simp; done) | (simp; omega) | omega)) | with_reducible refine below_step ?_ (Bw.below _) | with_reducible refine below_step ?_ (by assumption))⟩ ?_
  rintro V ⟨hc1, hc2, hc3, hWc⟩ gc
  have c1 := Bw.hold hc1
  have c2 := Bw.hold hc2
  have c3 := Bw.hold hc3
  have cz1 := fun g : Bw V => cell_lt (c1 g)
  have cy1 := fun g : Bw V => Nat.le_of_lt (cz1 g)
  clear hc1 hc2 hc3
  refine (HO.out _).mono ?_
  rintro e_g2 w_g2 ⟨rfl, hb_g2⟩
  obtain ⟨g2, rfl⟩ := gc.next hb_g2
  clear hb_g2
  go_wp2_with fail
  refine (ML.out _).mono ?_
  rintro e_h w_h ⟨rfl, hb_h⟩
  obtain ⟨g3, rfl⟩ := g2.next hb_h
  clear hb_h
  have hB : w.heap.size ≤ g3.out.heap.size := Nat.le_trans hWc.size g3.below.size
  have hB2 : w.heap.size < g3.out.heap.size := cz1 g3
  go_wp2_with fail
  go_loopw [6, 7] (fun v k W => ∃ n : Nat, n ≤ 6 ∧ k = .int .i64 n ∧ W.ownsRow (g3.out.heap.size + 1) 27 3 v (n + 1) (chRow (r + 1) da db (n + 1))
    ∧ W.cell? ⟨w.heap.size, 0, none⟩ = some (.int .i64 r) ∧ W.cell? ⟨g3.out.heap.size, 0, none⟩ = some (.int .i64 da) ∧ W.cell? ⟨g3.out.heap.size, 1, none⟩ = some (.int .i64 db) ∧ Below w.heap.size w W) (fun _ k _ => 6 - (intOf k).toNat)
  case atStart => exact ⟨0, by omega, rfl, by have := own_lit3 (g3.out.alloc (.cells #[.int .i64 da, .int .i64 db] 25)) (.int .i64 (r + 1)) (.int .i64 da) (.int .i64 db) 27 (g3.out.heap.size + 1) (by simp); simpa [chRow, chX, chY] using this, by simp [go_sem, c1, cz1], by simp [go_sem], by simp [go_sem], by repeat (first | with_reducible exact Below.refl _ _ | with_reducible refine bl_alloc ?_ _ | with_reducible refine bl_drewN ?_ _ | with_reducible refine bl_drew ?_ | (with_reducible refine bl_set ?_ ?_ _; rotate_left; focus (first | (simp; done) | (simp; omega) | omega)) | with_reducible refine below_step ?_ (Bw.below _) | with_reducible refine below_step ?_ (by assumption))⟩
  case round =>
    obtain ⟨n, hn, rfl, hown, e1, e2, e3, hb⟩ := hrel
    by_cases hlt : n < 6
    · have UN := runit_is n hlt _ _ rfl rfl
      have HU := Lib.hid UN
      obtain ⟨k1, k2, k3, k4⟩ := u_bd n
      have hX : Hid (chX da (n + 1) = da + uA (n : Int)) := Lib.hid rfl
      have hY : Hid (chY db (n + 1) = db + uB (n : Int)) := Lib.hid rfl
      clear UN
      generalize uA (n : Int) = x at *
      generalize uB (n : Int) = y at *
      go_wp2_with fail
      refine (HU.out _).mono ?_
      rintro e w5 ⟨rfl, hb1⟩
      have hown1 := own_bl hown hb1
      have f1 := bl_hold hb1 e1
      have f2 := bl_hold hb1 e2
      have f3 := bl_hold hb1 e3
      have hb5 : Below w.heap.size w w5 := by repeat (first | with_reducible exact Below.refl _ _ | with_reducible refine bl_alloc ?_ _ | with_reducible refine bl_drewN ?_ _ | with_reducible refine bl_drew ?_ | (with_reducible refine bl_set ?_ ?_ _; rotate_left; focus (first | (simp; done) | (simp; omega) | omega)) | with_reducible refine below_step ?_ (Bw.below _) | with_reducible refine below_step ?_ (by assumption))
      have hB5 : g3.out.heap.size + 1 ≤ w5.heap.size := cell_lt f2
      have hB6 : w.heap.size < w5.heap.size := by omega
      have hB7 : g3.out.heap.size < w5.heap.size := by omega
      clear hown hb1 e1 e2 e3 hb
      have hm1 : n + 1 + 1 ≤ maxLen := by unfold maxLen; omega
      have hm2 : (n + 1 + 1) * 24 ≤ 140737488355328 := by omega
      go_wp2_with (at_builtin; refine wpList_append_own _ rfl (.tmp 36) (.tmp 52) 34 rfl (g3.out.heap.size + 1) 27 i0 (.agg #[.int .i64 0, .int .i64 0, .int .i64 0]) 3 24 Try.underlying34 hi hz0 hz1 hz2 rfl (by decide) _ _ _ rfl ((hown1.alloc _).alloc _) ⟨w5.heap.size + 1, 0, none⟩ 1 1 [.int .i64 (r + 1), .int .i64 (da + x), .int .i64 (db + y)] rfl rfl (news3 _ _ _ _ _ _) (ones3 _ _ _) hm1 hm2 (by simp; omega) ?_)
      intro v' w6 hown2 hgrow _
      have p1 := gr_hold ((hown1.alloc _).alloc _) hgrow (by omega) (show World.cell? _ ⟨w.heap.size, 0, none⟩ = some (.int .i64 r) from bl_hold (bl_alloc (bl_alloc (Below.refl _ _) _) _) f1)
      have p2 := gr_hold ((hown1.alloc _).alloc _) hgrow (by omega) (show World.cell? _ ⟨g3.out.heap.size, 0, none⟩ = some (.int .i64 da) from bl_hold (bl_alloc (bl_alloc (Below.refl _ _) _) _) f2)
      have p3 := gr_hold ((hown1.alloc _).alloc _) hgrow (by omega) (show World.cell? _ ⟨g3.out.heap.size, 1, none⟩ = some (.int .i64 db) from bl_hold (bl_alloc (bl_alloc (Below.refl _ _) _) _) f3)
      have hV2 := bl_grown ((hown1.alloc _).alloc _) (by omega) hgrow (bl_alloc (bl_alloc hb5 _) _)
      rw [← hX.out, ← hY.out] at hown2
      clear hown1 hgrow hb5 f1 f2 f3
      go_wp2_with fail
      go_roundw
      case rel => exact ⟨n + 1, by omega, by go_num, hown2, p1, p2, p3, hV2⟩
      case measure => simp [intOf]; omega
    · obtain rfl : n = 6 := by omega
      go_wp2_with fail
      refine bodyPost_ret (v := .tuple #[u6, .int .i64 0]) (by simp [results, Try.results16, go_sem]) rfl ⟨u6, rfl, own_mono hown (by omega), by repeat (first | with_reducible exact Below.refl _ _ | with_reducible refine bl_alloc ?_ _ | with_reducible refine bl_drewN ?_ _ | with_reducible refine bl_drew ?_ | (with_reducible refine bl_set ?_ ?_ _; rotate_left; focus (first | (simp; done) | (simp; omega) | omega)) | with_reducible refine below_step ?_ (Bw.below _) | with_reducible refine below_step ?_ (by assumption))⟩
end Go.Proofs.Ytmipkloleklnkaa


/- The walk of a line's cut: what of a ring is kept. -/
import Derived.Test.YtnmehelejdbjaaaClipOk
namespace Go.Proofs.Ytnmehelejdbjaaa
open Go.RowKit
set_option linter.unusedSimpArgs false
set_option linter.unusedVariables false
/-- What a cut keeps of a corner and the edge behind it; of the first corners; of all. -/
def cutS (ax t : Int) (ab : Bool) (p q : Int × Int) : List (Int × Int) := (if kpB ax t ab p then [p] else []) ++ (if btB ax t p q then [crP ax t p q] else [])
def cutN (ax t : Int) (ab : Bool) (L : List (Int × Int)) : Nat → List (Int × Int)
  | 0 => []
  | k + 1 => cutN ax t ab L k ++ cutS ax t ab (L.getD k (0, 0)) (L.getD ((k + 1) % L.length) (0, 0))
def cutL (ax t : Int) (ab : Bool) (L : List (Int × Int)) : List (Int × Int) := cutN ax t ab L L.length
theorem cutN_len (ax t : Int) (ab : Bool) (L : List (Int × Int)) (k : Nat) : (cutN ax t ab L k).length ≤ 2 * k := by
  induction k with
  | zero => exact Nat.le_refl _
  | succ k ih =>
    show (cutN ax t ab L k ++ cutS ax t ab _ _).length ≤ _
    unfold cutS
    rw [List.length_append, List.length_append]
    have h1 : (if kpB ax t ab (L.getD k (0, 0)) then [L.getD k (0, 0)] else []).length ≤ 1 := by split <;> simp
    have h2 : (if btB ax t (L.getD k (0, 0)) (L.getD ((k + 1) % L.length) (0, 0)) then [crP ax t (L.getD k (0, 0)) (L.getD ((k + 1) % L.length) (0, 0))] else []).length ≤ 1 := by split <;> simp
    omega
theorem gr_other {w w2 : World} {row : Option Nat} (hg : w.grownBy w2 row) {b o : Nat} {v : Value} (h : w.cell? ⟨b, o, none⟩ = some v) (hne : row ≠ some b) : w2.cell? ⟨b, o, none⟩ = some v := by
  obtain ⟨_, _, _, _, hk⟩ := hg
  have hb := hk b (cell_lt h) (fun h => hne h.symm)
  rw [← h]
  simp only [World.cell?, hb]
theorem own_ne {w : World} {base size n : Nat} {e : TypeId} {v : Value} {xs : List Value} (h : w.ownsRow base e size v n xs) {b : Nat} (hb : w.heap.size ≤ b) : v.ownBlock ≠ some b := fun he => by
  have := (h.lt b he).2
  omega
theorem own_push {w : World} {B n : Nat} {e : TypeId} {v : Value} {M : List (Int × Int)} {x y : Int} (h : w.ownsRow B e 2 v n (rgRow M ++ [.int .i64 x, .int .i64 y])) (hn : n = M.length + 1) : w.ownsRow B e 2 v (M ++ [(x, y)]).length (rgRow (M ++ [(x, y)])) := by
  subst hn
  rw [rgRow_append, rgRow_one, List.length_append]
  exact h
set_option maxRecDepth 100000 in
set_option maxHeartbeats 16000000 in
theorem clip_cut (ax t : Int) (ab : Bool) (X : Option Addr) (cap : Nat) (L : List (Int × Int)) (hax : ax = 0 ∨ ax = 1) (hS : Small L) (w : World) (hr : RingAt w X L) :
    Calls Try.prog 21 #[.agg #[.int .i64 ax, .int .i64 t, .bool ab], .slice X L.length cap] w fun e w' => ∃ v, e = .returned v ∧ w'.ownsRow w.heap.size 26 2 v (cutL ax t ab L).length (rgRow (cutL ax t ab L)) ∧ Below w.heap.size w w' := by
  have HR := Lib.hid (fun W (hb : Below w.heap.size w W) => hr.bl hb)
  have HA := Lib.hid hS.at'
  have h100 : L.length ≤ 100 := hS.1
  have HKP := Lib.hid (fun x y => clip_keeps ax t x y ab hax)
  have HBT := Lib.hid (fun x y u v => clip_between ax t x y u v ab hax)
  have HCR := Lib.hid (fun x y u v h1 h2 h3 h4 h5 h6 h7 h8 hb => clip_cross ax t x y u v ab hax h1 h2 h3 h4 h5 h6 h7 h8 hb)
  have HLN := Lib.hid (cutN_len ax t ab L)
  obtain ⟨i0, hi, hz0, hz1, hz2⟩ := info_parts info_A2
  clear hr hS
  obtain ⟨N, hN⟩ : ∃ N, L.length = N := ⟨_, rfl⟩
  have HN := Lib.hid hN
  have HST : Hid (∀ k, cutN ax t ab L (k + 1) = cutN ax t ab L k ++ cutS ax t ab (L.getD k (0, 0)) (L.getD ((k + 1) % N) (0, 0))) := Lib.hid (fun k => by rw [← hN]; rfl)
  have HEND : Hid (cutL ax t ab L = cutN ax t ab L N) := Lib.hid (by rw [← hN]; rfl)
  rw [hN] at h100 ⊢
  have hNI : (N : Int) ≤ 100 := by omega
  clear hN hax
  go_enter Try.func21, Try.ntmps21
  go_wp2_with fail
  refine wp_start (fun V0 => V0.cell? ⟨w.heap.size, 0, none⟩ = some (.int .i64 ax) ∧ V0.cell? ⟨w.heap.size, 1, none⟩ = some (.int .i64 t) ∧ V0.cell? ⟨w.heap.size, 2, none⟩ = some (.bool ab) ∧ Below w.heap.size w V0) ⟨by first | with_reducible assumption | (simp [go_sem]; done), by first | with_reducible assumption | (simp [go_sem]; done), by first | with_reducible assumption | (simp [go_sem]; done), by repeat (first | with_reducible exact Below.refl _ _ | with_reducible refine bl_alloc ?_ _ | with_reducible refine bl_drewN ?_ _ | with_reducible refine bl_drew ?_ | (with_reducible refine bl_set ?_ ?_ _; rotate_left; focus (first | (simp; done) | (simp; omega) | omega)) | with_reducible refine below_step ?_ (Bw.below _) | with_reducible refine below_step ?_ (by assumption))⟩ ?_
  rintro V0 ⟨hta1, hta2, hta3, hWta⟩ gta
  have ta1 := Bw.hold hta1
  have ta2 := Bw.hold hta2
  have ta3 := Bw.hold hta3
  have taz1 := fun g : Bw V0 => cell_lt (ta1 g)
  have tay1 := fun g : Bw V0 => Nat.le_of_lt (taz1 g)
  clear hta1 hta2 hta3
  go_loopg [5, 11] N (fun n v i W => ∃ k : Nat, k + n = N ∧ i = .int .i64 (k : Int) ∧ W.ownsRow V0.heap.size 26 2 v (cutN ax t ab L k).length (rgRow (cutN ax t ab L k)) ∧ Below V0.heap.size V0 W)
  case atStart => exact ⟨0, by omega, rfl, World.ownsRow_nil _ _ _ _, by repeat (first | with_reducible exact Below.refl _ _ | with_reducible refine bl_alloc ?_ _ | with_reducible refine bl_drewN ?_ _ | with_reducible refine bl_drew ?_ | (with_reducible refine bl_set ?_ ?_ _; rotate_left; focus (first | (simp; done) | (simp; omega) | omega)) | with_reducible refine below_step ?_ (Bw.below _) | with_reducible refine below_step ?_ (by assumption))⟩
  case round =>
    obtain ⟨k, hk, rfl, hown, hb⟩ := hrel
    rcases (show k < N ∨ k = N by omega) with hlt | hlt
    · obtain ⟨g, rfl⟩ := bw_of hb
      clear hb
      have hring := HR.out g.out (below_step hWta (Bw.below g))
      obtain ⟨gr, o, rfl, c1, c2⟩ := hring k (by rw [HN.out]; exact hlt)
      obtain ⟨m, hm⟩ : ∃ m, (k + 1) % N = m := ⟨_, rfl⟩
      have hmN : m < N := by rw [← hm]; exact Nat.mod_lt _ (by omega)
      obtain ⟨gr', o', e', d1, d2⟩ := hring m (by rw [HN.out]; exact hmN)
      cases e'
      obtain ⟨b1, b2, b3, b4⟩ := HA.out k (by rw [HN.out]; exact hlt)
      obtain ⟨b5, b6, b7, b8⟩ := HA.out m (by rw [HN.out]; exact hmN)
      have hst := HST.out k
      rw [hm] at hst
      have hln := HLN.out k
      have htm : ((k : Int) + 1).tmod (N : Int) = (m : Int) := by
        rw [Int.tmod_eq_emod_of_nonneg (by omega), ← hm, Int.natCast_emod]
        push_cast
        rfl
      have hmI : (m : Int) < (N : Int) := by omega
      have hkI : (k : Int) < (N : Int) := by omega
      have hN0 : ¬ (N : Int) = 0 := by omega
      obtain ⟨⟨x, y⟩, hp⟩ : ∃ p, L.getD k (0, 0) = p := ⟨_, rfl⟩
      obtain ⟨⟨u, v⟩, hq⟩ : ∃ q, L.getD m (0, 0) = q := ⟨_, rfl⟩
      rw [hp, hq] at hst
      rw [hp] at c1 c2 b1 b2 b3 b4
      rw [hq] at d1 d2 b5 b6 b7 b8
      change g.out.cell? _ = some (.int .i64 x) at c1
      change g.out.cell? _ = some (.int .i64 y) at c2
      change g.out.cell? _ = some (.int .i64 u) at d1
      change g.out.cell? _ = some (.int .i64 v) at d2
      change -536870912 ≤ x at b1
      change x ≤ 536870912 at b2
      change -536870912 ≤ y at b3
      change y ≤ 536870912 at b4
      change -536870912 ≤ u at b5
      change u ≤ 536870912 at b6
      change -536870912 ≤ v at b7
      change v ≤ 536870912 at b8
      have HKPx := HKP.out x y
      have HBTx := HBT.out x y u v
      have HCRx := HCR.out x y u v (by omega) (by omega) (by omega) (by omega) (by omega) (by omega) (by omega) (by omega)
      have hSt := Lib.hid hst
      unfold cutS at hst
      obtain ⟨M, hM⟩ : ∃ M, cutN ax t ab L k = M := ⟨_, rfl⟩
      rw [hM] at hown hln hst
      have hm1 : M.length + 1 + 1 + 1 ≤ maxLen := by unfold maxLen; omega
      have hm2 : (M.length + 1 + 1 + 1) * 16 ≤ 140737488355328 := by omega
      have hgr := cell_lt c1
      clear hring hp hq hm hM hSt
      go_wp2_with fail
      refine calls_start (fun V1 => V1.cell? ⟨w.heap.size, 0, none⟩ = some (.int .i64 ax) ∧ V1.cell? ⟨w.heap.size, 1, none⟩ = some (.int .i64 t) ∧ V1.cell? ⟨w.heap.size, 2, none⟩ = some (.bool ab) ∧ V1.cell? ⟨g.out.heap.size, 0, none⟩ = some (.int .i64 x) ∧ V1.cell? ⟨g.out.heap.size, 1, none⟩ = some (.int .i64 y) ∧ V1.cell? ⟨g.out.heap.size + 1, 0, none⟩ = some (.int .i64 u) ∧ V1.cell? ⟨g.out.heap.size + 1, 1, none⟩ = some (.int .i64 v) ∧ V1.ownsRow V0.heap.size 26 2 u5 M.length (rgRow M) ∧ Below V0.heap.size V0 V1) ⟨by first | with_reducible assumption | (simp [go_sem]; done) | with_reducible exact hold_al ta1 _ _ | with_reducible exact hold_al ta2 _ _ | with_reducible exact hold_al ta3 _ _ | (simp [go_sem, ta1, ta2, ta3, taz1, tay1]; done), by first | with_reducible assumption | (simp [go_sem]; done) | with_reducible exact hold_al ta1 _ _ | with_reducible exact hold_al ta2 _ _ | with_reducible exact hold_al ta3 _ _ | (simp [go_sem, ta1, ta2, ta3, taz1, tay1]; done), by first | with_reducible assumption | (simp [go_sem]; done) | with_reducible exact hold_al ta1 _ _ | with_reducible exact hold_al ta2 _ _ | with_reducible exact hold_al ta3 _ _ | (simp [go_sem, ta1, ta2, ta3, taz1, tay1]; done), by first | with_reducible assumption | (simp [go_sem]; done) | with_reducible exact hold_al ta1 _ _ | with_reducible exact hold_al ta2 _ _ | with_reducible exact hold_al ta3 _ _ | (simp [go_sem, ta1, ta2, ta3, taz1, tay1]; done), by first | with_reducible assumption | (simp [go_sem]; done) | with_reducible exact hold_al ta1 _ _ | with_reducible exact hold_al ta2 _ _ | with_reducible exact hold_al ta3 _ _ | (simp [go_sem, ta1, ta2, ta3, taz1, tay1]; done), by first | with_reducible assumption | (simp [go_sem]; done) | with_reducible exact hold_al ta1 _ _ | with_reducible exact hold_al ta2 _ _ | with_reducible exact hold_al ta3 _ _ | (simp [go_sem, ta1, ta2, ta3, taz1, tay1]; done), by first | with_reducible assumption | (simp [go_sem]; done) | with_reducible exact hold_al ta1 _ _ | with_reducible exact hold_al ta2 _ _ | with_reducible exact hold_al ta3 _ _ | (simp [go_sem, ta1, ta2, ta3, taz1, tay1]; done), own_bl hown (by repeat (first | with_reducible exact Below.refl _ _ | with_reducible refine bl_alloc ?_ _ | with_reducible refine bl_drewN ?_ _ | with_reducible refine bl_drew ?_ | (with_reducible refine bl_set ?_ ?_ _; rotate_left; focus (first | (simp; done) | (simp; omega) | omega)) | with_reducible refine below_step ?_ (Bw.below _) | with_reducible refine below_step ?_ (by assumption))), by repeat (first | with_reducible exact Below.refl _ _ | with_reducible refine bl_alloc ?_ _ | with_reducible refine bl_drewN ?_ _ | with_reducible refine bl_drew ?_ | (with_reducible refine bl_set ?_ ?_ _; rotate_left; focus (first | (simp; done) | (simp; omega) | omega)) | with_reducible refine below_step ?_ (Bw.below _) | with_reducible refine below_step ?_ (by assumption))⟩ ?_
      rintro V1 ⟨htb1, htb2, htb3, htb4, htb5, htb6, htb7, hownA, hWtb⟩ gtb
      have tb1 := Bw.hold htb1
      have tb2 := Bw.hold htb2
      have tb3 := Bw.hold htb3
      have tb4 := Bw.hold htb4
      have tb5 := Bw.hold htb5
      have tb6 := Bw.hold htb6
      have tb7 := Bw.hold htb7
      have tbz1 := fun g : Bw V1 => cell_lt (tb1 g)
      have tby1 := fun g : Bw V1 => Nat.le_of_lt (tbz1 g)
      have tbz4 := fun g : Bw V1 => cell_lt (tb4 g)
      have tby4 := fun g : Bw V1 => Nat.le_of_lt (tbz4 g)
      have tbz6 := fun g : Bw V1 => cell_lt (tb6 g)
      have tby6 := fun g : Bw V1 => Nat.le_of_lt (tbz6 g)
      clear htb1 htb2 htb3 htb4 htb5 htb6 htb7
      have hlow : ∀ b, g.out.heap.size ≤ b → u5.ownBlock ≠ some b := fun b hb => own_ne hown hb
      clear hown c1 c2 d1 d2
      rcases hkp : kpB ax t ab (x, y) with _ | _
      · rw [hkp] at HKPx hst
        have KP := Lib.hid HKPx
        clear HKPx hkp
        refine (KP.out _).mono ?_
        rintro e_1 w_1 ⟨rfl, hb_1⟩
        obtain ⟨g2, rfl⟩ := gtb.next hb_1
        clear hb_1
        go_wp2_with fail
        refine calls_start (fun V2 => V2.cell? ⟨w.heap.size, 0, none⟩ = some (.int .i64 ax) ∧ V2.cell? ⟨w.heap.size, 1, none⟩ = some (.int .i64 t) ∧ V2.cell? ⟨w.heap.size, 2, none⟩ = some (.bool ab) ∧ V2.cell? ⟨g.out.heap.size, 0, none⟩ = some (.int .i64 x) ∧ V2.cell? ⟨g.out.heap.size, 1, none⟩ = some (.int .i64 y) ∧ V2.cell? ⟨g.out.heap.size + 1, 0, none⟩ = some (.int .i64 u) ∧ V2.cell? ⟨g.out.heap.size + 1, 1, none⟩ = some (.int .i64 v) ∧ V2.ownsRow V0.heap.size 26 2 u5 M.length (rgRow M) ∧ Below V0.heap.size V0 V2) ⟨by first | with_reducible assumption | (simp [go_sem]; done) | with_reducible exact hold_al tb1 _ _ | with_reducible exact hold_al tb2 _ _ | with_reducible exact hold_al tb3 _ _ | with_reducible exact hold_al tb4 _ _ | with_reducible exact hold_al tb5 _ _ | with_reducible exact hold_al tb6 _ _ | with_reducible exact hold_al tb7 _ _ | (simp [go_sem, tb1, tb2, tb3, tb4, tb5, tb6, tb7, tbz1, tby1, tbz4, tby4, tbz6, tby6]; done), by first | with_reducible assumption | (simp [go_sem]; done) | with_reducible exact hold_al tb1 _ _ | with_reducible exact hold_al tb2 _ _ | with_reducible exact hold_al tb3 _ _ | with_reducible exact hold_al tb4 _ _ | with_reducible exact hold_al tb5 _ _ | with_reducible exact hold_al tb6 _ _ | with_reducible exact hold_al tb7 _ _ | (simp [go_sem, tb1, tb2, tb3, tb4, tb5, tb6, tb7, tbz1, tby1, tbz4, tby4, tbz6, tby6]; done), by first | with_reducible assumption | (simp [go_sem]; done) | with_reducible exact hold_al tb1 _ _ | with_reducible exact hold_al tb2 _ _ | with_reducible exact hold_al tb3 _ _ | with_reducible exact hold_al tb4 _ _ | with_reducible exact hold_al tb5 _ _ | with_reducible exact hold_al tb6 _ _ | with_reducible exact hold_al tb7 _ _ | (simp [go_sem, tb1, tb2, tb3, tb4, tb5, tb6, tb7, tbz1, tby1, tbz4, tby4, tbz6, tby6]; done), by first | with_reducible assumption | (simp [go_sem]; done) | with_reducible exact hold_al tb1 _ _ | with_reducible exact hold_al tb2 _ _ | with_reducible exact hold_al tb3 _ _ | with_reducible exact hold_al tb4 _ _ | with_reducible exact hold_al tb5 _ _ | with_reducible exact hold_al tb6 _ _ | with_reducible exact hold_al tb7 _ _ | (simp [go_sem, tb1, tb2, tb3, tb4, tb5, tb6, tb7, tbz1, tby1, tbz4, tby4, tbz6, tby6]; done), by first | with_reducible assumption | (simp [go_sem]; done) | with_reducible exact hold_al tb1 _ _ | with_reducible exact hold_al tb2 _ _ | with_reducible exact hold_al tb3 _ _ | with_reducible exact hold_al tb4 _ _ | with_reducible exact hold_al tb5 _ _ | with_reducible exact hold_al tb6 _ _ | with_reducible exact hold_al tb7 _ _ | (simp [go_sem, tb1, tb2, tb3, tb4, tb5, tb6, tb7, tbz1, tby1, tbz4, tby4, tbz6, tby6]; done), by first | with_reducible assumption | (simp [go_sem]; done) | with_reducible exact hold_al tb1 _ _ | with_reducible exact hold_al tb2 _ _ | with_reducible exact hold_al tb3 _ _ | with_reducible exact hold_al tb4 _ _ | with_reducible exact hold_al tb5 _ _ | with_reducible exact hold_al tb6 _ _ | with_reducible exact hold_al tb7 _ _ | (simp [go_sem, tb1, tb2, tb3, tb4, tb5, tb6, tb7, tbz1, tby1, tbz4, tby4, tbz6, tby6]; done), by first | with_reducible assumption | (simp [go_sem]; done) | with_reducible exact hold_al tb1 _ _ | with_reducible exact hold_al tb2 _ _ | with_reducible exact hold_al tb3 _ _ | with_reducible exact hold_al tb4 _ _ | with_reducible exact hold_al tb5 _ _ | with_reducible exact hold_al tb6 _ _ | with_reducible exact hold_al tb7 _ _ | (simp [go_sem, tb1, tb2, tb3, tb4, tb5, tb6, tb7, tbz1, tby1, tbz4, tby4, tbz6, tby6]; done), own_bl hownA (by repeat (first | with_reducible exact Below.refl _ _ | with_reducible refine bl_alloc ?_ _ | with_reducible refine bl_drewN ?_ _ | with_reducible refine bl_drew ?_ | (with_reducible refine bl_set ?_ ?_ _; rotate_left; focus (first | (simp; done) | (simp; omega) | omega)) | with_reducible refine below_step ?_ (Bw.below _) | with_reducible refine below_step ?_ (by assumption))), by repeat (first | with_reducible exact Below.refl _ _ | with_reducible refine bl_alloc ?_ _ | with_reducible refine bl_drewN ?_ _ | with_reducible refine bl_drew ?_ | (with_reducible refine bl_set ?_ ?_ _; rotate_left; focus (first | (simp; done) | (simp; omega) | omega)) | with_reducible refine below_step ?_ (Bw.below _) | with_reducible refine below_step ?_ (by assumption))⟩ ?_
        rintro V2 ⟨htd1, htd2, htd3, htd4, htd5, htd6, htd7, hownA, hWtd⟩ gtd
        have td1 := Bw.hold htd1
        have td2 := Bw.hold htd2
        have td3 := Bw.hold htd3
        have td4 := Bw.hold htd4
        have td5 := Bw.hold htd5
        have td6 := Bw.hold htd6
        have td7 := Bw.hold htd7
        have tdz1 := fun g : Bw V2 => cell_lt (td1 g)
        have tdy1 := fun g : Bw V2 => Nat.le_of_lt (tdz1 g)
        have tdz4 := fun g : Bw V2 => cell_lt (td4 g)
        have tdy4 := fun g : Bw V2 => Nat.le_of_lt (tdz4 g)
        have tdz6 := fun g : Bw V2 => cell_lt (td6 g)
        have tdy6 := fun g : Bw V2 => Nat.le_of_lt (tdz6 g)
        clear htd1 htd2 htd3 htd4 htd5 htd6 htd7
        have hownB := hownA
        clear tb1 tb2 tb3 tb4 tb5 tb6 tb7 tbz1 tby1 tbz4 tby4 tbz6 tby6
        rcases hbt : btB ax t (x, y) (u, v) with _ | _
        · rw [hbt] at HBTx hst
          have BT := Lib.hid HBTx
          clear HBTx HCRx hbt
          refine (BT.out _).mono ?_
          rintro e_2 w_2 ⟨rfl, hb_2⟩
          obtain ⟨g4, rfl⟩ := gtd.next hb_2
          clear hb_2
          have hownC := own_bl hownB g4.below
          go_wp2_with fail
          go_roundg (N - (k + 1))
          case measure => omega
          case rel => exact ⟨k + 1, by omega, by go_num, by rw [hst]; simpa using hownC, below_step hWtd g4.below⟩
        · have CR0 := HCRx hbt
          rw [hbt] at HBTx hst
          have BT := Lib.hid HBTx
          have CR := Lib.hid CR0
          clear HBTx HCRx hbt CR0
          obtain ⟨⟨cx, cy⟩, hc⟩ : ∃ c, crP ax t (x, y) (u, v) = c := ⟨_, rfl⟩
          rw [hc] at CR hst
          clear hc
          refine (BT.out _).mono ?_
          rintro e_2 w_2 ⟨rfl, hb_2⟩
          obtain ⟨g4, rfl⟩ := gtd.next hb_2
          clear hb_2
          go_wp2_with fail
          refine (CR.out _).mono ?_
          rintro e_3 w_3 ⟨rfl, hb_3⟩
          obtain ⟨g5, rfl⟩ := g4.next hb_3
          clear hb_3
          have hownC := own_bl hownB g5.below
          go_wp2_with (at_builtin; refine wpList_append_own _ rfl (.tmp 35) (.tmp 40) 23 rfl V0.heap.size 26 i0 (.agg #[.int .i64 0, .int .i64 0]) 2 16 Try.underlying23 hi hz0 hz1 hz2 rfl (by decide) _ _ _ rfl (hownC.alloc _) ⟨g5.out.heap.size, 0, none⟩ 1 1 [.int .i64 cx, .int .i64 cy] rfl rfl (news2 _ _ _ _) (ones2 _ _ _ _) (by first | omega | (simp only [List.length_append, List.length_cons, List.length_nil]; omega)) (by first | omega | (simp only [List.length_append, List.length_cons, List.length_nil]; omega)) (Nat.le_trans (Nat.le_trans hWtd.size g5.below.size) (bl_alloc (Below.refl g5.out.heap.size g5.out) (.cells #[.int .i64 cx, .int .i64 cy] 26)).size) ?_)
          intro v'' w6 hown6 hgrow6 _
          have hV6 : Below V0.heap.size V0 w6 := bl_grown (hownC.alloc _) (Nat.le_refl _) hgrow6 (bl_alloc (below_step hWtd g5.below) _)
          have hown7 := own_push hown6 (by simp)
          clear hownC hgrow6 hown6
          go_wp2_with fail
          go_roundg (N - (k + 1))
          case measure => omega
          case rel => exact ⟨k + 1, by omega, by go_num, by rw [hst]; simpa using hown7, hV6⟩
      · rw [hkp] at HKPx hst
        have KP := Lib.hid HKPx
        clear HKPx hkp
        refine (KP.out _).mono ?_
        rintro e_1 w_1 ⟨rfl, hb_1⟩
        obtain ⟨g2, rfl⟩ := gtb.next hb_1
        clear hb_1
        have hownC := own_bl hownA g2.below
        go_wp2_with (at_builtin; refine wpList_append_own _ rfl (.tmp 27) (.tmp 29) 23 rfl V0.heap.size 26 i0 (.agg #[.int .i64 0, .int .i64 0]) 2 16 Try.underlying23 hi hz0 hz1 hz2 rfl (by decide) _ _ _ rfl (hownC.alloc _) ⟨g2.out.heap.size, 0, none⟩ 1 1 [.int .i64 x, .int .i64 y] rfl rfl (news2 _ _ _ _) (ones2 _ _ _ _) (by omega) (by omega) (Nat.le_trans (Nat.le_trans hWtb.size g2.below.size) (bl_alloc (Below.refl g2.out.heap.size g2.out) (.cells #[.int .i64 x, .int .i64 y] 26)).size) ?_)
        intro v' w3 hown3 hgrow _
        have hV3 : Below V0.heap.size V0 w3 := bl_grown (hownC.alloc _) (Nat.le_refl _) hgrow (bl_alloc (below_step hWtb g2.below) _)
        have p1 := gr_other hgrow ((cell_al (tbz4 g2) _).trans (tb4 g2)) (hlow _ (Nat.le_refl _))
        have p2 := gr_other hgrow ((cell_al (tbz4 g2) _).trans (tb5 g2)) (hlow _ (Nat.le_refl _))
        have p3 := gr_other hgrow ((cell_al (tbz6 g2) _).trans (tb6 g2)) (hlow _ (Nat.le_succ _))
        have p4 := gr_other hgrow ((cell_al (tbz6 g2) _).trans (tb7 g2)) (hlow _ (Nat.le_succ _))
        have hownD := own_push hown3 rfl
        clear hownC hgrow hown3 hownA
        clear tb1 tb2 tb3 tb4 tb5 tb6 tb7 tbz1 tby1 tbz4 tby4 tbz6 tby6
        obtain ⟨g3, rfl⟩ := bw_of hV3
        clear hV3
        go_wp2_with fail
        refine calls_start (fun V2 => V2.cell? ⟨w.heap.size, 0, none⟩ = some (.int .i64 ax) ∧ V2.cell? ⟨w.heap.size, 1, none⟩ = some (.int .i64 t) ∧ V2.cell? ⟨w.heap.size, 2, none⟩ = some (.bool ab) ∧ V2.cell? ⟨g.out.heap.size, 0, none⟩ = some (.int .i64 x) ∧ V2.cell? ⟨g.out.heap.size, 1, none⟩ = some (.int .i64 y) ∧ V2.cell? ⟨g.out.heap.size + 1, 0, none⟩ = some (.int .i64 u) ∧ V2.cell? ⟨g.out.heap.size + 1, 1, none⟩ = some (.int .i64 v) ∧ V2.ownsRow V0.heap.size 26 2 v' (M ++ [(x, y)]).length (rgRow (M ++ [(x, y)])) ∧ Below V0.heap.size V0 V2) ⟨by first | with_reducible assumption | (simp [go_sem]; done) | with_reducible exact hold_al ta1 _ _ | with_reducible exact hold_al ta2 _ _ | with_reducible exact hold_al ta3 _ _ | (simp [go_sem, ta1, ta2, ta3, taz1, tay1]; done), by first | with_reducible assumption | (simp [go_sem]; done) | with_reducible exact hold_al ta1 _ _ | with_reducible exact hold_al ta2 _ _ | with_reducible exact hold_al ta3 _ _ | (simp [go_sem, ta1, ta2, ta3, taz1, tay1]; done), by first | with_reducible assumption | (simp [go_sem]; done) | with_reducible exact hold_al ta1 _ _ | with_reducible exact hold_al ta2 _ _ | with_reducible exact hold_al ta3 _ _ | (simp [go_sem, ta1, ta2, ta3, taz1, tay1]; done), by first | with_reducible assumption | (simp [go_sem]; done) | with_reducible exact hold_al ta1 _ _ | with_reducible exact hold_al ta2 _ _ | with_reducible exact hold_al ta3 _ _ | (simp [go_sem, ta1, ta2, ta3, taz1, tay1]; done), by first | with_reducible assumption | (simp [go_sem]; done) | with_reducible exact hold_al ta1 _ _ | with_reducible exact hold_al ta2 _ _ | with_reducible exact hold_al ta3 _ _ | (simp [go_sem, ta1, ta2, ta3, taz1, tay1]; done), by first | with_reducible assumption | (simp [go_sem]; done) | with_reducible exact hold_al ta1 _ _ | with_reducible exact hold_al ta2 _ _ | with_reducible exact hold_al ta3 _ _ | (simp [go_sem, ta1, ta2, ta3, taz1, tay1]; done), by first | with_reducible assumption | (simp [go_sem]; done) | with_reducible exact hold_al ta1 _ _ | with_reducible exact hold_al ta2 _ _ | with_reducible exact hold_al ta3 _ _ | (simp [go_sem, ta1, ta2, ta3, taz1, tay1]; done), own_bl hownD (by repeat (first | with_reducible exact Below.refl _ _ | with_reducible refine bl_alloc ?_ _ | with_reducible refine bl_drewN ?_ _ | with_reducible refine bl_drew ?_ | (with_reducible refine bl_set ?_ ?_ _; rotate_left; focus (first | (simp; done) | (simp; omega) | omega)) | with_reducible refine below_step ?_ (Bw.below _) | with_reducible refine below_step ?_ (by assumption))), by repeat (first | with_reducible exact Below.refl _ _ | with_reducible refine bl_alloc ?_ _ | with_reducible refine bl_drewN ?_ _ | with_reducible refine bl_drew ?_ | (with_reducible refine bl_set ?_ ?_ _; rotate_left; focus (first | (simp; done) | (simp; omega) | omega)) | with_reducible refine below_step ?_ (Bw.below _) | with_reducible refine below_step ?_ (by assumption))⟩ ?_
        rintro V2 ⟨htd1, htd2, htd3, htd4, htd5, htd6, htd7, hownB, hWtd⟩ gtd
        have td1 := Bw.hold htd1
        have td2 := Bw.hold htd2
        have td3 := Bw.hold htd3
        have td4 := Bw.hold htd4
        have td5 := Bw.hold htd5
        have td6 := Bw.hold htd6
        have td7 := Bw.hold htd7
        have tdz1 := fun g : Bw V2 => cell_lt (td1 g)
        have tdy1 := fun g : Bw V2 => Nat.le_of_lt (tdz1 g)
        have tdz4 := fun g : Bw V2 => cell_lt (td4 g)
        have tdy4 := fun g : Bw V2 => Nat.le_of_lt (tdz4 g)
        have tdz6 := fun g : Bw V2 => cell_lt (td6 g)
        have tdy6 := fun g : Bw V2 => Nat.le_of_lt (tdz6 g)
        clear htd1 htd2 htd3 htd4 htd5 htd6 htd7
        clear p1 p2 p3 p4 hownD
        rcases hbt : btB ax t (x, y) (u, v) with _ | _
        · rw [hbt] at HBTx hst
          have BT := Lib.hid HBTx
          clear HBTx HCRx hbt
          refine (BT.out _).mono ?_
          rintro e_2 w_2 ⟨rfl, hb_2⟩
          obtain ⟨g4, rfl⟩ := gtd.next hb_2
          clear hb_2
          have hownC := own_bl hownB g4.below
          go_wp2_with fail
          go_roundg (N - (k + 1))
          case measure => omega
          case rel => exact ⟨k + 1, by omega, by go_num, by rw [hst]; simpa using hownC, below_step hWtd g4.below⟩
        · have CR0 := HCRx hbt
          rw [hbt] at HBTx hst
          have BT := Lib.hid HBTx
          have CR := Lib.hid CR0
          clear HBTx HCRx hbt CR0
          obtain ⟨⟨cx, cy⟩, hc⟩ : ∃ c, crP ax t (x, y) (u, v) = c := ⟨_, rfl⟩
          rw [hc] at CR hst
          clear hc
          refine (BT.out _).mono ?_
          rintro e_2 w_2 ⟨rfl, hb_2⟩
          obtain ⟨g4, rfl⟩ := gtd.next hb_2
          clear hb_2
          go_wp2_with fail
          refine (CR.out _).mono ?_
          rintro e_3 w_3 ⟨rfl, hb_3⟩
          obtain ⟨g5, rfl⟩ := g4.next hb_3
          clear hb_3
          have hownC := own_bl hownB g5.below
          go_wp2_with (at_builtin; refine wpList_append_own _ rfl (.tmp 35) (.tmp 40) 23 rfl V0.heap.size 26 i0 (.agg #[.int .i64 0, .int .i64 0]) 2 16 Try.underlying23 hi hz0 hz1 hz2 rfl (by decide) _ _ _ rfl (hownC.alloc _) ⟨g5.out.heap.size, 0, none⟩ 1 1 [.int .i64 cx, .int .i64 cy] rfl rfl (news2 _ _ _ _) (ones2 _ _ _ _) (by first | omega | (simp only [List.length_append, List.length_cons, List.length_nil]; omega)) (by first | omega | (simp only [List.length_append, List.length_cons, List.length_nil]; omega)) (Nat.le_trans (Nat.le_trans hWtd.size g5.below.size) (bl_alloc (Below.refl g5.out.heap.size g5.out) (.cells #[.int .i64 cx, .int .i64 cy] 26)).size) ?_)
          intro v'' w6 hown6 hgrow6 _
          have hV6 : Below V0.heap.size V0 w6 := bl_grown (hownC.alloc _) (Nat.le_refl _) hgrow6 (bl_alloc (below_step hWtd g5.below) _)
          have hown7 := own_push hown6 (by simp)
          clear hownC hgrow6 hown6
          go_wp2_with fail
          go_roundg (N - (k + 1))
          case measure => omega
          case rel => exact ⟨k + 1, by omega, by go_num, by rw [hst]; simpa using hown7, hV6⟩
    · subst hlt
      rw [← HEND.out] at hown
      have hown' := Lib.hid hown
      clear hown
      go_wp2_with fail
      go_ret
      exact ⟨_, rfl, own_mono hown'.out hWta.size, below_step hWta hb⟩
end Go.Proofs.Ytnmehelejdbjaaa


/- The walks of clip's Side, Floor and In, of any ring. -/
import Derived.Test.YtnmehelejdbjaaaClip
import Derived.Test.YtnmehelejdbjaaaCutR
import Derived.Test.YtnmehelejdbjaaaBox
namespace Go.Proofs.Ytnmehelejdbjaaa
open Go.RowKit
set_option linter.unusedSimpArgs false
set_option linter.unusedVariables false
/-- What Side tells of any ring. -/
def sdL (ax t : Int) (ab : Bool) (L : List (Int × Int)) : List (Int × Int) := if (ax = 0 ∨ ax = 1) ∧ okrB L = true then cutL ax t ab L else []
theorem sdL_no {ax t : Int} {ab : Bool} {L : List (Int × Int)} (h : ¬ (ax = 0 ∨ ax = 1) ∨ okrB L = false) : sdL ax t ab L = [] := by
  unfold sdL
  rw [if_neg]
  rintro ⟨h1, h2⟩
  rcases h with h | h
  · exact h h1
  · rw [h] at h2; cases h2
theorem sdL_yes {ax t : Int} {ab : Bool} {L : List (Int × Int)} (h : ax = 0 ∨ ax = 1) (h2 : okrB L = true) : sdL ax t ab L = cutL ax t ab L := if_pos ⟨h, h2⟩
theorem sdL_len (ax t : Int) (ab : Bool) (L : List (Int × Int)) : (sdL ax t ab L).length ≤ 200 := by
  rcases h : okrB L with _ | _
  · rw [sdL_no (.inr h)]; simp
  · by_cases h2 : ax = 0 ∨ ax = 1
    · rw [sdL_yes h2 h]
      have := cutN_len ax t ab L L.length
      have h3 := (okr_of h).1
      unfold cutL
      omega
    · rw [sdL_no (.inl h2)]; simp
theorem own_nil9 (w : World) (B : Nat) (e : TypeId) : w.ownsRow B e 2 (.slice none 0 0) ([] : List (Int × Int)).length (rgRow []) := World.ownsRow_nil _ _ _ _
set_option maxHeartbeats 1000000 in
theorem clip_sideY (ax t : Int) (ab : Bool) (X : Option Addr) (cap : Nat) (L : List (Int × Int)) (hax : ax = 0 ∨ ax = 1) (hS : okrB L = true) (hcap : L.length ≤ cap) (w : World) (hr : RingAt w X L) :
    Calls Try.prog 10 #[.slice X L.length cap, .int .i64 ax, .int .i64 t, .bool ab] w fun e w' => ∃ v, e = .returned v ∧ w'.ownsRow w.heap.size 26 2 v (cutL ax t ab L).length (rgRow (cutL ax t ab L)) ∧ Below w.heap.size w w' := by
  have OK := Lib.hid (clip_okr X cap L hcap (by have := (okr_of hS).1; omega) w hr)
  have CU := Lib.hid (fun (w' : World) (hb : Below w.heap.size w w') => clip_cutR ax t ab X cap L hax (okr_of hS) w' (hr.bl hb))
  have a1 : ¬ ax < 0 := by omega
  have a2 : ¬ 1 < ax := by omega
  rw [hS] at OK
  clear hax hS hr
  generalize L.length = N at *
  go_enter Try.func10, Try.ntmps10
  go_wp2_with fail
  refine (OK.out).mono ?_
  rintro e_1 w_1 ⟨rfl, hb_1⟩
  have CU1 := Lib.hid (CU.out w_1 hb_1)
  go_wp2_with fail
  refine (CU1.out).mono ?_
  rintro e_2 w_2 ⟨v, rfl, hown, hb_2⟩
  have hown' := Lib.hid hown
  clear hown
  go_wp2_with fail
  go_ret
  exact ⟨_, rfl, own_mono hown'.out hb_1.size, below_step hb_1 hb_2⟩
set_option maxHeartbeats 1000000 in
theorem clip_sideR (ax t : Int) (ab : Bool) (X : Option Addr) (cap : Nat) (L : List (Int × Int)) (hlen : L.length ≤ 1000) (hcap : L.length ≤ cap) (w : World) (hr : RingAt w X L) :
    Calls Try.prog 10 #[.slice X L.length cap, .int .i64 ax, .int .i64 t, .bool ab] w fun e w' => ∃ v, e = .returned v ∧ w'.ownsRow w.heap.size 26 2 v (sdL ax t ab L).length (rgRow (sdL ax t ab L)) ∧ Below w.heap.size w w' := by
  by_cases hax : ax = 0 ∨ ax = 1
  · rcases hB : okrB L with _ | _
    · rw [sdL_no (.inr hB)]
      have OK := clip_okr X cap L hcap hlen w hr
      rw [hB] at OK
      have a1 : ¬ ax < 0 := by omega
      have a2 : ¬ 1 < ax := by omega
      have HOK := Lib.hid OK
      clear hax hB OK hr
      generalize L.length = N at *
      go_enter Try.func10, Try.ntmps10
      go_wp2_with fail
      refine (HOK.out).mono ?_
      rintro e_1 w_1 ⟨rfl, hb_1⟩
      go_wp2_with fail
      go_ret
      exact ⟨_, rfl, own_nil9 _ _ _, hb_1⟩
    · rw [sdL_yes hax hB]
      exact clip_sideY ax t ab X cap L hax hB hcap w hr
  · rw [sdL_no (.inl hax)]
    clear hr
    generalize L.length = N at *
    rcases (show ax < 0 ∨ (¬ ax < 0 ∧ 1 < ax) by omega) with h | ⟨h1, h2⟩
    · clear hax
      go_enter Try.func10, Try.ntmps10
      go_wp2_with fail
      go_ret
      exact ⟨_, rfl, own_nil9 _ _ _, by repeat (first | with_reducible exact Below.refl _ _ | with_reducible refine bl_alloc ?_ _ | with_reducible refine bl_drewN ?_ _ | with_reducible refine bl_drew ?_ | (with_reducible refine bl_set ?_ ?_ _; rotate_left; focus (first | (simp; done) | (simp; omega) | omega)) | with_reducible refine below_step ?_ (Bw.below _) | with_reducible refine below_step ?_ (by assumption))⟩
    · clear hax
      go_enter Try.func10, Try.ntmps10
      go_wp2_with fail
      go_ret
      exact ⟨_, rfl, own_nil9 _ _ _, by repeat (first | with_reducible exact Below.refl _ _ | with_reducible refine bl_alloc ?_ _ | with_reducible refine bl_drewN ?_ _ | with_reducible refine bl_drew ?_ | (with_reducible refine bl_set ?_ ?_ _; rotate_left; focus (first | (simp; done) | (simp; omega) | omega)) | with_reducible refine below_step ?_ (Bw.below _) | with_reducible refine below_step ?_ (by assumption))⟩
def flR (d : Int) (L : List (Int × Int)) : List (Int × Int) := if 1 ≤ d ∧ okrB L = true then flL d L else []
set_option maxRecDepth 100000 in
set_option maxHeartbeats 8000000 in
theorem clip_floorY (X : Option Addr) (cap : Nat) (L : List (Int × Int)) (d : Int) (hd : 1 ≤ d) (hd' : d ≤ 9223372036854775807) (hB : okrB L = true) (hcap : L.length ≤ cap) (w : World) (hr : RingAt w X L) :
    Calls Try.prog 16 #[.slice X L.length cap, .int .i64 d] w fun e w' => ∃ v, e = .returned v ∧ w'.ownsRow w.heap.size 26 2 v (flL d L).length (rgRow (flL d L)) ∧ Below w.heap.size w w' := by
  have hS := okr_of hB
  have HR := Lib.hid (fun W (hb : Below w.heap.size w W) => hr.bl hb)
  have OK := Lib.hid (clip_okr X cap L hcap (by have := hS.1; omega) w hr)
  have HA := Lib.hid hS.at'
  have HT := Lib.hid (flL_take d L)
  have HE : Hid (flL d L = flL d (L.take L.length)) := Lib.hid (by rw [List.take_length])
  have h100 : L.length ≤ 100 := hS.1
  obtain ⟨i0, hi, hz0, hz1, hz2⟩ := info_parts info_A2
  have HLN : Hid (∀ k, (flL d (L.take k)).length ≤ k) := Lib.hid fun k => by unfold flL; rw [List.length_map, List.length_take]; omega
  rw [hB] at OK
  clear hr hS hB
  obtain ⟨N, hN⟩ : ∃ N, L.length = N := ⟨_, rfl⟩
  have HN := Lib.hid hN
  rw [hN] at h100 hcap OK HE ⊢
  have hd0 : ¬ d < 1 := by omega
  clear hN
  go_enter Try.func16, Try.ntmps16
  go_wp2_with fail
  refine (OK.out).mono ?_
  rintro e_1 w_1 ⟨rfl, hb_1⟩
  go_wp2_with fail
  go_loopg [5, 23] N (fun n v i W => ∃ k : Nat, k + n = N ∧ i = .int .i64 (k : Int) ∧ W.ownsRow w_1.heap.size 26 2 v (flL d (L.take k)).length (rgRow (flL d (L.take k))) ∧ Below w_1.heap.size w_1 W)
  case atStart => exact ⟨0, by omega, rfl, World.ownsRow_nil _ _ _ _, Below.refl _ _⟩
  case round =>
    obtain ⟨k, hk, rfl, hown, hb⟩ := hrel
    rcases (show k < N ∨ k = N by omega) with hlt | hlt
    · obtain ⟨g, rfl⟩ := bw_of hb
      clear hb
      obtain ⟨gr, o, rfl, c1, c2⟩ := HR.out g.out (below_step hb_1 (Bw.below g)) k (by rw [HN.out]; exact hlt)
      obtain ⟨b1, b2, b3, b4⟩ := HA.out k (by rw [HN.out]; exact hlt)
      have hst := HT.out k (by rw [HN.out]; exact hlt)
      have hln := HLN.out k
      have hgr := cell_lt c1
      obtain ⟨M, hM⟩ : ∃ M, flL d (L.take k) = M := ⟨_, rfl⟩
      rw [hM] at hown hln hst
      generalize (L.getD k (0, 0)).1 = x at *
      generalize (L.getD k (0, 0)).2 = y at *
      have F1 := num_floor_pos x d (by omega) (by omega) (by omega) (by omega)
      have F2 := num_floor_pos y d (by omega) (by omega) (by omega) (by omega)
      have HF1 := Lib.hid F1
      have HF2 := Lib.hid F2
      have hSt := Lib.hid hst
      have hm1 : M.length + 1 + 1 ≤ maxLen := by unfold maxLen; omega
      have hm2 : (M.length + 1 + 1) * 16 ≤ 140737488355328 := by omega
      have hkI : (k : Int) < (N : Int) := by omega
      clear F1 F2 hst hM
      generalize x / d = fx at *
      generalize y / d = fy at *
      generalize x % d = rx at *
      generalize y % d = ry at *
      go_wp2_with fail
      refine calls_start (fun V1 => V1.cell? ⟨g.out.heap.size, 0, none⟩ = some (.int .i64 x) ∧ V1.cell? ⟨g.out.heap.size, 1, none⟩ = some (.int .i64 y) ∧ V1.ownsRow w_1.heap.size 26 2 u5 M.length (rgRow M) ∧ Below w_1.heap.size w_1 V1) ⟨by first | with_reducible assumption | (simp [go_sem]; done), by first | with_reducible assumption | (simp [go_sem]; done), own_bl hown (by repeat (first | with_reducible exact Below.refl _ _ | with_reducible refine bl_alloc ?_ _ | with_reducible refine bl_drewN ?_ _ | with_reducible refine bl_drew ?_ | (with_reducible refine bl_set ?_ ?_ _; rotate_left; focus (first | (simp; done) | (simp; omega) | omega)) | with_reducible refine below_step ?_ (Bw.below _) | with_reducible refine below_step ?_ (by assumption))), by repeat (first | with_reducible exact Below.refl _ _ | with_reducible refine bl_alloc ?_ _ | with_reducible refine bl_drewN ?_ _ | with_reducible refine bl_drew ?_ | (with_reducible refine bl_set ?_ ?_ _; rotate_left; focus (first | (simp; done) | (simp; omega) | omega)) | with_reducible refine below_step ?_ (Bw.below _) | with_reducible refine below_step ?_ (by assumption))⟩ ?_
      rintro V1 ⟨htb1, htb2, hownA, hWtb⟩ gtb
      have tb1 := Bw.hold htb1
      have tb2 := Bw.hold htb2
      have tbz1 := fun g : Bw V1 => cell_lt (tb1 g)
      have tby1 := fun g : Bw V1 => Nat.le_of_lt (tbz1 g)
      clear htb1 htb2
      clear hown c1 c2
      refine (HF1.out _).mono ?_
      rintro e_2 w_2 ⟨rfl, n2, rfl⟩
      obtain ⟨g2, hg2⟩ := gtb.nextN n2
      rw [← hg2]
      clear hg2
      go_wp2_with fail
      refine (HF2.out _).mono ?_
      rintro e_3 w_3 ⟨rfl, n3, rfl⟩
      obtain ⟨g3, hg3⟩ := g2.nextN n3
      rw [← hg3]
      clear hg3
      have hownC := own_bl hownA g3.below
      go_wp2_with (at_builtin; refine wpList_append_own _ rfl (.tmp 43) (.tmp 47) 23 rfl w_1.heap.size 26 i0 (.agg #[.int .i64 0, .int .i64 0]) 2 16 Try.underlying23 hi hz0 hz1 hz2 rfl (by decide) _ _ _ rfl (hownC.alloc _) ⟨g3.out.heap.size, 0, none⟩ 1 1 [.int .i64 fx, .int .i64 fy] rfl rfl (news2 _ _ _ _) (ones2 _ _ _ _) (by omega) (by omega) (Nat.le_trans (Nat.le_trans hWtb.size g3.below.size) (bl_alloc (Below.refl g3.out.heap.size g3.out) (.cells #[.int .i64 fx, .int .i64 fy] 26)).size) ?_)
      intro v' w6 hown6 hgrow6 _
      have hV6 : Below w_1.heap.size w_1 w6 := bl_grown (hownC.alloc _) (Nat.le_refl _) hgrow6 (bl_alloc (below_step hWtb g3.below) _)
      have hown7 := own_push hown6 rfl
      clear hownC hgrow6 hown6
      go_wp2_with fail
      go_roundg (N - (k + 1))
      case measure => omega
      case rel => exact ⟨k + 1, by omega, by go_num, by rw [hSt.out]; exact hown7, hV6⟩
    · subst hlt
      rw [← HE.out] at hown
      have hown' := Lib.hid hown
      clear hown
      go_wp2_with fail
      go_ret
      exact ⟨_, rfl, own_mono hown'.out hb_1.size, below_step hb_1 hb⟩
set_option maxHeartbeats 1000000 in
theorem clip_floorR (X : Option Addr) (cap : Nat) (L : List (Int × Int)) (d : Int) (hd' : d ≤ 9223372036854775807) (hlen : L.length ≤ 1000) (hcap : L.length ≤ cap) (w : World) (hr : RingAt w X L) :
    Calls Try.prog 16 #[.slice X L.length cap, .int .i64 d] w fun e w' => ∃ v, e = .returned v ∧ w'.ownsRow w.heap.size 26 2 v (flR d L).length (rgRow (flR d L)) ∧ Below w.heap.size w w' := by
  by_cases hd : 1 ≤ d
  · rcases hB : okrB L with _ | _
    · rw [show flR d L = [] from if_neg (by rw [hB]; simp)]
      have OK := clip_okr X cap L hcap hlen w hr
      rw [hB] at OK
      have a1 : ¬ d < 1 := by omega
      have HOK := Lib.hid OK
      clear hd hB OK hr
      generalize L.length = N at *
      go_enter Try.func16, Try.ntmps16
      go_wp2_with fail
      refine (HOK.out).mono ?_
      rintro e_1 w_1 ⟨rfl, hb_1⟩
      go_wp2_with fail
      go_ret
      exact ⟨_, rfl, own_nil9 _ _ _, hb_1⟩
    · rw [show flR d L = flL d L from if_pos ⟨hd, hB⟩]
      exact clip_floorY X cap L d hd hd' hB hcap w hr
  · rw [show flR d L = [] from if_neg (fun h => hd h.1)]
    have h1 : d < 1 := by omega
    clear hr hd
    generalize L.length = N at *
    go_enter Try.func16, Try.ntmps16
    go_wp2_with fail
    go_ret
    exact ⟨_, rfl, own_nil9 _ _ _, by repeat (first | with_reducible exact Below.refl _ _ | with_reducible refine bl_alloc ?_ _ | with_reducible refine bl_drewN ?_ _ | with_reducible refine bl_drew ?_ | (with_reducible refine bl_set ?_ ?_ _; rotate_left; focus (first | (simp; done) | (simp; omega) | omega)) | with_reducible refine below_step ?_ (Bw.below _) | with_reducible refine below_step ?_ (by assumption))⟩
/-- Whether all corners lie in a box. -/
def inR (lx ly hx hy : Int) (L : List (Int × Int)) : Bool := okrB L && L.all fun p => decide (lx ≤ p.1 ∧ p.1 ≤ hx ∧ ly ≤ p.2 ∧ p.2 ≤ hy)
theorem inR_bad {lx ly hx hy : Int} {L : List (Int × Int)} (j : Nat) (hj : j < L.length) (h : ¬ (lx ≤ (L.getD j (0, 0)).1 ∧ (L.getD j (0, 0)).1 ≤ hx ∧ ly ≤ (L.getD j (0, 0)).2 ∧ (L.getD j (0, 0)).2 ≤ hy)) : inR lx ly hx hy L = false := by
  unfold inR
  rw [Bool.and_eq_false_iff]
  refine .inr ?_
  rw [List.all_eq_false]
  exact ⟨_, getD_mem9 L j hj, by simpa using h⟩
theorem inR_all {lx ly hx hy : Int} {L : List (Int × Int)} (hB : okrB L = true) (h : ∀ j, j < L.length → lx ≤ (L.getD j (0, 0)).1 ∧ (L.getD j (0, 0)).1 ≤ hx ∧ ly ≤ (L.getD j (0, 0)).2 ∧ (L.getD j (0, 0)).2 ≤ hy) : inR lx ly hx hy L = true := by
  unfold inR
  rw [hB, Bool.true_and, List.all_eq_true]
  intro p hp
  obtain ⟨j, hj, rfl⟩ := mem_getD9 L p hp
  exact decide_eq_true (h j hj)
theorem inR_no {lx ly hx hy : Int} {L : List (Int × Int)} (hB : okrB L = false) : inR lx ly hx hy L = false := by
  unfold inR
  rw [hB, Bool.false_and]
set_option maxRecDepth 100000 in
set_option maxHeartbeats 4000000 in
theorem clip_inR (X : Option Addr) (cap : Nat) (L : List (Int × Int)) (lx ly hx hy : Int) (hlen : L.length ≤ 1000) (hcap : L.length ≤ cap) (w : World) (hr : RingAt w X L) :
    Calls Try.prog 14 #[.slice X L.length cap, .agg #[.int .i64 lx, .int .i64 ly], .agg #[.int .i64 hx, .int .i64 hy]] w fun e w' => e = .returned (.bool (inR lx ly hx hy L)) ∧ Below w.heap.size w w' := by
  have HR := Lib.hid (fun W (hb : Below w.heap.size w W) => hr.bl hb)
  have OK := Lib.hid (fun W (hb : Below w.heap.size w W) => clip_okr X cap L hcap hlen W (hr.bl hb))
  have HBAD := Lib.hid (inR_bad (lx := lx) (ly := ly) (hx := hx) (hy := hy) (L := L))
  have HALL := Lib.hid (inR_all (lx := lx) (ly := ly) (hx := hx) (hy := hy) (L := L))
  have HNO := Lib.hid (inR_no (lx := lx) (ly := ly) (hx := hx) (hy := hy) (L := L))
  clear hr
  obtain ⟨N, hN⟩ : ∃ N, L.length = N := ⟨_, rfl⟩
  have HN := Lib.hid hN
  rw [hN] at hlen hcap OK ⊢
  clear hN
  generalize inR lx ly hx hy L = B at *
  rcases hB : okrB L with _ | _
  · have e0 := HNO.out hB
    rw [hB] at OK
    rw [e0]
    clear HBAD HALL HNO e0 hB
    go_enter Try.func14, Try.ntmps14
    go_wp2_with fail
    refine calls_start (fun V => V.cell? ⟨w.heap.size, 0, none⟩ = some (.int .i64 lx) ∧ V.cell? ⟨w.heap.size, 1, none⟩ = some (.int .i64 ly) ∧ V.cell? ⟨w.heap.size + 1, 0, none⟩ = some (.int .i64 hx) ∧ V.cell? ⟨w.heap.size + 1, 1, none⟩ = some (.int .i64 hy) ∧ Below w.heap.size w V) ⟨by first | with_reducible assumption | (simp [go_sem]; done), by first | with_reducible assumption | (simp [go_sem]; done), by first | with_reducible assumption | (simp [go_sem]; done), by first | with_reducible assumption | (simp [go_sem]; done), by repeat (first | with_reducible exact Below.refl _ _ | with_reducible refine bl_alloc ?_ _ | with_reducible refine bl_drewN ?_ _ | with_reducible refine bl_drew ?_ | (with_reducible refine bl_set ?_ ?_ _; rotate_left; focus (first | (simp; done) | (simp; omega) | omega)) | with_reducible refine below_step ?_ (Bw.below _) | with_reducible refine below_step ?_ (by assumption))⟩ ?_
    rintro V ⟨hta1, hta2, hta3, hta4, hWta⟩ gta
    have ta1 := Bw.hold hta1
    have ta2 := Bw.hold hta2
    have ta3 := Bw.hold hta3
    have ta4 := Bw.hold hta4
    have taz1 := fun g : Bw V => cell_lt (ta1 g)
    have tay1 := fun g : Bw V => Nat.le_of_lt (taz1 g)
    have taz3 := fun g : Bw V => cell_lt (ta3 g)
    have tay3 := fun g : Bw V => Nat.le_of_lt (taz3 g)
    clear hta1 hta2 hta3 hta4
    refine (OK.out gta.out (below_step hWta gta.below)).mono ?_
    rintro e_1 w_1 ⟨rfl, hb_1⟩
    obtain ⟨g1, rfl⟩ := gta.next hb_1
    go_wp2_with fail
    go_ret
    exact ⟨rfl, below_step hWta (Bw.below g1)⟩
  rw [hB] at OK
  have HBY := Lib.hid hB
  have h100 : N ≤ 100 := by have := (okr_of hB).1; rw [HN.out] at this; exact this
  clear hB HNO
  go_enter Try.func14, Try.ntmps14
  go_wp2_with fail
  refine calls_start (fun V => V.cell? ⟨w.heap.size, 0, none⟩ = some (.int .i64 lx) ∧ V.cell? ⟨w.heap.size, 1, none⟩ = some (.int .i64 ly) ∧ V.cell? ⟨w.heap.size + 1, 0, none⟩ = some (.int .i64 hx) ∧ V.cell? ⟨w.heap.size + 1, 1, none⟩ = some (.int .i64 hy) ∧ Below w.heap.size w V) ⟨by first | with_reducible assumption | (simp [go_sem]; done), by first | with_reducible assumption | (simp [go_sem]; done), by first | with_reducible assumption | (simp [go_sem]; done), by first | with_reducible assumption | (simp [go_sem]; done), by repeat (first | with_reducible exact Below.refl _ _ | with_reducible refine bl_alloc ?_ _ | with_reducible refine bl_drewN ?_ _ | with_reducible refine bl_drew ?_ | (with_reducible refine bl_set ?_ ?_ _; rotate_left; focus (first | (simp; done) | (simp; omega) | omega)) | with_reducible refine below_step ?_ (Bw.below _) | with_reducible refine below_step ?_ (by assumption))⟩ ?_
  rintro V ⟨hta1, hta2, hta3, hta4, hWta⟩ gta
  have ta1 := Bw.hold hta1
  have ta2 := Bw.hold hta2
  have ta3 := Bw.hold hta3
  have ta4 := Bw.hold hta4
  have taz1 := fun g : Bw V => cell_lt (ta1 g)
  have tay1 := fun g : Bw V => Nat.le_of_lt (taz1 g)
  have taz3 := fun g : Bw V => cell_lt (ta3 g)
  have tay3 := fun g : Bw V => Nat.le_of_lt (taz3 g)
  clear hta1 hta2 hta3 hta4
  refine (OK.out gta.out (below_step hWta gta.below)).mono ?_
  rintro e_1 w_1 ⟨rfl, hb_1⟩
  obtain ⟨g1, rfl⟩ := gta.next hb_1
  clear hb_1 OK
  go_wp2_with fail
  go_loopg [16] N (fun n k W => ∃ j : Nat, j + n = N ∧ k = .int .i64 (j : Int) ∧ (∀ i, i < j → lx ≤ (L.getD i (0, 0)).1 ∧ (L.getD i (0, 0)).1 ≤ hx ∧ ly ≤ (L.getD i (0, 0)).2 ∧ (L.getD i (0, 0)).2 ≤ hy) ∧ Below V.heap.size V W)
  case atStart => exact ⟨0, by omega, rfl, fun i h => by omega, Bw.below g1⟩
  case round =>
    obtain ⟨j, hj, rfl, hG, hb⟩ := hrel
    have HG := Lib.hid hG
    clear hG
    obtain ⟨g, rfl⟩ := bw_of hb
    clear hb
    rcases (show j < N ∨ j = N by omega) with hlt | hlt
    · have hring := HR.out g.out (below_step hWta (Bw.below g))
      obtain ⟨gr, o, rfl, c1, c2⟩ := hring j (by rw [HN.out]; exact hlt)
      have hbad := HBAD.out j (by rw [HN.out]; exact hlt)
      have HBJ := Lib.hid hbad
      have HXY : Hid ((L.getD j (0, 0)).1 = (L.getD j (0, 0)).1 ∧ (L.getD j (0, 0)).2 = (L.getD j (0, 0)).2) := Lib.hid ⟨rfl, rfl⟩
      have hgr := cell_lt c1
      clear hring hbad
      obtain ⟨x, hxx⟩ : ∃ x, (L.getD j (0, 0)).1 = x := ⟨_, rfl⟩
      obtain ⟨y, hyy⟩ : ∃ y, (L.getD j (0, 0)).2 = y := ⟨_, rfl⟩
      rw [hxx] at c1 HBJ
      rw [hyy] at c2 HBJ
      have HXX := Lib.hid hxx
      have HYY := Lib.hid hyy
      clear hxx hyy HXY
      have x0 : ∀ w : World, (Instr.index 26 (.agg #[.int .i64 x, .int .i64 y]) (.int .i64 0)).run Try.prog w = .ok (.int .i64 x) w := fun _ => by kernel_rfl
      have x1 : ∀ w : World, (Instr.index 26 (.agg #[.int .i64 x, .int .i64 y]) (.int .i64 1)).run Try.prog w = .ok (.int .i64 y) w := fun _ => by kernel_rfl
      have hjI : (j : Int) < (N : Int) := by omega
      go_wp2_with fail
      refine wp_start (fun V2 => V2.cell? ⟨w.heap.size, 0, none⟩ = some (.int .i64 lx) ∧ V2.cell? ⟨w.heap.size, 1, none⟩ = some (.int .i64 ly) ∧ V2.cell? ⟨w.heap.size + 1, 0, none⟩ = some (.int .i64 hx) ∧ V2.cell? ⟨w.heap.size + 1, 1, none⟩ = some (.int .i64 hy) ∧ Below V.heap.size V V2) ⟨by first | with_reducible assumption | (simp [go_sem]; done) | with_reducible exact hold_al ta1 _ _ | with_reducible exact hold_al ta2 _ _ | with_reducible exact hold_al ta3 _ _ | with_reducible exact hold_al ta4 _ _ | (simp [go_sem, ta1, ta2, ta3, ta4, taz1, tay1, taz3, tay3]; done), by first | with_reducible assumption | (simp [go_sem]; done) | with_reducible exact hold_al ta1 _ _ | with_reducible exact hold_al ta2 _ _ | with_reducible exact hold_al ta3 _ _ | with_reducible exact hold_al ta4 _ _ | (simp [go_sem, ta1, ta2, ta3, ta4, taz1, tay1, taz3, tay3]; done), by first | with_reducible assumption | (simp [go_sem]; done) | with_reducible exact hold_al ta1 _ _ | with_reducible exact hold_al ta2 _ _ | with_reducible exact hold_al ta3 _ _ | with_reducible exact hold_al ta4 _ _ | (simp [go_sem, ta1, ta2, ta3, ta4, taz1, tay1, taz3, tay3]; done), by first | with_reducible assumption | (simp [go_sem]; done) | with_reducible exact hold_al ta1 _ _ | with_reducible exact hold_al ta2 _ _ | with_reducible exact hold_al ta3 _ _ | with_reducible exact hold_al ta4 _ _ | (simp [go_sem, ta1, ta2, ta3, ta4, taz1, tay1, taz3, tay3]; done), by repeat (first | with_reducible exact Below.refl _ _ | with_reducible refine bl_alloc ?_ _ | with_reducible refine bl_drewN ?_ _ | with_reducible refine bl_drew ?_ | (with_reducible refine bl_set ?_ ?_ _; rotate_left; focus (first | (simp; done) | (simp; omega) | omega)) | with_reducible refine below_step ?_ (Bw.below _) | with_reducible refine below_step ?_ (by assumption))⟩ ?_
      rintro V2 ⟨htb1, htb2, htb3, htb4, hWtb⟩ gtb
      have tb1 := Bw.hold htb1
      have tb2 := Bw.hold htb2
      have tb3 := Bw.hold htb3
      have tb4 := Bw.hold htb4
      have tbz1 := fun g : Bw V2 => cell_lt (tb1 g)
      have tby1 := fun g : Bw V2 => Nat.le_of_lt (tbz1 g)
      have tbz3 := fun g : Bw V2 => cell_lt (tb3 g)
      have tby3 := fun g : Bw V2 => Nat.le_of_lt (tbz3 g)
      clear htb1 htb2 htb3 htb4
      clear c1 c2
      go_loopg [21] 2 (fun n m W => ∃ i : Nat, i + n = 2 ∧ m = .int .i64 (i : Int) ∧ (0 < i → lx ≤ x ∧ x ≤ hx) ∧ (1 < i → ly ≤ y ∧ y ≤ hy) ∧ Below V2.heap.size V2 W)
      case atStart => exact ⟨0, by omega, rfl, fun h => by omega, fun h => by omega, Bw.below gtb⟩
      case round =>
        obtain ⟨i, hi, rfl, hi1, hi2, hb⟩ := hrel
        obtain ⟨g2, rfl⟩ := bw_of hb
        clear hb
        rcases (show i = 0 ∨ i = 1 ∨ i = 2 by omega) with h | h | h
        · subst h
          clear hi1 hi2
          by_cases k1 : x < lx
          · have HE0 := Lib.hid (HBJ.out (by omega))
            clear HBJ HALL HBAD
            go_wp2_with fail
            go_ret
            exact ⟨by rw [HE0.out]; rfl, below_step hWta (below_step hWtb (Bw.below g2))⟩
          by_cases k2 : hx < x
          · have HE0 := Lib.hid (HBJ.out (by omega))
            clear HBJ HALL HBAD
            go_wp2_with fail
            go_ret
            exact ⟨by rw [HE0.out]; rfl, below_step hWta (below_step hWtb (Bw.below g2))⟩
          clear HBJ HALL HBAD
          go_wp2_with fail
          go_roundg 1
          case measure => omega
          case rel => exact ⟨1, by omega, by first | rfl | go_num, fun _ => by omega, fun h => by omega, Bw.below g2⟩
        · subst h
          have hi3 := hi1 (by omega)
          clear hi1 hi2
          by_cases k1 : y < ly
          · have HE0 := Lib.hid (HBJ.out (by omega))
            clear HBJ HALL HBAD
            go_wp2_with fail
            go_ret
            exact ⟨by rw [HE0.out]; rfl, below_step hWta (below_step hWtb (Bw.below g2))⟩
          by_cases k2 : hy < y
          · have HE0 := Lib.hid (HBJ.out (by omega))
            clear HBJ HALL HBAD
            go_wp2_with fail
            go_ret
            exact ⟨by rw [HE0.out]; rfl, below_step hWta (below_step hWtb (Bw.below g2))⟩
          clear HBJ HALL HBAD
          go_wp2_with fail
          go_roundg 0
          case measure => omega
          case rel => exact ⟨2, by omega, by first | rfl | go_num, fun _ => hi3, fun _ => by omega, Bw.below g2⟩
        · subst h
          have HI1 := Lib.hid (hi1 (by omega))
          have HI2 := Lib.hid (hi2 (by omega))
          clear hi1 hi2 HBJ HALL HBAD
          go_wp2_with fail
          go_roundg (N - (j + 1))
          case measure => omega
          case rel => exact ⟨j + 1, by omega, by go_num, fun i h => by
            rcases (show i < j ∨ i = j by omega) with h2 | h2
            · exact HG.out i h2
            · subst h2
              rw [HXX.out, HYY.out]
              exact ⟨HI1.out.1, HI1.out.2, HI2.out.1, HI2.out.2⟩, below_step hWtb (Bw.below g2)⟩
    · subst hlt
      have HE0 := Lib.hid (HALL.out HBY.out (fun i hi => HG.out i (by rw [HN.out] at hi; exact hi)))
      clear HALL HBAD
      go_wp2_with fail
      go_ret
      exact ⟨by rw [HE0.out]; rfl, below_step hWta (Bw.below g)⟩
end Go.Proofs.Ytnmehelejdbjaaa

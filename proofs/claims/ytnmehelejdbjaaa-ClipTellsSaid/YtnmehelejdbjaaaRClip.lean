
/- The walks of the reference's Clip and Floors, of any ring. -/
import Derived.Test.YtnmehelejdbjaaaBoxR
import Derived.Test.YtnmehelejdbjaaaRSide
import Derived.Deep.RegionHeld3
namespace Go.Proofs.Ytnmehelejdbjaaa
open Go.RowKit
set_option linter.unusedSimpArgs false
set_option linter.unusedVariables false
theorem side_step (ax t : Int) (ab : Bool) (L M : List (Int × Int)) (hM : sdL ax t ab L = M) (hlen : L.length ≤ 1000) (W : World) (Y : Option Addr) (c : Nat) (hr : RingAt W Y L) :
    Calls Try.prog 17 #[.slice Y L.length c, .int .i64 ax, .int .i64 t, .bool ab] W fun e w' => ∃ Y' c', e = .returned (.slice Y' M.length c') ∧ M.length ≤ c' ∧ RingAt w' Y' M ∧ Below W.heap.size W w' := by
  subst hM
  refine (ref_sideR ax t ab Y c L hlen W hr).mono ?_
  rintro e w' ⟨v, rfl, hown, hb⟩
  obtain ⟨Y', c', rfl, hc, hr'⟩ := own_ring2 hown
  exact ⟨Y', c', rfl, hc, hr', hb⟩
set_option maxRecDepth 100000 in
set_option maxHeartbeats 4000000 in
theorem ref_clipR (X : Option Addr) (cap : Nat) (L : List (Int × Int)) (lx ly hx hy : Int) (hlen : L.length ≤ 1000) (w : World) (hr : RingAt w X L) :
    Calls Try.prog 18 #[.slice X L.length cap, .agg #[.int .i64 lx, .int .i64 ly], .agg #[.int .i64 hx, .int .i64 hy]] w fun e w' => ∃ X' cap', e = .returned (.slice X' (boxR lx ly hx hy L).length cap') ∧ (boxR lx ly hx hy L).length ≤ cap' ∧ RingAt w' X' (boxR lx ly hx hy L) ∧ Below w.heap.size w w' := by
  obtain ⟨L1, h1⟩ : ∃ M, sdL 0 lx true L = M := ⟨_, rfl⟩
  obtain ⟨L2, h2⟩ : ∃ M, sdL 0 hx false L1 = M := ⟨_, rfl⟩
  obtain ⟨L3, h3⟩ : ∃ M, sdL 1 ly true L2 = M := ⟨_, rfl⟩
  obtain ⟨L4, h4⟩ : ∃ M, sdL 1 hy false L3 = M := ⟨_, rfl⟩
  have h5 : boxR lx ly hx hy L = L4 := by rw [← h4, ← h3, ← h2, ← h1]; rfl
  have l1 : L1.length ≤ 1000 := by rw [← h1]; exact Nat.le_trans (sdL_len _ _ _ _) (by decide)
  have l2 : L2.length ≤ 1000 := by rw [← h2]; exact Nat.le_trans (sdL_len _ _ _ _) (by decide)
  have l3 : L3.length ≤ 1000 := by rw [← h3]; exact Nat.le_trans (sdL_len _ _ _ _) (by decide)
  rw [h5]
  have C1 := Lib.hid (fun (W : World) (hb : Below w.heap.size w W) => side_step 0 lx true L L1 h1 hlen W X cap (hr.bl hb))
  have C2 := Lib.hid (fun W Y c hr => side_step 0 hx false L1 L2 h2 l1 W Y c hr)
  have C3 := Lib.hid (fun W Y c hr => side_step 1 ly true L2 L3 h3 l2 W Y c hr)
  have C4 := Lib.hid (fun W Y c hr => side_step 1 hy false L3 L4 h4 l3 W Y c hr)
  clear h1 h2 h3 h4 h5 hr l1 l2 l3
  generalize L.length = n0 at *
  generalize L1.length = n1 at *
  generalize L2.length = n2 at *
  generalize L3.length = n3 at *
  obtain ⟨n4, hn4⟩ : ∃ n, L4.length = n := ⟨_, rfl⟩
  rw [hn4] at C4 ⊢
  clear hn4
  go_enter Try.func18, Try.ntmps18
  go_wp2_with fail
  refine wp_start (fun V => V.cell? ⟨w.heap.size, 0, none⟩ = some (.int .i64 lx) ∧ V.cell? ⟨w.heap.size, 1, none⟩ = some (.int .i64 ly) ∧ V.cell? ⟨w.heap.size + 1, 0, none⟩ = some (.int .i64 hx) ∧ V.cell? ⟨w.heap.size + 1, 1, none⟩ = some (.int .i64 hy) ∧ Below w.heap.size w V) ⟨by first | with_reducible assumption | (simp [go_sem]; done), by first | with_reducible assumption | (simp [go_sem]; done), by first | with_reducible assumption | (simp [go_sem]; done), by first | with_reducible assumption | (simp [go_sem]; done), by repeat (first | with_reducible exact Below.refl _ _ | with_reducible refine bl_alloc ?_ _ | with_reducible refine bl_drewN ?_ _ | with_reducible refine bl_drew ?_ | (with_reducible refine bl_set ?_ ?_ _; rotate_left; focus (first | (simp; done) | (simp; omega) | omega)) | with_reducible refine below_step ?_ (Bw.below _) | with_reducible refine below_step ?_ (by assumption))⟩ ?_
  rintro V ⟨hta1, hta2, hta3, hta4, hWta⟩ gta
  have ta1 := Bw.hold hta1
  have ta2 := Bw.hold hta2
  have ta3 := Bw.hold hta3
  have ta4 := Bw.hold hta4
  have taz1 := fun g : Bw V => cell_lt (ta1 g)
  have tay1 := fun g : Bw V => Nat.le_of_lt (taz1 g)
  have taz3 := fun g : Bw V => cell_lt (ta3 g)
  have tay3 := fun g : Bw V => Nat.le_of_lt (taz3 g)
  clear hta1 hta2 hta3 hta4
  have i1 := ta1 gta
  have i2 := ta2 gta
  have i3 := ta3 gta
  have i4 := ta4 gta
  have hWi := below_step hWta (Bw.below gta)
  clear ta1 ta2 ta3 ta4 taz1 tay1 taz3 tay3
  generalize Bw.out gta = V1 at *
  have smk : ∀ w' : World, Below V1.heap.size V1 w' → Below V1.heap.size V1 w' ∧ w'.cell? ⟨w.heap.size, 0, none⟩ = some (.int .i64 lx) ∧ w'.cell? ⟨w.heap.size, 1, none⟩ = some (.int .i64 ly) ∧ w'.cell? ⟨w.heap.size + 1, 0, none⟩ = some (.int .i64 hx) ∧ w'.cell? ⟨w.heap.size + 1, 1, none⟩ = some (.int .i64 hy) := fun w' hw => ⟨hw, bl_hold hw i1, bl_hold hw i2, bl_hold hw i3, bl_hold hw i4⟩
  have HWI := Lib.hid hWi
  clear hWi
  go_region_held3 (fun w' => Below V1.heap.size V1 w' ∧ w'.cell? ⟨w.heap.size, 0, none⟩ = some (.int .i64 lx) ∧ w'.cell? ⟨w.heap.size, 1, none⟩ = some (.int .i64 ly) ∧ w'.cell? ⟨w.heap.size + 1, 0, none⟩ = some (.int .i64 hx) ∧ w'.cell? ⟨w.heap.size + 1, 1, none⟩ = some (.int .i64 hy))
    (exact smk _ (by first | with_reducible assumption | (repeat (first | with_reducible exact Below.refl _ _ | with_reducible refine bl_drew ?_ | with_reducible exact And.left (by assumption) | with_reducible refine below_step ?_ (by assumption)))))
    (first
      | (go_at_call 17; refine (C4.out _ _ _ hr3).mono ?_; rintro e w9 ⟨Y4, c4, rfl, hc4, hr4, hb4⟩; have hv4 := below_step hv3 hb4)
      | (go_at_call 17; refine (C3.out _ _ _ hr2).mono ?_; rintro e w8 ⟨Y3, c3, rfl, hc3, hr3, hb3⟩; have hv3 := below_step hv2 hb3)
      | (go_at_call 17; refine (C2.out _ _ _ hr1).mono ?_; rintro e w7 ⟨Y2, c2, rfl, hc2, hr2, hb2⟩; have hv2 := below_step hv1 hb2)
      | (go_at_call 17; refine (C1.out _ (below_step HWI.out (bl_drew (Below.refl _ _)))).mono ?_; rintro e w6 ⟨Y1, c1, rfl, hc1, hr1, hb1⟩; have hv1 := below_step (bl_drew (Below.refl V1.heap.size V1)) hb1))
  go_wp2_with fail
  refine bodyPost_ret (v := .slice Y4 n4 c4) (by simp [results, Try.results18, go_sem]) rfl ⟨Y4, c4, rfl, hc4, hr4, below_step HWI.out hv4⟩
set_option maxRecDepth 100000 in
set_option maxHeartbeats 4000000 in
theorem ref_floorsY (X : Option Addr) (cap : Nat) (L : List (Int × Int)) (d : Int) (hd : 1 ≤ d) (hd' : d ≤ 9223372036854775807) (hB : okrB L = true) (w : World) (hr : RingAt w X L) :
    Calls Try.prog 19 #[.slice X L.length cap, .int .i64 d] w fun e w' => ∃ v, e = .returned v ∧ w'.ownsRow w.heap.size 26 2 v (flL d L).length (rgRow (flL d L)) ∧ Below w.heap.size w w' := by
  have hS := okr_of hB
  have FT := ref_fitsR X cap L (by have := hS.1; omega) w hr
  rw [hB] at FT
  have HFT := Lib.hid FT
  have HR := Lib.hid (fun W (hb : Below w.heap.size w W) => hr.bl hb)
  have HA := Lib.hid hS.at'
  have HT := Lib.hid (flL_take d L)
  have HE : Hid (flL d L = flL d (L.take L.length)) := Lib.hid (by rw [List.take_length])
  have h100 : L.length ≤ 100 := hS.1
  obtain ⟨i0, hi, hz0, hz1, hz2⟩ := info_parts info_A2
  have HLN : Hid (∀ k, (flL d (L.take k)).length ≤ k) := Lib.hid fun k => by unfold flL; rw [List.length_map, List.length_take]; omega
  clear hr hS FT hB
  obtain ⟨N, hN⟩ : ∃ N, L.length = N := ⟨_, rfl⟩
  have HN := Lib.hid hN
  rw [hN] at h100 HFT HE ⊢
  have hd0 : ¬ d < 1 := by omega
  clear hN
  go_enter Try.func19, Try.ntmps19
  go_wp2_with fail
  refine (HFT.out).mono ?_
  rintro e_1 w_1 ⟨rfl, hb_1⟩
  clear HFT
  go_wp2_with fail
  go_loopg [5, 6] N (fun n v i W => ∃ k : Nat, k + n = N ∧ i = .int .i64 (k : Int) ∧ W.ownsRow w_1.heap.size 26 2 v (flL d (L.take k)).length (rgRow (flL d (L.take k))) ∧ Below w_1.heap.size w_1 W)
  case atStart => exact ⟨0, by omega, rfl, World.ownsRow_nil _ _ _ _, by repeat (first | with_reducible exact Below.refl _ _ | with_reducible refine bl_alloc ?_ _ | with_reducible refine bl_drewN ?_ _ | with_reducible refine bl_drew ?_ | (with_reducible refine bl_set ?_ ?_ _; rotate_left; focus (first | (simp; done) | (simp; omega) | omega)) | with_reducible refine below_step ?_ (Bw.below _) | with_reducible refine below_step ?_ (by assumption))⟩
  case round =>
    obtain ⟨k, hk, rfl, hown, hb⟩ := hrel
    rcases (show k < N ∨ k = N by omega) with hlt | hlt
    · obtain ⟨gr, o, rfl, c1, c2⟩ := HR.out wr (below_step hb_1 hb) k (by rw [HN.out]; exact hlt)
      obtain ⟨b1, b2, b3, b4⟩ := HA.out k (by rw [HN.out]; exact hlt)
      have hst := HT.out k (by rw [HN.out]; exact hlt)
      have hln := HLN.out k
      obtain ⟨M, hM⟩ : ∃ M, flL d (L.take k) = M := ⟨_, rfl⟩
      rw [hM] at hown hln hst
      generalize (L.getD k (0, 0)).1 = x at *
      generalize (L.getD k (0, 0)).2 = y at *
      have HF1 := Lib.hid (ref_floor9 x d (by omega) (by omega) (by omega) (by omega))
      have HF2 := Lib.hid (ref_floor9 y d (by omega) (by omega) (by omega) (by omega))
      have hSt := Lib.hid hst
      have hm1 : M.length + 1 + 1 ≤ maxLen := by unfold maxLen; omega
      have hm2 : (M.length + 1 + 1) * 16 ≤ 140737488355328 := by omega
      have hkI : (k : Int) < (N : Int) := by omega
      clear hst hM
      generalize x / d = fx at *
      generalize y / d = fy at *
      generalize x % d = rx at *
      generalize y % d = ry at *
      go_wp2_with fail
      refine (HF1.out _).mono ?_
      rintro e_2 w_2 ⟨rfl, n2, rfl⟩
      have c2' := bl_hold (show Below wr.heap.size wr (World.drewN wr n2) by repeat (first | with_reducible exact Below.refl _ _ | with_reducible refine bl_alloc ?_ _ | with_reducible refine bl_drewN ?_ _ | with_reducible refine bl_drew ?_ | (with_reducible refine bl_set ?_ ?_ _; rotate_left; focus (first | (simp; done) | (simp; omega) | omega)) | with_reducible refine below_step ?_ (Bw.below _) | with_reducible refine below_step ?_ (by assumption))) c2
      have hown2 := own_bl hown (show Below wr.heap.size wr (World.drewN wr n2) by repeat (first | with_reducible exact Below.refl _ _ | with_reducible refine bl_alloc ?_ _ | with_reducible refine bl_drewN ?_ _ | with_reducible refine bl_drew ?_ | (with_reducible refine bl_set ?_ ?_ _; rotate_left; focus (first | (simp; done) | (simp; omega) | omega)) | with_reducible refine below_step ?_ (Bw.below _) | with_reducible refine below_step ?_ (by assumption)))
      have hb2 := below_step hb (show Below wr.heap.size wr (World.drewN wr n2) by repeat (first | with_reducible exact Below.refl _ _ | with_reducible refine bl_alloc ?_ _ | with_reducible refine bl_drewN ?_ _ | with_reducible refine bl_drew ?_ | (with_reducible refine bl_set ?_ ?_ _; rotate_left; focus (first | (simp; done) | (simp; omega) | omega)) | with_reducible refine below_step ?_ (Bw.below _) | with_reducible refine below_step ?_ (by assumption)))
      clear c1 c2 hown hb
      generalize World.drewN wr n2 = w2 at *
      go_wp2_with fail
      refine (HF2.out _).mono ?_
      rintro e_3 w_3 ⟨rfl, n3, rfl⟩
      have hown3 := own_bl hown2 (show Below w2.heap.size w2 (World.drewN w2 n3) by repeat (first | with_reducible exact Below.refl _ _ | with_reducible refine bl_alloc ?_ _ | with_reducible refine bl_drewN ?_ _ | with_reducible refine bl_drew ?_ | (with_reducible refine bl_set ?_ ?_ _; rotate_left; focus (first | (simp; done) | (simp; omega) | omega)) | with_reducible refine below_step ?_ (Bw.below _) | with_reducible refine below_step ?_ (by assumption)))
      have hb3 := below_step hb2 (show Below w2.heap.size w2 (World.drewN w2 n3) by repeat (first | with_reducible exact Below.refl _ _ | with_reducible refine bl_alloc ?_ _ | with_reducible refine bl_drewN ?_ _ | with_reducible refine bl_drew ?_ | (with_reducible refine bl_set ?_ ?_ _; rotate_left; focus (first | (simp; done) | (simp; omega) | omega)) | with_reducible refine below_step ?_ (Bw.below _) | with_reducible refine below_step ?_ (by assumption)))
      clear c2' hown2 hb2
      generalize World.drewN w2 n3 = w3 at *
      go_wp2_with (at_builtin; refine wpList_append_own _ rfl (.tmp 48) (.tmp 52) 23 rfl w_1.heap.size 26 i0 (.agg #[.int .i64 0, .int .i64 0]) 2 16 Try.underlying23 hi hz0 hz1 hz2 rfl (by decide) _ _ _ rfl (hown3.alloc _) ⟨w3.heap.size, 0, none⟩ 1 1 [.int .i64 fx, .int .i64 fy] rfl rfl (news2 _ _ _ _) (ones2 _ _ _ _) (by omega) (by omega) (Nat.le_trans hb3.size (bl_alloc (Below.refl w3.heap.size w3) (.cells #[.int .i64 fx, .int .i64 fy] 26)).size) ?_)
      intro v' w6 hown6 hgrow6 _
      have hV6 : Below w_1.heap.size w_1 w6 := bl_grown (hown3.alloc _) (Nat.le_refl _) hgrow6 (bl_alloc hb3 _)
      have hown7 := own_push hown6 rfl
      clear hown3 hgrow6 hown6
      have HOWN := Lib.hid hown7
      clear hown7
      go_wp2_with fail
      go_roundg (N - (k + 1))
      case measure => omega
      case rel => exact ⟨k + 1, by omega, by go_num, by rw [hSt.out]; exact HOWN.out, hV6⟩
    · subst hlt
      rw [← HE.out] at hown
      have hown' := Lib.hid hown
      clear hown
      go_wp2_with fail
      go_ret
      exact ⟨_, rfl, own_mono hown'.out hb_1.size, below_step hb_1 hb⟩
set_option maxHeartbeats 1000000 in
theorem ref_floorsR (X : Option Addr) (cap : Nat) (L : List (Int × Int)) (d : Int) (hd' : d ≤ 9223372036854775807) (hlen : L.length ≤ 1000) (w : World) (hr : RingAt w X L) :
    Calls Try.prog 19 #[.slice X L.length cap, .int .i64 d] w fun e w' => ∃ v, e = .returned v ∧ w'.ownsRow w.heap.size 26 2 v (flR d L).length (rgRow (flR d L)) ∧ Below w.heap.size w w' := by
  have OK := ref_fitsR X cap L hlen w hr
  rcases hB : okrB L with _ | _
  · rw [show flR d L = [] from if_neg (by rw [hB]; simp)]
    rw [hB] at OK
    have HOK := Lib.hid OK
    clear hB OK hr
    generalize L.length = N at *
    go_enter Try.func19, Try.ntmps19
    go_wp2_with fail
    refine (HOK.out).mono ?_
    rintro e_1 w_1 ⟨rfl, hb_1⟩
    go_wp2_with fail
    go_ret
    exact ⟨_, rfl, own_nil9 _ _ _, hb_1⟩
  · by_cases hd : 1 ≤ d
    · rw [show flR d L = flL d L from if_pos ⟨hd, hB⟩]
      exact ref_floorsY X cap L d hd hd' hB w hr
    · rw [show flR d L = [] from if_neg (fun h => hd h.1)]
      rw [hB] at OK
      have HOK := Lib.hid OK
      have h1 : d < 1 := by omega
      clear hB OK hr hd
      generalize L.length = N at *
      go_enter Try.func19, Try.ntmps19
      go_wp2_with fail
      refine (HOK.out).mono ?_
      rintro e_1 w_1 ⟨rfl, hb_1⟩
      go_wp2_with fail
      go_ret
      exact ⟨_, rfl, own_nil9 _ _ _, hb_1⟩
end Go.Proofs.Ytnmehelejdbjaaa

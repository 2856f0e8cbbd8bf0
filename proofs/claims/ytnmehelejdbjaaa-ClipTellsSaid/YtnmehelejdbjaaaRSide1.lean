
/- The walk of the reference's Side, of any ring that may be clipped, by axis 1. -/
import Derived.Test.YtnmehelejdbjaaaRSideL
namespace Go.Proofs.Ytnmehelejdbjaaa
open Go.RowKit
set_option linter.unusedSimpArgs false
set_option linter.unusedVariables false
set_option maxRecDepth 100000 in
set_option maxHeartbeats 12000000 in
theorem ref_sideY1 (t : Int) (ab : Bool) (X : Option Addr) (cap : Nat) (L : List (Int × Int)) (hB : okrB L = true) (w : World) (hr : RingAt w X L) :
    Calls Try.prog 17 #[.slice X L.length cap, .int .i64 1, .int .i64 t, .bool ab] w fun e w' => ∃ v, e = .returned v ∧ w'.ownsRow w.heap.size 26 2 v (cutL 1 t ab L).length (rgRow (cutL 1 t ab L)) ∧ Below w.heap.size w w' := by
  have hS := okr_of hB
  have FT := ref_fitsR X cap L (by have := hS.1; omega) w hr
  rw [hB] at FT
  have HFT := Lib.hid FT
  have HR := Lib.hid (fun W (hb : Below w.heap.size w W) => hr.bl hb)
  have HA := Lib.hid hS.at'
  have HDF := Lib.hid hS.df
  have h100 : L.length ≤ 100 := hS.1
  have HLN := Lib.hid (cutN_len 1 t ab L)
  obtain ⟨i0, hi, hz0, hz1, hz2⟩ := info_parts info_A2
  clear hr hS FT hB
  obtain ⟨N, hN⟩ : ∃ N, L.length = N := ⟨_, rfl⟩
  have HN := Lib.hid hN
  have HST : Hid (∀ k, cutN 1 t ab L (k + 1) = cutN 1 t ab L k ++ cutS 1 t ab (L.getD k (0, 0)) (L.getD ((k + 1) % N) (0, 0))) := Lib.hid (fun k => by rw [← hN]; rfl)
  have HEND : Hid (cutL 1 t ab L = cutN 1 t ab L N) := Lib.hid (by rw [← hN]; rfl)
  rw [hN] at h100 HFT ⊢
  have hNI : (N : Int) ≤ 100 := by omega
  clear hN
  go_enter Try.func17, Try.ntmps17
  go_wp2_with fail
  refine (HFT.out).mono ?_
  rintro e_1 w_1 ⟨rfl, hb_1⟩
  clear HFT
  go_wp2_with fail
  go_loopg [9, 10] N (fun n v i W => ∃ k : Nat, k + n = N ∧ i = .int .i64 (k : Int) ∧ W.ownsRow w_1.heap.size 26 2 v (cutN 1 t ab L k).length (rgRow (cutN 1 t ab L k)) ∧ Below w_1.heap.size w_1 W)
  case atStart => exact ⟨0, by omega, rfl, World.ownsRow_nil _ _ _ _, by repeat (first | with_reducible exact Below.refl _ _ | with_reducible refine bl_alloc ?_ _ | with_reducible refine bl_drewN ?_ _ | with_reducible refine bl_drew ?_ | (with_reducible refine bl_set ?_ ?_ _; rotate_left; focus (first | (simp; done) | (simp; omega) | omega)) | with_reducible refine below_step ?_ (Bw.below _) | with_reducible refine below_step ?_ (by assumption))⟩
  case round =>
    obtain ⟨k, hk, rfl, hown, hb⟩ := hrel
    rcases (show k < N ∨ k = N by omega) with hlt | hlt
    · have hring := HR.out wr (below_step hb_1 hb)
      obtain ⟨gr, o, rfl, c1, c2⟩ := hring k (by rw [HN.out]; exact hlt)
      obtain ⟨m, hm⟩ : ∃ m, (k + 1) % N = m := ⟨_, rfl⟩
      have hmN : m < N := by rw [← hm]; exact Nat.mod_lt _ (by omega)
      obtain ⟨gr', o', e', d1, d2⟩ := hring m (by rw [HN.out]; exact hmN)
      cases e'
      obtain ⟨b1, b2, b3, b4⟩ := HA.out k (by rw [HN.out]; exact hlt)
      obtain ⟨b5, b6, b7, b8⟩ := HA.out m (by rw [HN.out]; exact hmN)
      obtain ⟨f1, f2⟩ := HDF.out k m (by rw [HN.out]; exact hlt) (by rw [HN.out]; exact hmN)
      obtain ⟨f3, f4⟩ := HDF.out m k (by rw [HN.out]; exact hmN) (by rw [HN.out]; exact hlt)
      have hst := HST.out k
      rw [hm] at hst
      have hln := HLN.out k
      have htm : ((k : Int) + 1).tmod (N : Int) = (m : Int) := by
        rw [Int.tmod_eq_emod_of_nonneg (by omega), ← hm, Int.natCast_emod]
        push_cast
        rfl
      have hmI : (m : Int) < (N : Int) := by omega
      have hkI : (k : Int) < (N : Int) := by omega
      have hN0 : ¬ (N : Int) = 0 := by omega
      have hkw : IntKind.i64.wrap ((k : Int) + 1) = (k : Int) + 1 := by rw [IntKind.wrap_i64]; omega
      have hmw : IntKind.i64.wrap (m : Int) = (m : Int) := by rw [IntKind.wrap_i64]; omega
      obtain ⟨⟨x, y⟩, hp⟩ : ∃ p, L.getD k (0, 0) = p := ⟨_, rfl⟩
      obtain ⟨⟨u, v⟩, hq⟩ : ∃ q, L.getD m (0, 0) = q := ⟨_, rfl⟩
      rw [hp, hq] at hst f1 f2 f3 f4
      rw [hp] at c1 c2 b1 b2 b3 b4
      rw [hq] at d1 d2 b5 b6 b7 b8
      change x - u ≤ 1073741824 at f1
      change y - v ≤ 1073741824 at f2
      change u - x ≤ 1073741824 at f3
      change v - y ≤ 1073741824 at f4
      change wr.cell? _ = some (.int .i64 x) at c1
      change wr.cell? _ = some (.int .i64 y) at c2
      change wr.cell? _ = some (.int .i64 u) at d1
      change wr.cell? _ = some (.int .i64 v) at d2
      change -1099511627776 ≤ x at b1
      change x ≤ 1099511627776 at b2
      change -1099511627776 ≤ y at b3
      change y ≤ 1099511627776 at b4
      change -1099511627776 ≤ u at b5
      change u ≤ 1099511627776 at b6
      change -1099511627776 ≤ v at b7
      change v ≤ 1099511627776 at b8
      obtain ⟨M, hM⟩ : ∃ M, cutN 1 t ab L k = M := ⟨_, rfl⟩
      rw [hM] at hown hln hst
      have hm1 : M.length + 1 + 1 + 1 ≤ maxLen := by unfold maxLen; omega
      have hm2 : (M.length + 1 + 1 + 1) * 16 ≤ 140737488355328 := by omega
      have hgr := cell_lt c1
      clear hring hp hq hm hM
      go_wp2_with fail
      go_cut [11, 12] from 32 to 132 (fun p1 p2 wx => ∃ n1 n2 : Nat, p1 = .pointer (some ⟨n1, 0, none⟩) ∧ p2 = .pointer (some ⟨n2, 0, none⟩) ∧ (wx.cell? ⟨n1, 0, none⟩ = some (.int .i64 x) ∧ wx.cell? ⟨n1, 1, none⟩ = some (.int .i64 y) ∧ wx.cell? ⟨n2, 0, none⟩ = some (.int .i64 u) ∧ wx.cell? ⟨n2, 1, none⟩ = some (.int .i64 v)) ∧ wr.heap.size ≤ n1 ∧ wr.heap.size ≤ n2 ∧ Below wr.heap.size wr wx)
      case first =>
        have hgr1 : gr < wr.heap.size + 1 := Nat.lt_succ_of_lt hgr
        clear f1 f2 f3 f4 b1 b2 b3 b4 b5 b6 b7 b8 hst hln hm1 hm2 hown
        go_region
        all_goals (go_wp2_with fail; go_meet; exact ⟨_, _, rfl, rfl, ⟨by simp [go_sem], by simp [go_sem], by simp [go_sem], by simp [go_sem]⟩, by simp, by simp, by repeat (first | with_reducible exact Below.refl _ _ | with_reducible refine bl_alloc ?_ _ | with_reducible refine bl_drewN ?_ _ | with_reducible refine bl_drew ?_ | (with_reducible refine bl_set ?_ ?_ _; rotate_left; focus (first | (simp; done) | (simp; omega) | omega)) | with_reducible refine below_step ?_ (Bw.below _) | with_reducible refine below_step ?_ (by assumption))⟩)
      case rest =>
        obtain ⟨n1, n2, rfl, rfl, ⟨k1, k2, k3, k4⟩, hn1, hn2, hbc⟩ := hcut
        have hownx := own_bl hown hbc
        have hne1 : u9.ownBlock ≠ some n1 := own_ne hown hn1
        have hne2 : u9.ownBlock ≠ some n2 := own_ne hown hn2
        have hbx := below_step hb hbc
        clear c1 c2 d1 d2 hown hb hbc hn1 hn2
        obtain ⟨wy, hwy⟩ : ∃ W, W = wc := ⟨_, rfl⟩
        subst hwy
        go_wp2_with fail
        refine wp_region_quiet_lit (by kernel_rfl) (by kernel_rfl) ?_
        repeat (with_reducible refine wpQuiet_step ?_; intro K hK; go_simp; with_reducible refine hK _ ?_; clear hK K)
        with_reducible refine wpQuiet_nil ?_
        intro _ hw'
        obtain ⟨nq, hw''⟩ := hw'
        subst hw''
        have hbz : Below w_1.heap.size w_1 (World.drewN wy nq) := by repeat (first | with_reducible exact Below.refl _ _ | with_reducible refine bl_alloc ?_ _ | with_reducible refine bl_drewN ?_ _ | with_reducible refine bl_drew ?_ | (with_reducible refine bl_set ?_ ?_ _; rotate_left; focus (first | (simp; done) | (simp; omega) | omega)) | with_reducible refine below_step ?_ (Bw.below _) | with_reducible refine below_step ?_ (by assumption))
        have hown8 := own_bl hownx (show Below wy.heap.size wy (World.drewN wy nq) by repeat (first | with_reducible exact Below.refl _ _ | with_reducible refine bl_alloc ?_ _ | with_reducible refine bl_drewN ?_ _ | with_reducible refine bl_drew ?_ | (with_reducible refine bl_set ?_ ?_ _; rotate_left; focus (first | (simp; done) | (simp; omega) | omega)) | with_reducible refine below_step ?_ (Bw.below _) | with_reducible refine below_step ?_ (by assumption)))
        have kc1 := bl_hold (show Below wy.heap.size wy (World.drewN wy nq) by repeat (first | with_reducible exact Below.refl _ _ | with_reducible refine bl_alloc ?_ _ | with_reducible refine bl_drewN ?_ _ | with_reducible refine bl_drew ?_ | (with_reducible refine bl_set ?_ ?_ _; rotate_left; focus (first | (simp; done) | (simp; omega) | omega)) | with_reducible refine below_step ?_ (Bw.below _) | with_reducible refine below_step ?_ (by assumption))) k1
        have kc2 := bl_hold (show Below wy.heap.size wy (World.drewN wy nq) by repeat (first | with_reducible exact Below.refl _ _ | with_reducible refine bl_alloc ?_ _ | with_reducible refine bl_drewN ?_ _ | with_reducible refine bl_drew ?_ | (with_reducible refine bl_set ?_ ?_ _; rotate_left; focus (first | (simp; done) | (simp; omega) | omega)) | with_reducible refine below_step ?_ (Bw.below _) | with_reducible refine below_step ?_ (by assumption))) k2
        have kc3 := bl_hold (show Below wy.heap.size wy (World.drewN wy nq) by repeat (first | with_reducible exact Below.refl _ _ | with_reducible refine bl_alloc ?_ _ | with_reducible refine bl_drewN ?_ _ | with_reducible refine bl_drew ?_ | (with_reducible refine bl_set ?_ ?_ _; rotate_left; focus (first | (simp; done) | (simp; omega) | omega)) | with_reducible refine below_step ?_ (Bw.below _) | with_reducible refine below_step ?_ (by assumption))) k3
        have kc4 := bl_hold (show Below wy.heap.size wy (World.drewN wy nq) by repeat (first | with_reducible exact Below.refl _ _ | with_reducible refine bl_alloc ?_ _ | with_reducible refine bl_drewN ?_ _ | with_reducible refine bl_drew ?_ | (with_reducible refine bl_set ?_ ?_ _; rotate_left; focus (first | (simp; done) | (simp; omega) | omega)) | with_reducible refine below_step ?_ (Bw.below _) | with_reducible refine below_step ?_ (by assumption))) k4
        clear hownx hbx k1 k2 k3 k4
        generalize World.drewN wy nq = wz at *
        rcases Int.lt_trichotomy y t with g0 | g0 | g0 <;> rcases ab with _ | _
        · as_aux_lemma =>
          have g1 : y < t := by omega
          have g2 : (y == t) = false := by simp; omega
          have g3 : ¬ t < y := by omega
          by_cases g4 : t < v
          · have HK := Lib.hid (hst.trans (congrArg (M ++ ·) (cutS_tt (kp_at (by simp [pcx] <;> omega)) (bt_at (by simp [pcx] <;> omega)))))
            have m := mul30 (u - x) (t - y) (by omega) (by omega) (by omega) (by omega)
            obtain ⟨up, hup⟩ : ∃ up, (u - x) * (t - y) = up := ⟨_, rfl⟩
            have HC : Hid (crP 1 t (x, y) (u, v) = (x + flo up (v - y), t)) := Lib.hid (by rw [← hup]; rfl)
            rw [hup] at m
            obtain ⟨m1, m2⟩ := m
            have w1 : IntKind.i64.wrap (u - x) = u - x := by rw [IntKind.wrap_i64]; omega
            have w2 : IntKind.i64.wrap (t - y) = t - y := by rw [IntKind.wrap_i64]; omega
            have w3 : IntKind.i64.wrap ((u - x) * (t - y)) = up := by rw [hup, IntKind.wrap_i64]; omega
            have w4 : IntKind.i64.wrap (v - y) = v - y := by rw [IntKind.wrap_i64]; omega
            have d0 : ¬ v - y < 0 := by omega
            have FL := ref_floor9 up (v - y) (by omega) (by omega) (by omega) (by omega)
            rw [← flo_up (n := up) d0] at FL
            have fb : -1152921504606846976 ≤ flo up (v - y) ∧ flo up (v - y) ≤ 1152921504606846976 := by rw [flo_up d0]; exact div_bd _ _ 1152921504606846976 (by omega) (by omega) (by omega) (by omega)
            generalize flo up (v - y) = F at *
            have HFL := Lib.hid FL
            have w8 : IntKind.i64.wrap (x + F) = x + F := by rw [IntKind.wrap_i64]; omega
            clear FL hup fb m1 m2
            clear hst
            go_wp2_with (at_builtin; refine wpList_append_own _ rfl (.tmp 66) (.tmp 68) 23 rfl w_1.heap.size 26 i0 (.agg #[.int .i64 0, .int .i64 0]) 2 16 Try.underlying23 hi hz0 hz1 hz2 rfl (by decide) _ _ _ rfl (hown8.alloc _) ⟨wz.heap.size, 0, none⟩ 1 1 [.int .i64 x, .int .i64 y] rfl rfl (news2 _ _ _ _) (ones2 _ _ _ _) (by first | omega | (simp only [List.length_append, List.length_cons, List.length_nil]; omega)) (by first | omega | (simp only [List.length_append, List.length_cons, List.length_nil]; omega)) (Nat.le_trans hbz.size (bl_alloc (Below.refl wz.heap.size wz) (.cells #[.int .i64 x, .int .i64 y] 26)).size) ?_)
            intro v' w3 hown3 hgrow _
            have hb3 : Below w_1.heap.size w_1 w3 := bl_grown (hown8.alloc _) (Nat.le_refl _) hgrow (bl_alloc hbz _)
            have r1 := gr_other hgrow ((cell_al (cell_lt kc1) _).trans kc1) hne1
            have r2 := gr_other hgrow ((cell_al (cell_lt kc2) _).trans kc2) hne1
            have r3 := gr_other hgrow ((cell_al (cell_lt kc3) _).trans kc3) hne2
            have r4 := gr_other hgrow ((cell_al (cell_lt kc4) _).trans kc4) hne2
            have hownD := own_push hown3 rfl
            clear hown8 hgrow hown3 kc1 kc2 kc3 kc4 hbz hne1 hne2
            have wx1 : IntKind.i64.wrap (1 - (1 : Int)) = 0 := by decide
            have wx2 : IntKind.i64.wrap (0 : Int) = 0 := by decide
            go_wp2_with fail
            refine wp_region_quiet_lit (by kernel_rfl) (by kernel_rfl) ?_
            repeat (with_reducible refine wpQuiet_step ?_; intro K hK; go_simp; with_reducible refine hK _ ?_; clear hK K)
            with_reducible refine wpQuiet_nil ?_
            intro _ hw'
            obtain ⟨nq, hw''⟩ := hw'
            subst hw''
            have hb4 : Below w_1.heap.size w_1 (World.drewN w3 nq) := by repeat (first | with_reducible exact Below.refl _ _ | with_reducible refine bl_alloc ?_ _ | with_reducible refine bl_drewN ?_ _ | with_reducible refine bl_drew ?_ | (with_reducible refine bl_set ?_ ?_ _; rotate_left; focus (first | (simp; done) | (simp; omega) | omega)) | with_reducible refine below_step ?_ (Bw.below _) | with_reducible refine below_step ?_ (by assumption))
            have hown4 := own_bl hownD (show Below w3.heap.size w3 (World.drewN w3 nq) by repeat (first | with_reducible exact Below.refl _ _ | with_reducible refine bl_alloc ?_ _ | with_reducible refine bl_drewN ?_ _ | with_reducible refine bl_drew ?_ | (with_reducible refine bl_set ?_ ?_ _; rotate_left; focus (first | (simp; done) | (simp; omega) | omega)) | with_reducible refine below_step ?_ (Bw.below _) | with_reducible refine below_step ?_ (by assumption)))
            have s1 := bl_hold (show Below w3.heap.size w3 (World.drewN w3 nq) by repeat (first | with_reducible exact Below.refl _ _ | with_reducible refine bl_alloc ?_ _ | with_reducible refine bl_drewN ?_ _ | with_reducible refine bl_drew ?_ | (with_reducible refine bl_set ?_ ?_ _; rotate_left; focus (first | (simp; done) | (simp; omega) | omega)) | with_reducible refine below_step ?_ (Bw.below _) | with_reducible refine below_step ?_ (by assumption))) r1
            have s2 := bl_hold (show Below w3.heap.size w3 (World.drewN w3 nq) by repeat (first | with_reducible exact Below.refl _ _ | with_reducible refine bl_alloc ?_ _ | with_reducible refine bl_drewN ?_ _ | with_reducible refine bl_drew ?_ | (with_reducible refine bl_set ?_ ?_ _; rotate_left; focus (first | (simp; done) | (simp; omega) | omega)) | with_reducible refine below_step ?_ (Bw.below _) | with_reducible refine below_step ?_ (by assumption))) r2
            clear hownD hb3 r1 r2 r3 r4
            generalize World.drewN w3 nq = w4' at *
            go_wp2_with fail
            refine (HFL.out _).mono ?_
            rintro e_5 w_5 ⟨rfl, n5, rfl⟩
            have hb5 : Below w_1.heap.size w_1 (World.drewN w4' n5) := by repeat (first | with_reducible exact Below.refl _ _ | with_reducible refine bl_alloc ?_ _ | with_reducible refine bl_drewN ?_ _ | with_reducible refine bl_drew ?_ | (with_reducible refine bl_set ?_ ?_ _; rotate_left; focus (first | (simp; done) | (simp; omega) | omega)) | with_reducible refine below_step ?_ (Bw.below _) | with_reducible refine below_step ?_ (by assumption))
            have hown5 := own_bl hown4 (show Below w4'.heap.size w4' (World.drewN w4' n5) by repeat (first | with_reducible exact Below.refl _ _ | with_reducible refine bl_alloc ?_ _ | with_reducible refine bl_drewN ?_ _ | with_reducible refine bl_drew ?_ | (with_reducible refine bl_set ?_ ?_ _; rotate_left; focus (first | (simp; done) | (simp; omega) | omega)) | with_reducible refine below_step ?_ (Bw.below _) | with_reducible refine below_step ?_ (by assumption)))
            have t1 := bl_hold (show Below w4'.heap.size w4' (World.drewN w4' n5) by repeat (first | with_reducible exact Below.refl _ _ | with_reducible refine bl_alloc ?_ _ | with_reducible refine bl_drewN ?_ _ | with_reducible refine bl_drew ?_ | (with_reducible refine bl_set ?_ ?_ _; rotate_left; focus (first | (simp; done) | (simp; omega) | omega)) | with_reducible refine below_step ?_ (Bw.below _) | with_reducible refine below_step ?_ (by assumption))) s1
            have t2 := bl_hold (show Below w4'.heap.size w4' (World.drewN w4' n5) by repeat (first | with_reducible exact Below.refl _ _ | with_reducible refine bl_alloc ?_ _ | with_reducible refine bl_drewN ?_ _ | with_reducible refine bl_drew ?_ | (with_reducible refine bl_set ?_ ?_ _; rotate_left; focus (first | (simp; done) | (simp; omega) | omega)) | with_reducible refine below_step ?_ (Bw.below _) | with_reducible refine below_step ?_ (by assumption))) s2
            clear hown4 hb4 s1 s2
            generalize World.drewN w4' n5 = w5' at *
            have tz := cell_lt t1
            have hle5 := hb5.size
            go_wp2_with (at_builtin; refine wpList_append_own _ rfl (.tmp 129) (.tmp 131) 23 rfl w_1.heap.size 26 i0 (.agg #[.int .i64 0, .int .i64 0]) 2 16 Try.underlying23 hi hz0 hz1 hz2 rfl (by decide) _ _ _ rfl ((hown5.alloc _).alloc _) ⟨w5'.heap.size + 1, 0, none⟩ 1 1 [.int .i64 (x + F), .int .i64 t] rfl rfl (news2a _ _ _ _ _) (ones2 _ _ _ _) (by first | omega | (simp only [List.length_append, List.length_cons, List.length_nil]; omega)) (by first | omega | (simp only [List.length_append, List.length_cons, List.length_nil]; omega)) (by simp; omega) ?_)
            intro v'' w6 hown6 hgrow6 _
            have hb6 : Below w_1.heap.size w_1 w6 := bl_grown ((hown5.alloc _).alloc _) (Nat.le_refl _) hgrow6 (bl_alloc (bl_alloc hb5 _) _)
            have hown7 := own_push hown6 (by simp)
            clear hown5 hgrow6 hown6 t1 t2
            have HOWN := Lib.hid hown7
            clear hown7
            go_wp2_with fail
            go_roundg (N - (k + 1))
            case measure => omega
            case rel => exact ⟨k + 1, by omega, by go_num, by rw [HK.out, HC.out]; simpa using HOWN.out, hb6⟩
          · have HK := Lib.hid (hst.trans (congrArg (M ++ ·) (cutS_tf (kp_at (by simp [pcx] <;> omega)) (bt_no (by simp [pcx] <;> omega)))))
            clear hst
            go_wp2_with (at_builtin; refine wpList_append_own _ rfl (.tmp 66) (.tmp 68) 23 rfl w_1.heap.size 26 i0 (.agg #[.int .i64 0, .int .i64 0]) 2 16 Try.underlying23 hi hz0 hz1 hz2 rfl (by decide) _ _ _ rfl (hown8.alloc _) ⟨wz.heap.size, 0, none⟩ 1 1 [.int .i64 x, .int .i64 y] rfl rfl (news2 _ _ _ _) (ones2 _ _ _ _) (by first | omega | (simp only [List.length_append, List.length_cons, List.length_nil]; omega)) (by first | omega | (simp only [List.length_append, List.length_cons, List.length_nil]; omega)) (Nat.le_trans hbz.size (bl_alloc (Below.refl wz.heap.size wz) (.cells #[.int .i64 x, .int .i64 y] 26)).size) ?_)
            intro v' w3 hown3 hgrow _
            have hb3 : Below w_1.heap.size w_1 w3 := bl_grown (hown8.alloc _) (Nat.le_refl _) hgrow (bl_alloc hbz _)
            have r1 := gr_other hgrow ((cell_al (cell_lt kc1) _).trans kc1) hne1
            have r2 := gr_other hgrow ((cell_al (cell_lt kc2) _).trans kc2) hne1
            have r3 := gr_other hgrow ((cell_al (cell_lt kc3) _).trans kc3) hne2
            have r4 := gr_other hgrow ((cell_al (cell_lt kc4) _).trans kc4) hne2
            have hownD := own_push hown3 rfl
            clear hown8 hgrow hown3 kc1 kc2 kc3 kc4 hbz hne1 hne2
            have HOWN := Lib.hid hownD
            clear hownD
            go_wp2_with fail
            go_roundg (N - (k + 1))
            case measure => omega
            case rel => exact ⟨k + 1, by omega, by go_num, by rw [HK.out]; simpa using HOWN.out, by first | exact hb3 | (exact below_step hb3 (by repeat (first | with_reducible exact Below.refl _ _ | with_reducible refine bl_alloc ?_ _ | with_reducible refine bl_drewN ?_ _ | with_reducible refine bl_drew ?_ | (with_reducible refine bl_set ?_ ?_ _; rotate_left; focus (first | (simp; done) | (simp; omega) | omega)) | with_reducible refine below_step ?_ (Bw.below _) | with_reducible refine below_step ?_ (by assumption))))⟩
        · as_aux_lemma =>
          have g1 : y < t := by omega
          have g2 : (y == t) = false := by simp; omega
          have g3 : ¬ t < y := by omega
          by_cases g4 : t < v
          · have HK := Lib.hid (hst.trans (congrArg (M ++ ·) (cutS_ft (kp_no (by simp [pcx] <;> omega)) (bt_at (by simp [pcx] <;> omega)))))
            have m := mul30 (u - x) (t - y) (by omega) (by omega) (by omega) (by omega)
            obtain ⟨up, hup⟩ : ∃ up, (u - x) * (t - y) = up := ⟨_, rfl⟩
            have HC : Hid (crP 1 t (x, y) (u, v) = (x + flo up (v - y), t)) := Lib.hid (by rw [← hup]; rfl)
            rw [hup] at m
            obtain ⟨m1, m2⟩ := m
            have w1 : IntKind.i64.wrap (u - x) = u - x := by rw [IntKind.wrap_i64]; omega
            have w2 : IntKind.i64.wrap (t - y) = t - y := by rw [IntKind.wrap_i64]; omega
            have w3 : IntKind.i64.wrap ((u - x) * (t - y)) = up := by rw [hup, IntKind.wrap_i64]; omega
            have w4 : IntKind.i64.wrap (v - y) = v - y := by rw [IntKind.wrap_i64]; omega
            have d0 : ¬ v - y < 0 := by omega
            have FL := ref_floor9 up (v - y) (by omega) (by omega) (by omega) (by omega)
            rw [← flo_up (n := up) d0] at FL
            have fb : -1152921504606846976 ≤ flo up (v - y) ∧ flo up (v - y) ≤ 1152921504606846976 := by rw [flo_up d0]; exact div_bd _ _ 1152921504606846976 (by omega) (by omega) (by omega) (by omega)
            generalize flo up (v - y) = F at *
            have HFL := Lib.hid FL
            have w8 : IntKind.i64.wrap (x + F) = x + F := by rw [IntKind.wrap_i64]; omega
            clear FL hup fb m1 m2
            clear hst
            have wx1 : IntKind.i64.wrap (1 - (1 : Int)) = 0 := by decide
            have wx2 : IntKind.i64.wrap (0 : Int) = 0 := by decide
            go_wp2_with fail
            refine wp_region_quiet_lit (by kernel_rfl) (by kernel_rfl) ?_
            repeat (with_reducible refine wpQuiet_step ?_; intro K hK; go_simp; with_reducible refine hK _ ?_; clear hK K)
            with_reducible refine wpQuiet_nil ?_
            intro _ hw'
            obtain ⟨nq, hw''⟩ := hw'
            subst hw''
            have hb4 : Below w_1.heap.size w_1 (World.drewN wz nq) := by repeat (first | with_reducible exact Below.refl _ _ | with_reducible refine bl_alloc ?_ _ | with_reducible refine bl_drewN ?_ _ | with_reducible refine bl_drew ?_ | (with_reducible refine bl_set ?_ ?_ _; rotate_left; focus (first | (simp; done) | (simp; omega) | omega)) | with_reducible refine below_step ?_ (Bw.below _) | with_reducible refine below_step ?_ (by assumption))
            have hown4 := own_bl hown8 (show Below wz.heap.size wz (World.drewN wz nq) by repeat (first | with_reducible exact Below.refl _ _ | with_reducible refine bl_alloc ?_ _ | with_reducible refine bl_drewN ?_ _ | with_reducible refine bl_drew ?_ | (with_reducible refine bl_set ?_ ?_ _; rotate_left; focus (first | (simp; done) | (simp; omega) | omega)) | with_reducible refine below_step ?_ (Bw.below _) | with_reducible refine below_step ?_ (by assumption)))
            have s1 := bl_hold (show Below wz.heap.size wz (World.drewN wz nq) by repeat (first | with_reducible exact Below.refl _ _ | with_reducible refine bl_alloc ?_ _ | with_reducible refine bl_drewN ?_ _ | with_reducible refine bl_drew ?_ | (with_reducible refine bl_set ?_ ?_ _; rotate_left; focus (first | (simp; done) | (simp; omega) | omega)) | with_reducible refine below_step ?_ (Bw.below _) | with_reducible refine below_step ?_ (by assumption))) kc1
            have s2 := bl_hold (show Below wz.heap.size wz (World.drewN wz nq) by repeat (first | with_reducible exact Below.refl _ _ | with_reducible refine bl_alloc ?_ _ | with_reducible refine bl_drewN ?_ _ | with_reducible refine bl_drew ?_ | (with_reducible refine bl_set ?_ ?_ _; rotate_left; focus (first | (simp; done) | (simp; omega) | omega)) | with_reducible refine below_step ?_ (Bw.below _) | with_reducible refine below_step ?_ (by assumption))) kc2
            clear hown8 hbz kc1 kc2 kc3 kc4
            generalize World.drewN wz nq = w4' at *
            go_wp2_with fail
            refine (HFL.out _).mono ?_
            rintro e_5 w_5 ⟨rfl, n5, rfl⟩
            have hb5 : Below w_1.heap.size w_1 (World.drewN w4' n5) := by repeat (first | with_reducible exact Below.refl _ _ | with_reducible refine bl_alloc ?_ _ | with_reducible refine bl_drewN ?_ _ | with_reducible refine bl_drew ?_ | (with_reducible refine bl_set ?_ ?_ _; rotate_left; focus (first | (simp; done) | (simp; omega) | omega)) | with_reducible refine below_step ?_ (Bw.below _) | with_reducible refine below_step ?_ (by assumption))
            have hown5 := own_bl hown4 (show Below w4'.heap.size w4' (World.drewN w4' n5) by repeat (first | with_reducible exact Below.refl _ _ | with_reducible refine bl_alloc ?_ _ | with_reducible refine bl_drewN ?_ _ | with_reducible refine bl_drew ?_ | (with_reducible refine bl_set ?_ ?_ _; rotate_left; focus (first | (simp; done) | (simp; omega) | omega)) | with_reducible refine below_step ?_ (Bw.below _) | with_reducible refine below_step ?_ (by assumption)))
            have t1 := bl_hold (show Below w4'.heap.size w4' (World.drewN w4' n5) by repeat (first | with_reducible exact Below.refl _ _ | with_reducible refine bl_alloc ?_ _ | with_reducible refine bl_drewN ?_ _ | with_reducible refine bl_drew ?_ | (with_reducible refine bl_set ?_ ?_ _; rotate_left; focus (first | (simp; done) | (simp; omega) | omega)) | with_reducible refine below_step ?_ (Bw.below _) | with_reducible refine below_step ?_ (by assumption))) s1
            have t2 := bl_hold (show Below w4'.heap.size w4' (World.drewN w4' n5) by repeat (first | with_reducible exact Below.refl _ _ | with_reducible refine bl_alloc ?_ _ | with_reducible refine bl_drewN ?_ _ | with_reducible refine bl_drew ?_ | (with_reducible refine bl_set ?_ ?_ _; rotate_left; focus (first | (simp; done) | (simp; omega) | omega)) | with_reducible refine below_step ?_ (Bw.below _) | with_reducible refine below_step ?_ (by assumption))) s2
            clear hown4 hb4 s1 s2
            generalize World.drewN w4' n5 = w5' at *
            have tz := cell_lt t1
            have hle5 := hb5.size
            go_wp2_with (at_builtin; refine wpList_append_own _ rfl (.tmp 129) (.tmp 131) 23 rfl w_1.heap.size 26 i0 (.agg #[.int .i64 0, .int .i64 0]) 2 16 Try.underlying23 hi hz0 hz1 hz2 rfl (by decide) _ _ _ rfl ((hown5.alloc _).alloc _) ⟨w5'.heap.size + 1, 0, none⟩ 1 1 [.int .i64 (x + F), .int .i64 t] rfl rfl (news2a _ _ _ _ _) (ones2 _ _ _ _) (by first | omega | (simp only [List.length_append, List.length_cons, List.length_nil]; omega)) (by first | omega | (simp only [List.length_append, List.length_cons, List.length_nil]; omega)) (by simp; omega) ?_)
            intro v'' w6 hown6 hgrow6 _
            have hb6 : Below w_1.heap.size w_1 w6 := bl_grown ((hown5.alloc _).alloc _) (Nat.le_refl _) hgrow6 (bl_alloc (bl_alloc hb5 _) _)
            have hown7 := own_push hown6 (by simp)
            clear hown5 hgrow6 hown6 t1 t2
            have HOWN := Lib.hid hown7
            clear hown7
            go_wp2_with fail
            go_roundg (N - (k + 1))
            case measure => omega
            case rel => exact ⟨k + 1, by omega, by go_num, by rw [HK.out, HC.out]; simpa using HOWN.out, hb6⟩
          · have HK := Lib.hid (hst.trans (congrArg (M ++ ·) (cutS_ff (kp_no (by simp [pcx] <;> omega)) (bt_no (by simp [pcx] <;> omega)))))
            clear hst
            have HOWN := Lib.hid hown8
            clear hown8
            go_wp2_with fail
            go_roundg (N - (k + 1))
            case measure => omega
            case rel => exact ⟨k + 1, by omega, by go_num, by rw [HK.out]; simpa using HOWN.out, by first | exact hbz | (exact below_step hbz (by repeat (first | with_reducible exact Below.refl _ _ | with_reducible refine bl_alloc ?_ _ | with_reducible refine bl_drewN ?_ _ | with_reducible refine bl_drew ?_ | (with_reducible refine bl_set ?_ ?_ _; rotate_left; focus (first | (simp; done) | (simp; omega) | omega)) | with_reducible refine below_step ?_ (Bw.below _) | with_reducible refine below_step ?_ (by assumption))))⟩
        · as_aux_lemma =>
          subst g0
          have HK := Lib.hid (hst.trans (congrArg (M ++ ·) (cutS_tf (kp_at (by simp [pcx] <;> omega)) (bt_no (by simp [pcx] <;> omega)))))
          clear hst
          go_wp2_with (at_builtin; refine wpList_append_own _ rfl (.tmp 66) (.tmp 68) 23 rfl w_1.heap.size 26 i0 (.agg #[.int .i64 0, .int .i64 0]) 2 16 Try.underlying23 hi hz0 hz1 hz2 rfl (by decide) _ _ _ rfl (hown8.alloc _) ⟨wz.heap.size, 0, none⟩ 1 1 [.int .i64 x, .int .i64 y] rfl rfl (news2 _ _ _ _) (ones2 _ _ _ _) (by first | omega | (simp only [List.length_append, List.length_cons, List.length_nil]; omega)) (by first | omega | (simp only [List.length_append, List.length_cons, List.length_nil]; omega)) (Nat.le_trans hbz.size (bl_alloc (Below.refl wz.heap.size wz) (.cells #[.int .i64 x, .int .i64 y] 26)).size) ?_)
          intro v' w3 hown3 hgrow _
          have hb3 : Below w_1.heap.size w_1 w3 := bl_grown (hown8.alloc _) (Nat.le_refl _) hgrow (bl_alloc hbz _)
          have r1 := gr_other hgrow ((cell_al (cell_lt kc1) _).trans kc1) hne1
          have r2 := gr_other hgrow ((cell_al (cell_lt kc2) _).trans kc2) hne1
          have r3 := gr_other hgrow ((cell_al (cell_lt kc3) _).trans kc3) hne2
          have r4 := gr_other hgrow ((cell_al (cell_lt kc4) _).trans kc4) hne2
          have hownD := own_push hown3 rfl
          clear hown8 hgrow hown3 kc1 kc2 kc3 kc4 hbz hne1 hne2
          have HOWN := Lib.hid hownD
          clear hownD
          go_wp2_with fail
          go_roundg (N - (k + 1))
          case measure => omega
          case rel => exact ⟨k + 1, by omega, by go_num, by rw [HK.out]; simpa using HOWN.out, by first | exact hb3 | (exact below_step hb3 (by repeat (first | with_reducible exact Below.refl _ _ | with_reducible refine bl_alloc ?_ _ | with_reducible refine bl_drewN ?_ _ | with_reducible refine bl_drew ?_ | (with_reducible refine bl_set ?_ ?_ _; rotate_left; focus (first | (simp; done) | (simp; omega) | omega)) | with_reducible refine below_step ?_ (Bw.below _) | with_reducible refine below_step ?_ (by assumption))))⟩
        · as_aux_lemma =>
          subst g0
          have HK := Lib.hid (hst.trans (congrArg (M ++ ·) (cutS_tf (kp_at (by simp [pcx] <;> omega)) (bt_no (by simp [pcx] <;> omega)))))
          clear hst
          go_wp2_with (at_builtin; refine wpList_append_own _ rfl (.tmp 66) (.tmp 68) 23 rfl w_1.heap.size 26 i0 (.agg #[.int .i64 0, .int .i64 0]) 2 16 Try.underlying23 hi hz0 hz1 hz2 rfl (by decide) _ _ _ rfl (hown8.alloc _) ⟨wz.heap.size, 0, none⟩ 1 1 [.int .i64 x, .int .i64 y] rfl rfl (news2 _ _ _ _) (ones2 _ _ _ _) (by first | omega | (simp only [List.length_append, List.length_cons, List.length_nil]; omega)) (by first | omega | (simp only [List.length_append, List.length_cons, List.length_nil]; omega)) (Nat.le_trans hbz.size (bl_alloc (Below.refl wz.heap.size wz) (.cells #[.int .i64 x, .int .i64 y] 26)).size) ?_)
          intro v' w3 hown3 hgrow _
          have hb3 : Below w_1.heap.size w_1 w3 := bl_grown (hown8.alloc _) (Nat.le_refl _) hgrow (bl_alloc hbz _)
          have r1 := gr_other hgrow ((cell_al (cell_lt kc1) _).trans kc1) hne1
          have r2 := gr_other hgrow ((cell_al (cell_lt kc2) _).trans kc2) hne1
          have r3 := gr_other hgrow ((cell_al (cell_lt kc3) _).trans kc3) hne2
          have r4 := gr_other hgrow ((cell_al (cell_lt kc4) _).trans kc4) hne2
          have hownD := own_push hown3 rfl
          clear hown8 hgrow hown3 kc1 kc2 kc3 kc4 hbz hne1 hne2
          have HOWN := Lib.hid hownD
          clear hownD
          go_wp2_with fail
          go_roundg (N - (k + 1))
          case measure => omega
          case rel => exact ⟨k + 1, by omega, by go_num, by rw [HK.out]; simpa using HOWN.out, by first | exact hb3 | (exact below_step hb3 (by repeat (first | with_reducible exact Below.refl _ _ | with_reducible refine bl_alloc ?_ _ | with_reducible refine bl_drewN ?_ _ | with_reducible refine bl_drew ?_ | (with_reducible refine bl_set ?_ ?_ _; rotate_left; focus (first | (simp; done) | (simp; omega) | omega)) | with_reducible refine below_step ?_ (Bw.below _) | with_reducible refine below_step ?_ (by assumption))))⟩
        · as_aux_lemma =>
          have g1 : ¬ y < t := by omega
          have g2 : (y == t) = false := by simp; omega
          have g3 : t < y := by omega
          by_cases g4 : v < t
          · have HK := Lib.hid (hst.trans (congrArg (M ++ ·) (cutS_ft (kp_no (by simp [pcx] <;> omega)) (bt_at (by simp [pcx] <;> omega)))))
            have m := mul30 (u - x) (t - y) (by omega) (by omega) (by omega) (by omega)
            obtain ⟨up, hup⟩ : ∃ up, (u - x) * (t - y) = up := ⟨_, rfl⟩
            have HC : Hid (crP 1 t (x, y) (u, v) = (x + flo up (v - y), t)) := Lib.hid (by rw [← hup]; rfl)
            rw [hup] at m
            obtain ⟨m1, m2⟩ := m
            have w1 : IntKind.i64.wrap (u - x) = u - x := by rw [IntKind.wrap_i64]; omega
            have w2 : IntKind.i64.wrap (t - y) = t - y := by rw [IntKind.wrap_i64]; omega
            have w3 : IntKind.i64.wrap ((u - x) * (t - y)) = up := by rw [hup, IntKind.wrap_i64]; omega
            have w4 : IntKind.i64.wrap (v - y) = v - y := by rw [IntKind.wrap_i64]; omega
            have d0 : v - y < 0 := by omega
            have w6 : IntKind.i64.wrap (-up) = -up := by rw [IntKind.wrap_i64]; omega
            have w7 : IntKind.i64.wrap (-(v - y)) = -(v - y) := by rw [IntKind.wrap_i64]; omega
            have FL := ref_floor9 (-up) (-(v - y)) (by omega) (by omega) (by omega) (by omega)
            rw [← flo_dn (n := up) d0] at FL
            have fb : -1152921504606846976 ≤ flo up (v - y) ∧ flo up (v - y) ≤ 1152921504606846976 := by rw [flo_dn d0]; exact div_bd _ _ 1152921504606846976 (by omega) (by omega) (by omega) (by omega)
            generalize flo up (v - y) = F at *
            have HFL := Lib.hid FL
            have w8 : IntKind.i64.wrap (x + F) = x + F := by rw [IntKind.wrap_i64]; omega
            clear FL hup fb m1 m2
            clear hst
            have wx1 : IntKind.i64.wrap (1 - (1 : Int)) = 0 := by decide
            have wx2 : IntKind.i64.wrap (0 : Int) = 0 := by decide
            go_wp2_with fail
            refine wp_region_quiet_lit (by kernel_rfl) (by kernel_rfl) ?_
            repeat (with_reducible refine wpQuiet_step ?_; intro K hK; go_simp; with_reducible refine hK _ ?_; clear hK K)
            with_reducible refine wpQuiet_nil ?_
            intro _ hw'
            obtain ⟨nq, hw''⟩ := hw'
            subst hw''
            have hb4 : Below w_1.heap.size w_1 (World.drewN wz nq) := by repeat (first | with_reducible exact Below.refl _ _ | with_reducible refine bl_alloc ?_ _ | with_reducible refine bl_drewN ?_ _ | with_reducible refine bl_drew ?_ | (with_reducible refine bl_set ?_ ?_ _; rotate_left; focus (first | (simp; done) | (simp; omega) | omega)) | with_reducible refine below_step ?_ (Bw.below _) | with_reducible refine below_step ?_ (by assumption))
            have hown4 := own_bl hown8 (show Below wz.heap.size wz (World.drewN wz nq) by repeat (first | with_reducible exact Below.refl _ _ | with_reducible refine bl_alloc ?_ _ | with_reducible refine bl_drewN ?_ _ | with_reducible refine bl_drew ?_ | (with_reducible refine bl_set ?_ ?_ _; rotate_left; focus (first | (simp; done) | (simp; omega) | omega)) | with_reducible refine below_step ?_ (Bw.below _) | with_reducible refine below_step ?_ (by assumption)))
            have s1 := bl_hold (show Below wz.heap.size wz (World.drewN wz nq) by repeat (first | with_reducible exact Below.refl _ _ | with_reducible refine bl_alloc ?_ _ | with_reducible refine bl_drewN ?_ _ | with_reducible refine bl_drew ?_ | (with_reducible refine bl_set ?_ ?_ _; rotate_left; focus (first | (simp; done) | (simp; omega) | omega)) | with_reducible refine below_step ?_ (Bw.below _) | with_reducible refine below_step ?_ (by assumption))) kc1
            have s2 := bl_hold (show Below wz.heap.size wz (World.drewN wz nq) by repeat (first | with_reducible exact Below.refl _ _ | with_reducible refine bl_alloc ?_ _ | with_reducible refine bl_drewN ?_ _ | with_reducible refine bl_drew ?_ | (with_reducible refine bl_set ?_ ?_ _; rotate_left; focus (first | (simp; done) | (simp; omega) | omega)) | with_reducible refine below_step ?_ (Bw.below _) | with_reducible refine below_step ?_ (by assumption))) kc2
            clear hown8 hbz kc1 kc2 kc3 kc4
            generalize World.drewN wz nq = w4' at *
            go_wp2_with fail
            refine (HFL.out _).mono ?_
            rintro e_5 w_5 ⟨rfl, n5, rfl⟩
            have hb5 : Below w_1.heap.size w_1 (World.drewN w4' n5) := by repeat (first | with_reducible exact Below.refl _ _ | with_reducible refine bl_alloc ?_ _ | with_reducible refine bl_drewN ?_ _ | with_reducible refine bl_drew ?_ | (with_reducible refine bl_set ?_ ?_ _; rotate_left; focus (first | (simp; done) | (simp; omega) | omega)) | with_reducible refine below_step ?_ (Bw.below _) | with_reducible refine below_step ?_ (by assumption))
            have hown5 := own_bl hown4 (show Below w4'.heap.size w4' (World.drewN w4' n5) by repeat (first | with_reducible exact Below.refl _ _ | with_reducible refine bl_alloc ?_ _ | with_reducible refine bl_drewN ?_ _ | with_reducible refine bl_drew ?_ | (with_reducible refine bl_set ?_ ?_ _; rotate_left; focus (first | (simp; done) | (simp; omega) | omega)) | with_reducible refine below_step ?_ (Bw.below _) | with_reducible refine below_step ?_ (by assumption)))
            have t1 := bl_hold (show Below w4'.heap.size w4' (World.drewN w4' n5) by repeat (first | with_reducible exact Below.refl _ _ | with_reducible refine bl_alloc ?_ _ | with_reducible refine bl_drewN ?_ _ | with_reducible refine bl_drew ?_ | (with_reducible refine bl_set ?_ ?_ _; rotate_left; focus (first | (simp; done) | (simp; omega) | omega)) | with_reducible refine below_step ?_ (Bw.below _) | with_reducible refine below_step ?_ (by assumption))) s1
            have t2 := bl_hold (show Below w4'.heap.size w4' (World.drewN w4' n5) by repeat (first | with_reducible exact Below.refl _ _ | with_reducible refine bl_alloc ?_ _ | with_reducible refine bl_drewN ?_ _ | with_reducible refine bl_drew ?_ | (with_reducible refine bl_set ?_ ?_ _; rotate_left; focus (first | (simp; done) | (simp; omega) | omega)) | with_reducible refine below_step ?_ (Bw.below _) | with_reducible refine below_step ?_ (by assumption))) s2
            clear hown4 hb4 s1 s2
            generalize World.drewN w4' n5 = w5' at *
            have tz := cell_lt t1
            have hle5 := hb5.size
            go_wp2_with (at_builtin; refine wpList_append_own _ rfl (.tmp 129) (.tmp 131) 23 rfl w_1.heap.size 26 i0 (.agg #[.int .i64 0, .int .i64 0]) 2 16 Try.underlying23 hi hz0 hz1 hz2 rfl (by decide) _ _ _ rfl ((hown5.alloc _).alloc _) ⟨w5'.heap.size + 1, 0, none⟩ 1 1 [.int .i64 (x + F), .int .i64 t] rfl rfl (news2a _ _ _ _ _) (ones2 _ _ _ _) (by first | omega | (simp only [List.length_append, List.length_cons, List.length_nil]; omega)) (by first | omega | (simp only [List.length_append, List.length_cons, List.length_nil]; omega)) (by simp; omega) ?_)
            intro v'' w6 hown6 hgrow6 _
            have hb6 : Below w_1.heap.size w_1 w6 := bl_grown ((hown5.alloc _).alloc _) (Nat.le_refl _) hgrow6 (bl_alloc (bl_alloc hb5 _) _)
            have hown7 := own_push hown6 (by simp)
            clear hown5 hgrow6 hown6 t1 t2
            have HOWN := Lib.hid hown7
            clear hown7
            go_wp2_with fail
            go_roundg (N - (k + 1))
            case measure => omega
            case rel => exact ⟨k + 1, by omega, by go_num, by rw [HK.out, HC.out]; simpa using HOWN.out, hb6⟩
          · have HK := Lib.hid (hst.trans (congrArg (M ++ ·) (cutS_ff (kp_no (by simp [pcx] <;> omega)) (bt_no (by simp [pcx] <;> omega)))))
            clear hst
            have HOWN := Lib.hid hown8
            clear hown8
            go_wp2_with fail
            go_roundg (N - (k + 1))
            case measure => omega
            case rel => exact ⟨k + 1, by omega, by go_num, by rw [HK.out]; simpa using HOWN.out, by first | exact hbz | (exact below_step hbz (by repeat (first | with_reducible exact Below.refl _ _ | with_reducible refine bl_alloc ?_ _ | with_reducible refine bl_drewN ?_ _ | with_reducible refine bl_drew ?_ | (with_reducible refine bl_set ?_ ?_ _; rotate_left; focus (first | (simp; done) | (simp; omega) | omega)) | with_reducible refine below_step ?_ (Bw.below _) | with_reducible refine below_step ?_ (by assumption))))⟩
        · as_aux_lemma =>
          have g1 : ¬ y < t := by omega
          have g2 : (y == t) = false := by simp; omega
          have g3 : t < y := by omega
          by_cases g4 : v < t
          · have HK := Lib.hid (hst.trans (congrArg (M ++ ·) (cutS_tt (kp_at (by simp [pcx] <;> omega)) (bt_at (by simp [pcx] <;> omega)))))
            have m := mul30 (u - x) (t - y) (by omega) (by omega) (by omega) (by omega)
            obtain ⟨up, hup⟩ : ∃ up, (u - x) * (t - y) = up := ⟨_, rfl⟩
            have HC : Hid (crP 1 t (x, y) (u, v) = (x + flo up (v - y), t)) := Lib.hid (by rw [← hup]; rfl)
            rw [hup] at m
            obtain ⟨m1, m2⟩ := m
            have w1 : IntKind.i64.wrap (u - x) = u - x := by rw [IntKind.wrap_i64]; omega
            have w2 : IntKind.i64.wrap (t - y) = t - y := by rw [IntKind.wrap_i64]; omega
            have w3 : IntKind.i64.wrap ((u - x) * (t - y)) = up := by rw [hup, IntKind.wrap_i64]; omega
            have w4 : IntKind.i64.wrap (v - y) = v - y := by rw [IntKind.wrap_i64]; omega
            have d0 : v - y < 0 := by omega
            have w6 : IntKind.i64.wrap (-up) = -up := by rw [IntKind.wrap_i64]; omega
            have w7 : IntKind.i64.wrap (-(v - y)) = -(v - y) := by rw [IntKind.wrap_i64]; omega
            have FL := ref_floor9 (-up) (-(v - y)) (by omega) (by omega) (by omega) (by omega)
            rw [← flo_dn (n := up) d0] at FL
            have fb : -1152921504606846976 ≤ flo up (v - y) ∧ flo up (v - y) ≤ 1152921504606846976 := by rw [flo_dn d0]; exact div_bd _ _ 1152921504606846976 (by omega) (by omega) (by omega) (by omega)
            generalize flo up (v - y) = F at *
            have HFL := Lib.hid FL
            have w8 : IntKind.i64.wrap (x + F) = x + F := by rw [IntKind.wrap_i64]; omega
            clear FL hup fb m1 m2
            clear hst
            go_wp2_with (at_builtin; refine wpList_append_own _ rfl (.tmp 66) (.tmp 68) 23 rfl w_1.heap.size 26 i0 (.agg #[.int .i64 0, .int .i64 0]) 2 16 Try.underlying23 hi hz0 hz1 hz2 rfl (by decide) _ _ _ rfl (hown8.alloc _) ⟨wz.heap.size, 0, none⟩ 1 1 [.int .i64 x, .int .i64 y] rfl rfl (news2 _ _ _ _) (ones2 _ _ _ _) (by first | omega | (simp only [List.length_append, List.length_cons, List.length_nil]; omega)) (by first | omega | (simp only [List.length_append, List.length_cons, List.length_nil]; omega)) (Nat.le_trans hbz.size (bl_alloc (Below.refl wz.heap.size wz) (.cells #[.int .i64 x, .int .i64 y] 26)).size) ?_)
            intro v' w3 hown3 hgrow _
            have hb3 : Below w_1.heap.size w_1 w3 := bl_grown (hown8.alloc _) (Nat.le_refl _) hgrow (bl_alloc hbz _)
            have r1 := gr_other hgrow ((cell_al (cell_lt kc1) _).trans kc1) hne1
            have r2 := gr_other hgrow ((cell_al (cell_lt kc2) _).trans kc2) hne1
            have r3 := gr_other hgrow ((cell_al (cell_lt kc3) _).trans kc3) hne2
            have r4 := gr_other hgrow ((cell_al (cell_lt kc4) _).trans kc4) hne2
            have hownD := own_push hown3 rfl
            clear hown8 hgrow hown3 kc1 kc2 kc3 kc4 hbz hne1 hne2
            have wx1 : IntKind.i64.wrap (1 - (1 : Int)) = 0 := by decide
            have wx2 : IntKind.i64.wrap (0 : Int) = 0 := by decide
            go_wp2_with fail
            refine wp_region_quiet_lit (by kernel_rfl) (by kernel_rfl) ?_
            repeat (with_reducible refine wpQuiet_step ?_; intro K hK; go_simp; with_reducible refine hK _ ?_; clear hK K)
            with_reducible refine wpQuiet_nil ?_
            intro _ hw'
            obtain ⟨nq, hw''⟩ := hw'
            subst hw''
            have hb4 : Below w_1.heap.size w_1 (World.drewN w3 nq) := by repeat (first | with_reducible exact Below.refl _ _ | with_reducible refine bl_alloc ?_ _ | with_reducible refine bl_drewN ?_ _ | with_reducible refine bl_drew ?_ | (with_reducible refine bl_set ?_ ?_ _; rotate_left; focus (first | (simp; done) | (simp; omega) | omega)) | with_reducible refine below_step ?_ (Bw.below _) | with_reducible refine below_step ?_ (by assumption))
            have hown4 := own_bl hownD (show Below w3.heap.size w3 (World.drewN w3 nq) by repeat (first | with_reducible exact Below.refl _ _ | with_reducible refine bl_alloc ?_ _ | with_reducible refine bl_drewN ?_ _ | with_reducible refine bl_drew ?_ | (with_reducible refine bl_set ?_ ?_ _; rotate_left; focus (first | (simp; done) | (simp; omega) | omega)) | with_reducible refine below_step ?_ (Bw.below _) | with_reducible refine below_step ?_ (by assumption)))
            have s1 := bl_hold (show Below w3.heap.size w3 (World.drewN w3 nq) by repeat (first | with_reducible exact Below.refl _ _ | with_reducible refine bl_alloc ?_ _ | with_reducible refine bl_drewN ?_ _ | with_reducible refine bl_drew ?_ | (with_reducible refine bl_set ?_ ?_ _; rotate_left; focus (first | (simp; done) | (simp; omega) | omega)) | with_reducible refine below_step ?_ (Bw.below _) | with_reducible refine below_step ?_ (by assumption))) r1
            have s2 := bl_hold (show Below w3.heap.size w3 (World.drewN w3 nq) by repeat (first | with_reducible exact Below.refl _ _ | with_reducible refine bl_alloc ?_ _ | with_reducible refine bl_drewN ?_ _ | with_reducible refine bl_drew ?_ | (with_reducible refine bl_set ?_ ?_ _; rotate_left; focus (first | (simp; done) | (simp; omega) | omega)) | with_reducible refine below_step ?_ (Bw.below _) | with_reducible refine below_step ?_ (by assumption))) r2
            clear hownD hb3 r1 r2 r3 r4
            generalize World.drewN w3 nq = w4' at *
            go_wp2_with fail
            refine (HFL.out _).mono ?_
            rintro e_5 w_5 ⟨rfl, n5, rfl⟩
            have hb5 : Below w_1.heap.size w_1 (World.drewN w4' n5) := by repeat (first | with_reducible exact Below.refl _ _ | with_reducible refine bl_alloc ?_ _ | with_reducible refine bl_drewN ?_ _ | with_reducible refine bl_drew ?_ | (with_reducible refine bl_set ?_ ?_ _; rotate_left; focus (first | (simp; done) | (simp; omega) | omega)) | with_reducible refine below_step ?_ (Bw.below _) | with_reducible refine below_step ?_ (by assumption))
            have hown5 := own_bl hown4 (show Below w4'.heap.size w4' (World.drewN w4' n5) by repeat (first | with_reducible exact Below.refl _ _ | with_reducible refine bl_alloc ?_ _ | with_reducible refine bl_drewN ?_ _ | with_reducible refine bl_drew ?_ | (with_reducible refine bl_set ?_ ?_ _; rotate_left; focus (first | (simp; done) | (simp; omega) | omega)) | with_reducible refine below_step ?_ (Bw.below _) | with_reducible refine below_step ?_ (by assumption)))
            have t1 := bl_hold (show Below w4'.heap.size w4' (World.drewN w4' n5) by repeat (first | with_reducible exact Below.refl _ _ | with_reducible refine bl_alloc ?_ _ | with_reducible refine bl_drewN ?_ _ | with_reducible refine bl_drew ?_ | (with_reducible refine bl_set ?_ ?_ _; rotate_left; focus (first | (simp; done) | (simp; omega) | omega)) | with_reducible refine below_step ?_ (Bw.below _) | with_reducible refine below_step ?_ (by assumption))) s1
            have t2 := bl_hold (show Below w4'.heap.size w4' (World.drewN w4' n5) by repeat (first | with_reducible exact Below.refl _ _ | with_reducible refine bl_alloc ?_ _ | with_reducible refine bl_drewN ?_ _ | with_reducible refine bl_drew ?_ | (with_reducible refine bl_set ?_ ?_ _; rotate_left; focus (first | (simp; done) | (simp; omega) | omega)) | with_reducible refine below_step ?_ (Bw.below _) | with_reducible refine below_step ?_ (by assumption))) s2
            clear hown4 hb4 s1 s2
            generalize World.drewN w4' n5 = w5' at *
            have tz := cell_lt t1
            have hle5 := hb5.size
            go_wp2_with (at_builtin; refine wpList_append_own _ rfl (.tmp 129) (.tmp 131) 23 rfl w_1.heap.size 26 i0 (.agg #[.int .i64 0, .int .i64 0]) 2 16 Try.underlying23 hi hz0 hz1 hz2 rfl (by decide) _ _ _ rfl ((hown5.alloc _).alloc _) ⟨w5'.heap.size + 1, 0, none⟩ 1 1 [.int .i64 (x + F), .int .i64 t] rfl rfl (news2a _ _ _ _ _) (ones2 _ _ _ _) (by first | omega | (simp only [List.length_append, List.length_cons, List.length_nil]; omega)) (by first | omega | (simp only [List.length_append, List.length_cons, List.length_nil]; omega)) (by simp; omega) ?_)
            intro v'' w6 hown6 hgrow6 _
            have hb6 : Below w_1.heap.size w_1 w6 := bl_grown ((hown5.alloc _).alloc _) (Nat.le_refl _) hgrow6 (bl_alloc (bl_alloc hb5 _) _)
            have hown7 := own_push hown6 (by simp)
            clear hown5 hgrow6 hown6 t1 t2
            have HOWN := Lib.hid hown7
            clear hown7
            go_wp2_with fail
            go_roundg (N - (k + 1))
            case measure => omega
            case rel => exact ⟨k + 1, by omega, by go_num, by rw [HK.out, HC.out]; simpa using HOWN.out, hb6⟩
          · have HK := Lib.hid (hst.trans (congrArg (M ++ ·) (cutS_tf (kp_at (by simp [pcx] <;> omega)) (bt_no (by simp [pcx] <;> omega)))))
            clear hst
            go_wp2_with (at_builtin; refine wpList_append_own _ rfl (.tmp 66) (.tmp 68) 23 rfl w_1.heap.size 26 i0 (.agg #[.int .i64 0, .int .i64 0]) 2 16 Try.underlying23 hi hz0 hz1 hz2 rfl (by decide) _ _ _ rfl (hown8.alloc _) ⟨wz.heap.size, 0, none⟩ 1 1 [.int .i64 x, .int .i64 y] rfl rfl (news2 _ _ _ _) (ones2 _ _ _ _) (by first | omega | (simp only [List.length_append, List.length_cons, List.length_nil]; omega)) (by first | omega | (simp only [List.length_append, List.length_cons, List.length_nil]; omega)) (Nat.le_trans hbz.size (bl_alloc (Below.refl wz.heap.size wz) (.cells #[.int .i64 x, .int .i64 y] 26)).size) ?_)
            intro v' w3 hown3 hgrow _
            have hb3 : Below w_1.heap.size w_1 w3 := bl_grown (hown8.alloc _) (Nat.le_refl _) hgrow (bl_alloc hbz _)
            have r1 := gr_other hgrow ((cell_al (cell_lt kc1) _).trans kc1) hne1
            have r2 := gr_other hgrow ((cell_al (cell_lt kc2) _).trans kc2) hne1
            have r3 := gr_other hgrow ((cell_al (cell_lt kc3) _).trans kc3) hne2
            have r4 := gr_other hgrow ((cell_al (cell_lt kc4) _).trans kc4) hne2
            have hownD := own_push hown3 rfl
            clear hown8 hgrow hown3 kc1 kc2 kc3 kc4 hbz hne1 hne2
            have HOWN := Lib.hid hownD
            clear hownD
            go_wp2_with fail
            go_roundg (N - (k + 1))
            case measure => omega
            case rel => exact ⟨k + 1, by omega, by go_num, by rw [HK.out]; simpa using HOWN.out, by first | exact hb3 | (exact below_step hb3 (by repeat (first | with_reducible exact Below.refl _ _ | with_reducible refine bl_alloc ?_ _ | with_reducible refine bl_drewN ?_ _ | with_reducible refine bl_drew ?_ | (with_reducible refine bl_set ?_ ?_ _; rotate_left; focus (first | (simp; done) | (simp; omega) | omega)) | with_reducible refine below_step ?_ (Bw.below _) | with_reducible refine below_step ?_ (by assumption))))⟩
    · subst hlt
      rw [← HEND.out] at hown
      have hown' := Lib.hid hown
      clear hown
      go_wp2_with fail
      go_ret
      exact ⟨_, rfl, own_mono hown'.out hb_1.size, below_step hb_1 hb⟩
end Go.Proofs.Ytnmehelejdbjaaa

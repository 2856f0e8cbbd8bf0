
/- The reference's Set: what it tells are some of the words that it got. -/
import Derived.Test.YtmipkloleklnkaaWords
import Derived.Deep.RegionLaw
namespace Go.Proofs.Ytmipkloleklnkaa
open Go.RowKit
set_option linter.unusedSimpArgs false
set_option linter.unusedVariables false
theorem size_U64 : (Try.prog.info? 22).map (fun i => i.size) = some 1 := by kernel_rfl
set_option maxRecDepth 100000 in
set_option maxHeartbeats 4000000 in
theorem ref_set (L : List Int) (X : Option Addr) (cap N : Nat) (hN : L.length = N) (hN2 : N ≤ 20000) (w : World) (hr : WsAt w X L) :
    Calls Try.prog 42 #[.slice X N cap] w fun e w' => ∃ (X' : Option Addr) (m cap' : Nat) (M : List Int), e = .returned (.slice X' m cap') ∧ M.length = m ∧ WsAt w' X' M ∧ (∀ x ∈ M, x ∈ L) ∧ (0 < N → 0 < m) ∧ m ≤ N ∧ Below w.heap.size w w' := by
  have HR := Lib.hid hr
  have HN := Lib.hid hN
  clear hr hN
  obtain ⟨i0, hi, hz0, hz1, hz2⟩ := info_parts info_U64
  have hmax : N + 1 ≤ maxLen := by unfold maxLen; omega
  go_enter Try.func42, Try.ntmps42
  go_wp2_with fail
  go_loopg [3, 4] N (fun m v i W => ∃ (k c : Nat) (M : List Int), k + m = N ∧ i = .int .i64 (k : Int) ∧ W.ownsRow w.heap.size 22 1 v c (wsR M) ∧ c ≤ k ∧ (0 < k → 0 < c) ∧ (∀ x ∈ M, x ∈ L) ∧ Below w.heap.size w W)
  case atStart => exact ⟨0, 0, [], by omega, rfl, World.ownsRow_nil _ _ _ _, by omega, by omega, by simp, Below.refl _ _⟩
  case round =>
    obtain ⟨k, c, M, hk, rfl, hown, hck, hc0, hML, hb⟩ := hrel
    have HML := Lib.hid hML
    have HC0 := Lib.hid hc0
    clear hML hc0
    obtain ⟨Y, cp, rfl, hMl, hws⟩ := own_wsX hown
    have HMl := Lib.hid hMl
    have HWS := Lib.hid hws
    clear hMl hws
    rcases (show k < N ∨ k = N by omega) with hlt | hlt
    · have hkI : (k : Int) < (N : Int) := by omega
      obtain ⟨gx, eX, cx⟩ := HR.out k (by rw [HN.out]; exact hlt)
      subst eX
      have hgx : gx < w.heap.size := cell_lt cx
      have HX : Hid (L.getD k 0 ∈ L) := Lib.hid (by
        rw [List.getD_eq_getElem?_getD, List.getElem?_eq_getElem (by rw [HN.out]; exact hlt)]
        exact List.getElem_mem _)
      generalize L.getD k 0 = x at *
      have CX := Lib.hid (fun (W : World) (hW : Below w.heap.size w W) => (bl_hold hW cx : W.cell? ⟨gx, k, none⟩ = some (.int .u64 x)))
      clear cx
      go_wp2_with fail
      go_loopg [5, 6] c (fun m lo hi W => ∃ a b : Nat, a + m = b ∧ b ≤ c ∧ lo = .int .i64 (a : Int) ∧ hi = .int .i64 (b : Int) ∧ Below wr.heap.size wr W)
      case atStart => exact ⟨0, c, by omega, by omega, rfl, rfl, by repeat (first | with_reducible exact Below.refl _ _ | with_reducible refine bl_alloc ?_ _ | with_reducible refine bl_drewN ?_ _ | with_reducible refine bl_drew ?_ | (with_reducible refine bl_set ?_ ?_ _; rotate_left; focus (first | (simp; done) | (simp; omega) | omega)) | with_reducible refine below_step ?_ (Bw.below _) | with_reducible refine below_step ?_ (by assumption))⟩
      case round =>
        obtain ⟨a, b, hab, hbc, rfl, rfl, hb2⟩ := hrel
        have cx := CX.out _ (below_step hb hb2)
        rcases (show a < b ∨ a = b by omega) with h | h
        · have habI : (a : Int) < (b : Int) := by omega
          obtain ⟨md, hmd⟩ : ∃ md : Nat, (a + b) / 2 = md := ⟨_, rfl⟩
          have h1 : a ≤ md := by omega
          have h2 : md < b := by omega
          have hmc : (md : Int) < (c : Int) := by omega
          have hq : ((a : Int) + (b : Int)).tdiv 2 = (md : Int) := by rw [Int.tdiv_eq_ediv_of_nonneg (by omega)]; omega
          have hw1 : IntKind.i64.wrap ((a : Int) + (b : Int)) = (a : Int) + (b : Int) := by rw [IntKind.wrap_i64]; omega
          have hw2 : IntKind.i64.wrap (md : Int) = (md : Int) := by rw [IntKind.wrap_i64]; omega
          have hw3 : IntKind.i64.wrap ((md : Int) + 1) = (md : Int) + 1 := by rw [IntKind.wrap_i64]; omega
          obtain ⟨gy, eY, cy0⟩ := HWS.out md (by rw [HMl.out]; omega)
          subst eY
          have cy := bl_hold hb2 cy0
          generalize M.getD md 0 = y at *
          clear cy0 hmd
          by_cases hyx : y < x
          · go_wp2_with fail
            go_quiet (fail)
            go_wp2_with fail
            go_roundg (b - (md + 1))
            case measure => omega
            case rel => exact ⟨md + 1, b, by omega, by omega, by go_num, rfl, by repeat (first | with_reducible exact Below.refl _ _ | with_reducible refine bl_alloc ?_ _ | with_reducible refine bl_drewN ?_ _ | with_reducible refine bl_drew ?_ | (with_reducible refine bl_set ?_ ?_ _; rotate_left; focus (first | (simp; done) | (simp; omega) | omega)) | with_reducible refine below_step ?_ (Bw.below _) | with_reducible refine below_step ?_ (by assumption))⟩
          · go_wp2_with fail
            go_quiet (fail)
            go_wp2_with fail
            go_roundg (md - a)
            case measure => omega
            case rel => exact ⟨a, md, by omega, by omega, rfl, rfl, by repeat (first | with_reducible exact Below.refl _ _ | with_reducible refine bl_alloc ?_ _ | with_reducible refine bl_drewN ?_ _ | with_reducible refine bl_drew ?_ | (with_reducible refine bl_set ?_ ?_ _; rotate_left; focus (first | (simp; done) | (simp; omega) | omega)) | with_reducible refine below_step ?_ (Bw.below _) | with_reducible refine below_step ?_ (by assumption))⟩
        · subst h
          have hown2 := own_bl hown hb2
          have hb3 := below_step hb hb2
          have haI : (a : Int) ≤ (c : Int) := by omega
          rcases (show a < c ∨ a = c by omega) with hac | hac
          · have hacI : (a : Int) < (c : Int) := by omega
            obtain ⟨gy, eY, cy0⟩ := HWS.out a (by rw [HMl.out]; omega)
            subst eY
            have cy := bl_hold hb2 cy0
            clear cy0 hown hb hb2
            generalize M.getD a 0 = y at *
            by_cases hyx : y = x
            · subst hyx
              go_wp2_with fail
              refine wp_region_quiet_lit (by kernel_rfl) (by kernel_rfl) ?_
              repeat (with_reducible refine wpQuiet_step ?_; intro K hK; go_simp; with_reducible refine hK _ ?_; clear hK K)
              with_reducible refine wpQuiet_nil ?_
              intro _ hw'
              obtain ⟨nq, hw''⟩ := hw'
              subst hw''
              have hown5 := own_bl hown2 (show Below wr.heap.size wr (World.drewN wr nq) by repeat (first | with_reducible exact Below.refl _ _ | with_reducible refine bl_alloc ?_ _ | with_reducible refine bl_drewN ?_ _ | with_reducible refine bl_drew ?_ | (with_reducible refine bl_set ?_ ?_ _; rotate_left; focus (first | (simp; done) | (simp; omega) | omega)) | with_reducible refine below_step ?_ (Bw.below _) | with_reducible refine below_step ?_ (by assumption)))
              have hb5 : Below w.heap.size w (World.drewN wr nq) := by repeat (first | with_reducible exact Below.refl _ _ | with_reducible refine bl_alloc ?_ _ | with_reducible refine bl_drewN ?_ _ | with_reducible refine bl_drew ?_ | (with_reducible refine bl_set ?_ ?_ _; rotate_left; focus (first | (simp; done) | (simp; omega) | omega)) | with_reducible refine below_step ?_ (Bw.below _) | with_reducible refine below_step ?_ (by assumption))
              clear hown2 hb3 cx cy
              generalize World.drewN wr nq = wz at *
              go_wp2_with fail
              go_roundg (N - (k + 1))
              case measure => omega
              case rel => exact ⟨k + 1, c, M, by omega, by go_num, hown5, by omega, by omega, HML.out, hb5⟩
            · have hyx2 : (y == x) = false := by simpa using hyx
              go_wp2_with fail
              refine wp_region_quiet_lit (by kernel_rfl) (by kernel_rfl) ?_
              repeat (with_reducible refine wpQuiet_step ?_; intro K hK; go_simp; with_reducible refine hK _ ?_; clear hK K)
              with_reducible refine wpQuiet_nil ?_
              intro _ hw'
              obtain ⟨nq, hw''⟩ := hw'
              subst hw''
              have hb5 : Below w.heap.size w (World.drewN wr nq) := by repeat (first | with_reducible exact Below.refl _ _ | with_reducible refine bl_alloc ?_ _ | with_reducible refine bl_drewN ?_ _ | with_reducible refine bl_drew ?_ | (with_reducible refine bl_set ?_ ?_ _; rotate_left; focus (first | (simp; done) | (simp; omega) | omega)) | with_reducible refine below_step ?_ (Bw.below _) | with_reducible refine below_step ?_ (by assumption))
              have hown5 := own_bl hown2 (show Below wr.heap.size wr (World.drewN wr nq) by repeat (first | with_reducible exact Below.refl _ _ | with_reducible refine bl_alloc ?_ _ | with_reducible refine bl_drewN ?_ _ | with_reducible refine bl_drew ?_ | (with_reducible refine bl_set ?_ ?_ _; rotate_left; focus (first | (simp; done) | (simp; omega) | omega)) | with_reducible refine below_step ?_ (Bw.below _) | with_reducible refine below_step ?_ (by assumption)))
              have cx5 := CX.out _ hb5
              clear hown2 hb3 cx
              generalize World.drewN wr nq = wz at *
              have hm1 : c + 1 ≤ maxLen := by omega
              have hm2 : (c + 1) * 8 ≤ 140737488355328 := by omega
              go_wp2_with (at_builtin; refine wpList_append_own _ rfl (.tmp 50) (.tmp 51) 39 rfl w.heap.size 22 i0 (.int .u64 0) 1 8 Try.underlying39 hi hz0 hz1 hz2 rfl (by decide) _ _ _ rfl (hown5.alloc _) ⟨wz.heap.size, 0, none⟩ 1 1 [.int .u64 0] rfl rfl (news1 _ _ _) (ones1 _ _) hm1 hm2 (Nat.le_trans hb5.size (bl_alloc (Below.refl _ _) _).size) ?_)
              intro v' w6 hown6 hgrow _
              have hb6 := bl_grown (hown5.alloc _) (Nat.le_refl _) hgrow (bl_alloc hb5 _)
              clear hown5 hgrow hb5 cx5
              obtain ⟨g, cp6, cur, rfl, hBg, hheap, hc1, hcm, hcs, ht⟩ := own_row hown6 (by omega)
              have HT := Lib.hid ht
              have HCS := Lib.hid hcs
              obtain ⟨g7, cap7, e7, _, _, hws7⟩ := own_ws (L := M ++ [0]) (by rw [wsR_append]; exact hown6) (by omega)
              cases e7
              have HSRC := Lib.hid (src_cells (a := a) hws7)
              clear ht hown6 HWS hws7 hcs
              have hle1 : ¬ (c : Int) + 1 < (a : Int) + 1 := by omega
              have hle2 : ¬ (c : Int) + 1 < (a : Int) := by omega
              have hpo1 : (0 : Int) ≤ (a : Int) + 1 := by omega
              have hne2 : ¬ cp6 = a := by omega
              have hw4 : IntKind.i64.wrap ((a : Int) + 1) = (a : Int) + 1 := by rw [IntKind.wrap_i64]; omega
              go_wp2_with fail
              have hne1 : ¬ cp6 = a + 1 := by omega
              go_region_law (refine step_copy_splice rfl (.tmp 56) (.tmp 59) 39 39 rfl 22 Try.underlying39 size_U64 (some ⟨g, a + 1, none⟩) (some ⟨g, a, none⟩) (c - a) (cp6 - (a + 1)) (c + 1 - a) (cp6 - a) (by simp [Act.eval, Act.put]) (by simp [Act.eval, Act.put]) g (a + 1) cur 22 hheap (wsR (M.drop a)) (by have h1 := HMl.out; rw [wsR_len, List.length_drop]; show _ = min _ _; omega) (fun h0 => ⟨rfl, ⟨g, a, none⟩, rfl, fun j u hj => HSRC.out j u hj⟩) (by have h1 := HMl.out; have h2 := HCS.out; rw [wsR_len, List.length_drop]; omega) (wsR_ones _) w.heap.size w (by repeat (first | with_reducible exact Below.refl _ _ | with_reducible refine bl_alloc ?_ _ | with_reducible refine bl_drewN ?_ _ | with_reducible refine bl_drew ?_ | (with_reducible refine bl_set ?_ ?_ _; rotate_left; focus (first | (simp; done) | (simp; omega) | omega)) | with_reducible refine below_step ?_ (Bw.below _) | with_reducible refine below_step ?_ (by assumption))) hBg ?_; intro w7 hg7 hb7)
              obtain ⟨z, hown7⟩ := own_spliced HMl.out hBg hg7.out hc1 hcm HCS.out (by rw [HT.out, wsR_append]; rfl) (by omega)
              clear hg7 hheap
              obtain ⟨g7, cap7, e7, _, _, hws7⟩ := own_ws hown7 (by omega)
              cases e7
              obtain ⟨g8, e8, cz⟩ := hws7 a (by have h1 := HMl.out; rw [List.length_append, List.length_cons, List.length_take, List.length_drop]; omega)
              cases e8
              have cf := hown7.frozenAt a
              have cx7 := CX.out _ hb7
              generalize (M.take a ++ z :: M.drop a).getD a 0 = z' at *
              have HO7 := Lib.hid hown7
              clear hown7 hws7 hb6
              go_wp2_with fail
              go_roundg (N - (k + 1))
              case measure => omega
              case rel => exact ⟨k + 1, c + 1, M.take a ++ x :: M.drop a, by omega, by go_num, own_put x HMl.out (by omega) HO7.out, by omega, by omega, fun y hy => by
                rcases mem_ins M a x y hy with h | h
                · rw [h]; exact HX.out
                · exact HML.out y h, by repeat (first | with_reducible exact Below.refl _ _ | with_reducible refine bl_alloc ?_ _ | with_reducible refine bl_drewN ?_ _ | with_reducible refine bl_drew ?_ | (with_reducible refine bl_set ?_ ?_ _; rotate_left; focus (first | (simp; done) | (simp; omega) | omega)) | with_reducible refine below_step ?_ (Bw.below _) | with_reducible refine below_step ?_ (by assumption))⟩
          · subst hac
            have hacI : ¬ (a : Int) < (a : Int) := by omega
            clear hown hb hb2
            go_wp2_with fail
            refine wp_region_quiet_lit (by kernel_rfl) (by kernel_rfl) ?_
            repeat (with_reducible refine wpQuiet_step ?_; intro K hK; go_simp; with_reducible refine hK _ ?_; clear hK K)
            with_reducible refine wpQuiet_nil ?_
            intro _ hw'
            obtain ⟨nq, hw''⟩ := hw'
            subst hw''
            have hb5 : Below w.heap.size w (World.drewN wr nq) := by repeat (first | with_reducible exact Below.refl _ _ | with_reducible refine bl_alloc ?_ _ | with_reducible refine bl_drewN ?_ _ | with_reducible refine bl_drew ?_ | (with_reducible refine bl_set ?_ ?_ _; rotate_left; focus (first | (simp; done) | (simp; omega) | omega)) | with_reducible refine below_step ?_ (Bw.below _) | with_reducible refine below_step ?_ (by assumption))
            have hown5 := own_bl hown2 (show Below wr.heap.size wr (World.drewN wr nq) by repeat (first | with_reducible exact Below.refl _ _ | with_reducible refine bl_alloc ?_ _ | with_reducible refine bl_drewN ?_ _ | with_reducible refine bl_drew ?_ | (with_reducible refine bl_set ?_ ?_ _; rotate_left; focus (first | (simp; done) | (simp; omega) | omega)) | with_reducible refine below_step ?_ (Bw.below _) | with_reducible refine below_step ?_ (by assumption)))
            have cx5 := CX.out _ hb5
            clear hown2 hb3 cx
            generalize World.drewN wr nq = wz at *
            have hm1 : a + 1 ≤ maxLen := by omega
            have hm2 : (a + 1) * 8 ≤ 140737488355328 := by omega
            go_wp2_with (at_builtin; refine wpList_append_own _ rfl (.tmp 50) (.tmp 51) 39 rfl w.heap.size 22 i0 (.int .u64 0) 1 8 Try.underlying39 hi hz0 hz1 hz2 rfl (by decide) _ _ _ rfl (hown5.alloc _) ⟨wz.heap.size, 0, none⟩ 1 1 [.int .u64 0] rfl rfl (news1 _ _ _) (ones1 _ _) hm1 hm2 (Nat.le_trans hb5.size (bl_alloc (Below.refl _ _) _).size) ?_)
            intro v' w6 hown6 hgrow _
            have hb6 := bl_grown (hown5.alloc _) (Nat.le_refl _) hgrow (bl_alloc hb5 _)
            clear hown5 hgrow hb5 cx5
            obtain ⟨g, cp6, cur, rfl, hBg, hheap, hc1, hcm, hcs, ht⟩ := own_row hown6 (by omega)
            have HT := Lib.hid ht
            have HCS := Lib.hid hcs
            obtain ⟨g7, cap7, e7, _, _, hws7⟩ := own_ws (L := M ++ [0]) (by rw [wsR_append]; exact hown6) (by omega)
            cases e7
            have HSRC := Lib.hid (src_cells (a := a) hws7)
            clear ht hown6 HWS hws7 hcs
            have hle1 : ¬ (a : Int) + 1 < (a : Int) + 1 := by omega
            have hle2 : ¬ (a : Int) + 1 < (a : Int) := by omega
            have hpo1 : (0 : Int) ≤ (a : Int) + 1 := by omega
            have hne2 : ¬ cp6 = a := by omega
            have hw4 : IntKind.i64.wrap ((a : Int) + 1) = (a : Int) + 1 := by rw [IntKind.wrap_i64]; omega
            go_wp2_with fail
            rcases (show a + 1 < cp6 ∨ a + 1 = cp6 by omega) with hcp | hcp
            · have hne1 : ¬ cp6 = a + 1 := by omega
              go_region_law (refine step_copy_splice rfl (.tmp 56) (.tmp 59) 39 39 rfl 22 Try.underlying39 size_U64 (some ⟨g, a + 1, none⟩) (some ⟨g, a, none⟩) 0 (cp6 - (a + 1)) 1 (cp6 - a) (by simp [Act.eval, Act.put]) (by simp [Act.eval, Act.put]) g (a + 1) cur 22 hheap (wsR (M.drop a)) (by have h1 := HMl.out; rw [wsR_len, List.length_drop]; show _ = min _ _; omega) (fun h0 => absurd h0 (by have h1 := HMl.out; rw [wsR_len, List.length_drop]; omega)) (by have h1 := HMl.out; have h2 := HCS.out; rw [wsR_len, List.length_drop]; omega) (wsR_ones _) w.heap.size w (by repeat (first | with_reducible exact Below.refl _ _ | with_reducible refine bl_alloc ?_ _ | with_reducible refine bl_drewN ?_ _ | with_reducible refine bl_drew ?_ | (with_reducible refine bl_set ?_ ?_ _; rotate_left; focus (first | (simp; done) | (simp; omega) | omega)) | with_reducible refine below_step ?_ (Bw.below _) | with_reducible refine below_step ?_ (by assumption))) hBg ?_; intro w7 hg7 hb7)
              obtain ⟨z, hown7⟩ := own_spliced HMl.out hBg hg7.out hc1 hcm HCS.out (by rw [HT.out, wsR_append]; rfl) (by omega)
              clear hg7 hheap
              obtain ⟨g7, cap7, e7, _, _, hws7⟩ := own_ws hown7 (by omega)
              cases e7
              obtain ⟨g8, e8, cz⟩ := hws7 a (by have h1 := HMl.out; rw [List.length_append, List.length_cons, List.length_take, List.length_drop]; omega)
              cases e8
              have cf := hown7.frozenAt a
              have cx7 := CX.out _ hb7
              generalize (M.take a ++ z :: M.drop a).getD a 0 = z' at *
              have HO7 := Lib.hid hown7
              clear hown7 hws7 hb6
              go_wp2_with fail
              go_roundg (N - (k + 1))
              case measure => omega
              case rel => exact ⟨k + 1, a + 1, M.take a ++ x :: M.drop a, by omega, by go_num, own_put x HMl.out (by omega) HO7.out, by omega, by omega, fun y hy => by
                rcases mem_ins M a x y hy with h | h
                · rw [h]; exact HX.out
                · exact HML.out y h, by repeat (first | with_reducible exact Below.refl _ _ | with_reducible refine bl_alloc ?_ _ | with_reducible refine bl_drewN ?_ _ | with_reducible refine bl_drew ?_ | (with_reducible refine bl_set ?_ ?_ _; rotate_left; focus (first | (simp; done) | (simp; omega) | omega)) | with_reducible refine below_step ?_ (Bw.below _) | with_reducible refine below_step ?_ (by assumption))⟩
            · subst hcp
              go_region_law (refine step_copy_splice rfl (.tmp 56) (.tmp 59) 39 39 rfl 22 Try.underlying39 size_U64 (some ⟨g, 0, none⟩) (some ⟨g, a, none⟩) 0 0 1 1 (by simp [Act.eval, Act.put]) (by simp [Act.eval, Act.put]) g (a + 1) cur 22 hheap (wsR (M.drop a)) (by have h1 := HMl.out; rw [wsR_len, List.length_drop]; show _ = min _ _; omega) (fun h0 => absurd h0 (by have h1 := HMl.out; rw [wsR_len, List.length_drop]; omega)) (by have h1 := HMl.out; have h2 := HCS.out; rw [wsR_len, List.length_drop]; omega) (wsR_ones _) w.heap.size w (by repeat (first | with_reducible exact Below.refl _ _ | with_reducible refine bl_alloc ?_ _ | with_reducible refine bl_drewN ?_ _ | with_reducible refine bl_drew ?_ | (with_reducible refine bl_set ?_ ?_ _; rotate_left; focus (first | (simp; done) | (simp; omega) | omega)) | with_reducible refine below_step ?_ (Bw.below _) | with_reducible refine below_step ?_ (by assumption))) hBg ?_; intro w7 hg7 hb7)
              obtain ⟨z, hown7⟩ := own_spliced HMl.out hBg hg7.out hc1 hcm HCS.out (by rw [HT.out, wsR_append]; rfl) (by omega)
              clear hg7 hheap
              obtain ⟨g7, cap7, e7, _, _, hws7⟩ := own_ws hown7 (by omega)
              cases e7
              obtain ⟨g8, e8, cz⟩ := hws7 a (by have h1 := HMl.out; rw [List.length_append, List.length_cons, List.length_take, List.length_drop]; omega)
              cases e8
              have cf := hown7.frozenAt a
              have cx7 := CX.out _ hb7
              generalize (M.take a ++ z :: M.drop a).getD a 0 = z' at *
              have HO7 := Lib.hid hown7
              clear hown7 hws7 hb6
              go_wp2_with fail
              go_roundg (N - (k + 1))
              case measure => omega
              case rel => exact ⟨k + 1, a + 1, M.take a ++ x :: M.drop a, by omega, by go_num, own_put x HMl.out (by omega) HO7.out, by omega, by omega, fun y hy => by
                rcases mem_ins M a x y hy with h | h
                · rw [h]; exact HX.out
                · exact HML.out y h, by repeat (first | with_reducible exact Below.refl _ _ | with_reducible refine bl_alloc ?_ _ | with_reducible refine bl_drewN ?_ _ | with_reducible refine bl_drew ?_ | (with_reducible refine bl_set ?_ ?_ _; rotate_left; focus (first | (simp; done) | (simp; omega) | omega)) | with_reducible refine below_step ?_ (Bw.below _) | with_reducible refine below_step ?_ (by assumption))⟩
    · subst hlt
      have hws := HWS.out
      have hc0 := HC0.out
      go_wp2_with fail
      refine bodyPost_ret (v := .slice Y c cp) (by simp [results, Try.results42, go_sem]) rfl ⟨Y, c, cp, M, rfl, HMl.out, hws, HML.out, hc0, hck, hb⟩
end Go.Proofs.Ytmipkloleklnkaa

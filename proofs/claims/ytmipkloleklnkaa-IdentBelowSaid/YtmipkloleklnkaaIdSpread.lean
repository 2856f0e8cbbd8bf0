
/- The reference's Spread of one word: words below it, and some at all. -/
import Derived.Test.YtmipkloleklnkaaIdKids
import Derived.Test.YtmipkloleklnkaaIdSet
namespace Go.Proofs.Ytmipkloleklnkaa
open Go.RowKit
set_option linter.unusedSimpArgs false
set_option linter.unusedVariables false
theorem seven_four (j : Nat) (h : j ≤ 4) : 7 ^ j ≤ 2401 := Nat.le_trans (Nat.pow_le_pow_right (by omega) h) (by decide)
set_option maxRecDepth 100000 in
set_option maxHeartbeats 4000000 in
theorem ref_spread (a b : Int) (R n D : Nat) (hD : R + D = n) (hn : n ≤ 12) (hD4 : D ≤ 4) (ok : okB (R : Int) a b = true) (g cap : Nat) (w : World) (hc : w.cell? ⟨g, 0, none⟩ = some (.int .u64 (wv a b R))) :
    Calls Try.prog 18 #[.slice (some ⟨g, 0, none⟩) 1 cap, .int .i64 (n : Int)] w fun e w' => ∃ (X : Option Addr) (m cp : Nat) (M : List Int), e = .returned (.tuple #[.slice X m cp, .int .i64 0]) ∧ M.length = m ∧ WsAt w' X M ∧ (∀ x ∈ M, Dw (pr a b R) n D x) ∧ 0 < m ∧ m ≤ 2401 ∧ Below w.heap.size w w' := by
  obtain ⟨⟨p1, p2⟩, p3, p4, _⟩ := word_of ok
  rw [Int.toNat_natCast] at *
  have SZ := Lib.hid (fun W (hW : W.cell? ⟨g, 0, none⟩ = some (.int .u64 (wv a b R))) => ref_size1 (wv a b R) R n D p1 p2 p3 p4 hD hn g cap W hW)
  have hm15 : bits .and .u64 (wv a b R / 72057594037927936) 15 = (R : Int) := (u64_mask _ 4 (by omega)).trans p4
  have HW0 : Hid (Dw (pr a b R) R 0 (wv a b R)) := Lib.hid ⟨0, Int.le_refl 0, Int.le_refl 0, dn_start a b R ok⟩
  obtain ⟨s1, _⟩ := p7_fits5 D (by omega)
  have s2 := p7_four5 D (by omega)
  have HP4 : Hid (∀ j : Nat, j ≤ D → 7 ^ j ≤ 2401) := Lib.hid fun j hj => seven_four j (by omega)
  obtain ⟨i0, hi, hz0, hz1, hz2⟩ := info_parts info_U64
  have hRw : IntKind.i64.wrap (R : Int) = (R : Int) := by rw [IntKind.wrap_i64]; omega
  clear p1 p2 p3 p4 ok
  generalize wv a b R = P0 at *
  generalize pr a b R = P at *
  generalize p7 D = S at *
  have hS : ¬ (20000 : Int) < S := by omega
  go_enter Try.func18, Try.ntmps18
  go_wp2_with fail
  refine (SZ.out _ (by first | exact hc | exact bl_hold (by repeat (first | with_reducible exact Below.refl _ _ | with_reducible refine bl_alloc ?_ _ | with_reducible refine bl_drewN ?_ _ | with_reducible refine bl_drew ?_ | (with_reducible refine bl_set ?_ ?_ _; rotate_left; focus (first | (simp; done) | (simp; omega) | omega)) | with_reducible refine below_step ?_ (Bw.below _) | with_reducible refine below_step ?_ (by assumption))) hc)).mono ?_
  rintro e_1 w_1 ⟨rfl, hb_1⟩
  have hc1 := bl_hold hb_1 hc
  clear hc SZ
  go_wp2_with fail
  go_loopg [8, 9] 1 (fun m v i W => ∃ k : Nat, k + m = 1 ∧ i = .int .i64 (k : Int) ∧ ((k = 0 ∧ v = .slice none 0 0) ∨ (k = 1 ∧ ∃ (c : Nat) (M : List Int), W.ownsRow w.heap.size 22 1 v c (wsR M) ∧ 0 < c ∧ c ≤ 2401 ∧ ∀ x ∈ M, Dw P n D x)) ∧ Below w_1.heap.size w_1 W)
  case atStart => exact ⟨0, by omega, rfl, .inl ⟨rfl, rfl⟩, by repeat (first | with_reducible exact Below.refl _ _ | with_reducible refine bl_alloc ?_ _ | with_reducible refine bl_drewN ?_ _ | with_reducible refine bl_drew ?_ | (with_reducible refine bl_set ?_ ?_ _; rotate_left; focus (first | (simp; done) | (simp; omega) | omega)) | with_reducible refine below_step ?_ (Bw.below _) | with_reducible refine below_step ?_ (by assumption))⟩
  case round =>
    obtain ⟨k, hk, rfl, hv, hb⟩ := hrel
    rcases hv with ⟨rfl, rfl⟩ | ⟨rfl, c, M, hown, hc0, hc4, hM⟩
    · have hc2 := bl_hold hb hc1
      have hglt := cell_lt hc2
      have hBr : w.heap.size ≤ wr.heap.size := Nat.le_trans hb_1.size hb.size
      go_wp2_with fail
      go_loopg [10, 11] D (fun m v i W => ∃ (j c cp : Nat) (X : Option Addr) (Ns : List Int), j + m = D ∧ i = .int .i64 ((R + j : Nat) : Int) ∧ v = .slice X c cp ∧ Ns.length = c ∧ c = 7 ^ j ∧ WsAt W X Ns ∧ (∀ x ∈ Ns, Dw P (R + j) j x) ∧ Below wr.heap.size wr W)
      case atStart => exact ⟨0, 1, 1, some ⟨wr.heap.size, 0, none⟩, [P0], by omega, rfl, rfl, rfl, rfl, fun j hj => ⟨_, rfl, by simp at hj; subst hj; simp [go_sem]⟩, fun x hx => by simp at hx; subst hx; exact HW0.out, by repeat (first | with_reducible exact Below.refl _ _ | with_reducible refine bl_alloc ?_ _ | with_reducible refine bl_drewN ?_ _ | with_reducible refine bl_drew ?_ | (with_reducible refine bl_set ?_ ?_ _; rotate_left; focus (first | (simp; done) | (simp; omega) | omega)) | with_reducible refine below_step ?_ (Bw.below _) | with_reducible refine below_step ?_ (by assumption))⟩
      case round =>
        obtain ⟨j, c, cp, X, Ns, hj, rfl, rfl, hl, hcj, hws, hDw, hb2⟩ := hrel
        have HL := Lib.hid hl
        have HCJ := Lib.hid hcj
        have HWS := Lib.hid hws
        have HDW := Lib.hid hDw
        have hc24 : c ≤ 2401 := by rw [hcj]; exact HP4.out j (by omega)
        have hcpos : 0 < c := by rw [hcj]; exact Nat.pow_pos (by omega)
        clear hl hcj hws hDw
        rcases (show j < D ∨ j = D by omega) with hlt | hlt
        · have hlt1 : ((R + j : Nat) : Int) < (n : Int) := by omega
          have hw1 : IntKind.i64.wrap (((R + j : Nat) : Int) + 1) = ((R + j : Nat) : Int) + 1 := by rw [IntKind.wrap_i64]; omega
          obtain ⟨T, hT⟩ : ∃ T : Nat, R + j = T := ⟨_, rfl⟩
          have HTT := Lib.hid hT
          rw [hT] at hlt1 hw1 ⊢
          clear hT
          have hTn : T < n := by omega
          obtain ⟨Wm, hWm⟩ : ∃ W, W = wr := ⟨_, rfl⟩
          subst hWm
          go_wp2_with fail
          go_loopg [12, 13] c (fun m v i W => ∃ (k : Nat) (Ms : List Int), k + m = c ∧ i = .int .i64 (k : Int) ∧ W.ownsRow Wm.heap.size 22 1 v (k * 7) (wsR Ms) ∧ (∀ x ∈ Ms, Dw P (T + 1) (j + 1) x) ∧ Below Wm.heap.size Wm W)
          case atStart => exact ⟨0, [], by omega, rfl, World.ownsRow_nil _ _ _ _, by simp, by repeat (first | with_reducible exact Below.refl _ _ | with_reducible refine bl_alloc ?_ _ | with_reducible refine bl_drewN ?_ _ | with_reducible refine bl_drew ?_ | (with_reducible refine bl_set ?_ ?_ _; rotate_left; focus (first | (simp; done) | (simp; omega) | omega)) | with_reducible refine below_step ?_ (Bw.below _) | with_reducible refine below_step ?_ (by assumption))⟩
          case round =>
            obtain ⟨k, Ms, hk2, rfl, hown, hMs, hb3⟩ := hrel
            have HMS := Lib.hid hMs
            clear hMs
            rcases (show k < c ∨ k = c by omega) with hlt2 | hlt2
            · have hkI : (k : Int) < (c : Int) := by omega
              obtain ⟨gx, eX, cx⟩ := HWS.out k (by rw [HL.out]; exact hlt2)
              subst eX
              have hmem : Ns.getD k 0 ∈ Ns := by
                rw [List.getD_eq_getElem?_getD, List.getElem?_eq_getElem (by rw [HL.out]; exact hlt2)]
                exact List.getElem_mem _
              obtain ⟨e, he, he', p, q, okq, hpr, hxw⟩ := HDW.out _ hmem
              rw [HTT.out] at okq hpr hxw
              rw [hxw] at cx
              have cx3 := bl_hold hb3 cx
              have KW := Lib.hid (ref_kw p q T (by omega) okq)
              have HKL := Lib.hid (kwL_dw P T j e p q (by omega) he he' okq hpr 7 (by omega))
              have HKN := Lib.hid (kwL_len p q T 7)
              clear hmem he he' okq hpr hxw cx
              generalize wv p q T = F at *
              generalize kwL p q T 7 = KL at *
              go_wp2_with fail
              refine (KW.out _).mono ?_
              rintro e_2 w_2 ⟨g', cap', rfl, hws', hb_2⟩
              have hown1 := own_bl hown hb_2
              have hb4 : Below Wm.heap.size Wm w_2 := below_step hb3 hb_2
              clear hown hb3 hb_2 cx3
              have hm1 : k * 7 + 7 ≤ maxLen := by unfold maxLen; omega
              have hm2 : (k * 7 + 7) * 8 ≤ 140737488355328 := by omega
              go_wp2_with (at_builtin; refine wpList_append_own _ rfl (.tmp 54) (.tmp 59) 39 rfl Wm.heap.size 22 i0 (.int .u64 0) 1 8 Try.underlying39 hi hz0 hz1 hz2 rfl (by decide) _ _ _ rfl hown1 ⟨g', 0, none⟩ 7 cap' (wsR KL) rfl (by rw [wsR_len, HKN.out]) hws'.news (wsR_ones _) hm1 hm2 hb4.size ?_)
              intro v' w4 hown2 hgrow _
              have hb5 := bl_grown hown1 (Nat.le_refl _) hgrow hb4
              clear hown1 hgrow hb4 hws'
              go_wp2_with fail
              go_roundg (c - (k + 1))
              case measure => omega
              case rel => exact ⟨k + 1, Ms ++ KL, by omega, by go_num, by rw [wsR_append, Nat.succ_mul]; exact hown2, fun x hx => by
                rcases List.mem_append.1 hx with h | h
                · exact HMS.out x h
                · exact HKL.out x h, hb5⟩
            · subst hlt2
              obtain ⟨Y, cpY, rfl, hYl, hYw⟩ := own_wsX hown
              have HYW := Lib.hid hYw
              have HYL := Lib.hid hYl
              have hb4 := below_step hb2 hb3
              clear hown hYw hYl hb2 hb3
              go_wp2_with fail
              go_roundg (D - (j + 1))
              case measure => omega
              case rel => exact ⟨j + 1, k * 7, cpY, Y, Ms, by omega, by rw [show R + (j + 1) = T + 1 by have := HTT.out; omega]; first | rfl | go_num, rfl, HYL.out, by rw [HCJ.out, Nat.pow_succ], HYW.out, fun x hx => by rw [show R + (j + 1) = T + 1 by have := HTT.out; omega]; exact HMS.out x hx, hb4⟩
        · subst hlt
          have hnlt : ¬ ((R + j : Nat) : Int) < (n : Int) := by omega
          obtain ⟨T, hT⟩ : ∃ T : Nat, R + j = T := ⟨_, rfl⟩
          have HDW2 : Hid (∀ x ∈ Ns, Dw P n j x) := Lib.hid (by rw [← hD]; exact HDW.out)
          rw [hT] at hnlt ⊢
          clear hT HDW
          obtain ⟨gx, eX, _⟩ := HWS.out 0 (by rw [HL.out]; exact hcpos)
          subst eX
          have hb4 := below_step hb hb2
          have hb5 := below_step hb_1 hb4
          have hws := HWS.out
          have hm1 : 0 + c ≤ maxLen := by unfold maxLen; omega
          have hm2 : (0 + c) * 8 ≤ 140737488355328 := by omega
          clear hb hb2 HWS
          go_wp2_with (at_builtin; refine wpList_append_own _ rfl (.tmp 62) (.tmp 63) 39 rfl w.heap.size 22 i0 (.int .u64 0) 1 8 Try.underlying39 hi hz0 hz1 hz2 rfl (by decide) _ _ _ rfl (World.ownsRow_nil _ _ _ _) ⟨gx, 0, none⟩ c cp (wsR Ns) rfl (by rw [wsR_len, HL.out, Nat.mul_one]) hws.news (wsR_ones _) hm1 hm2 hb5.size ?_)
          intro v' w4 hown2 hgrow _
          have hb6 : Below w_1.heap.size w_1 w4 := hb4.grown hgrow hb4.size (fun k hk => by simp [Value.ownBlock] at hk)
          clear hgrow hb5 hws hb4
          go_wp2_with fail
          go_roundg 0
          case measure => omega
          case rel => exact ⟨1, by omega, by first | rfl | go_num, .inr ⟨rfl, c, Ns, by simpa using hown2, hcpos, hc24, HDW2.out⟩, hb6⟩
    · obtain ⟨X, cp, rfl, hl, hws⟩ := own_wsX hown
      have ST := Lib.hid (ref_set M X cp c hl (by omega))
      have HMM := Lib.hid hM
      have hws' := hws
      clear hown hM hl
      go_wp2_with fail
      refine (ST.out _ (by first | exact hws' | exact WsAt.bl hws' (by repeat (first | with_reducible exact Below.refl _ _ | with_reducible refine bl_alloc ?_ _ | with_reducible refine bl_drewN ?_ _ | with_reducible refine bl_drew ?_ | (with_reducible refine bl_set ?_ ?_ _; rotate_left; focus (first | (simp; done) | (simp; omega) | omega)) | with_reducible refine below_step ?_ (Bw.below _) | with_reducible refine below_step ?_ (by assumption))))).mono ?_
      rintro e_2 w_2 ⟨X2, m2, cp2, M2, rfl, hl2, hws2, hm2, h02, hle2, hb_2⟩
      go_wp2_with fail
      refine bodyPost_ret (v := .tuple #[.slice X2 m2 cp2, .int .i64 0]) (by simp [results, Try.results18, go_sem]) rfl ⟨X2, m2, cp2, M2, rfl, hl2, hws2, fun x hx => HMM.out x (hm2 x hx), h02 hc0, by omega, below_step hb_1 (below_step hb hb_2)⟩
end Go.Proofs.Ytmipkloleklnkaa

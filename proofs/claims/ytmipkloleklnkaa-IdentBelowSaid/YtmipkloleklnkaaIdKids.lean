
/- The reference's kids and Size, of one word. -/
import Derived.Test.YtmipkloleklnkaaWords
import Derived.Test.YtmipkloleklnkaaPow
namespace Go.Proofs.Ytmipkloleklnkaa
open Go.RowKit
set_option linter.unusedSimpArgs false
set_option linter.unusedVariables false
theorem p7_fits5 : ∀ n : Nat, n < 13 → 1 ≤ p7 n ∧ p7 n ≤ 13841287201 := by decide
theorem p7_four5 : ∀ n : Nat, n < 5 → p7 n ≤ 2401 := by decide
set_option maxRecDepth 100000 in
set_option maxHeartbeats 2000000 in
theorem ref_kw (p q : Int) (n : Nat) (hn : n < 12) (ok : okB (n : Int) p q = true) (w : World) :
    Calls Try.prog 41 #[.int .u64 (wv p q n)] w fun e w' => ∃ g cap, e = .returned (.slice (some ⟨g, 0, none⟩) 7 cap) ∧ WsAt w' (some ⟨g, 0, none⟩) (kwL p q n 7) ∧ Below w.heap.size w w' := by
  obtain ⟨⟨p1, p2⟩, p3, p4, p5⟩ := word_of ok
  rw [Int.toNat_natCast] at *
  have CE := ref_cell_yes _ p1 p2 p3
  rw [p4, p5] at CE
  have HC := Lib.hid CE
  have CH := Lib.hid (ref_children n p q ok (by omega))
  have WD := Lib.hid (fun (k : Nat) (hk : k < 7) => ref_word_yes (chX (2 * p - q) k) (chY (p + 3 * q) k) (n + 1) (by have := kid_ok p q n k hn hk ok; simpa using this))
  have HS : Hid (∀ k, kwL p q n (k + 1) = kwL p q n k ++ [wv (chX (2 * p - q) k) (chY (p + 3 * q) k) (n + 1)]) := Lib.hid fun _ => rfl
  have H0 : Hid (kwL p q n 0 = []) := Lib.hid rfl
  have HL := Lib.hid (kwL_len p q n)
  obtain ⟨i0, hi, hz0, hz1, hz2⟩ := info_parts info_U64
  clear CE p1 p2 p3 p4 p5 ok
  generalize wv p q n = P at *
  generalize kwL p q n = K at *
  have HN1 : Hid (((n + 1 : Nat) : Int) = (n : Int) + 1) := Lib.hid (by omega)
  go_enter Try.func41, Try.ntmps41
  go_wp2_with fail
  refine (HC.out _).mono ?_
  rintro e_1 w_1 ⟨rfl, hb_1⟩
  obtain ⟨g1, rfl⟩ := bw_of hb_1
  clear hb_1
  go_wp2_with fail
  refine calls_start (fun V => V.cell? ⟨g1.out.heap.size, 0, none⟩ = some (.int .i64 (n : Int)) ∧ V.cell? ⟨g1.out.heap.size, 1, none⟩ = some (.int .i64 p) ∧ V.cell? ⟨g1.out.heap.size, 2, none⟩ = some (.int .i64 q) ∧ Below w.heap.size w V) ⟨by first | with_reducible assumption | (simp [go_sem]; done), by first | with_reducible assumption | (simp [go_sem]; done), by first | with_reducible assumption | (simp [go_sem]; done), by repeat (first | with_reducible exact Below.refl _ _ | with_reducible refine bl_alloc ?_ _ | with_reducible refine bl_drewN ?_ _ | with_reducible refine bl_drew ?_ | (with_reducible refine bl_set ?_ ?_ _; rotate_left; focus (first | (simp; done) | (simp; omega) | omega)) | with_reducible refine below_step ?_ (Bw.below _) | with_reducible refine below_step ?_ (by assumption))⟩ ?_
  rintro V ⟨hta1, hta2, hta3, hWta⟩ gta
  have ta1 := Bw.hold hta1
  have ta2 := Bw.hold hta2
  have ta3 := Bw.hold hta3
  have taz1 := fun g : Bw V => cell_lt (ta1 g)
  have tay1 := fun g : Bw V => Nat.le_of_lt (taz1 g)
  clear hta1 hta2 hta3
  refine (CH.out _).mono ?_
  rintro e_2 w_2 ⟨v, rfl, own_h, hb_2⟩
  obtain ⟨g2, rfl⟩ := gta.next hb_2
  clear hb_2
  obtain ⟨hg, cap, rfl, hgb, hcs⟩ := own_kids own_h
  have HCS := Lib.hid hcs
  clear own_h hcs HC CH
  generalize 2 * p - q = da at *
  generalize p + 3 * q = db at *
  clear ta1 ta2 ta3 taz1 tay1
  go_wp2_with fail
  have hBase : w.heap.size ≤ g2.out.heap.size := Nat.le_trans hWta.size g2.below.size
  go_loopg [7, 8] 7 (fun m v i W => ∃ k : Nat, k + m = 7 ∧ i = .int .i64 (k : Int) ∧ W.ownsRow g2.out.heap.size 22 1 v k (wsR (K k)) ∧ Below g2.out.heap.size g2.out W)
  case atStart => exact ⟨0, by omega, rfl, by rw [H0.out]; exact World.ownsRow_nil _ _ _ _, Below.refl _ _⟩
  case round =>
    obtain ⟨k, hk, rfl, hown, hb⟩ := hrel
    rcases (show k < 7 ∨ k = 7 by omega) with hlt | hlt
    · have hltI : (k : Int) < 7 := by omega
      obtain ⟨c1, c2, c3⟩ := HCS.out k hlt
      have c1' := bl_hold hb c1
      have c2' := bl_hold hb c2
      have c3' := bl_hold hb c3
      clear c1 c2 c3
      have WK := Lib.hid (WD.out k hlt)
      rw [HN1.out] at WK
      have HSK := Lib.hid (HS.out k)
      generalize chX da k = x at *
      generalize chY db k = y at *
      generalize wv x y (n + 1) = F at *
      go_wp2_with fail
      refine (WK.out _).mono ?_
      rintro e_3 w_3 ⟨rfl, hb_3⟩
      have hown1 := own_bl hown hb_3
      have hb3 : Below g2.out.heap.size g2.out w_3 := below_step hb hb_3
      clear hown hb hb_3 c1' c2' c3'
      have hm1 : k + 1 ≤ maxLen := by unfold maxLen; omega
      have hm2 : (k + 1) * 8 ≤ 140737488355328 := by omega
      go_wp2_with (at_builtin; refine wpList_append_own _ rfl (.tmp 39) (.tmp 41) 39 rfl g2.out.heap.size 22 i0 (.int .u64 0) 1 8 Try.underlying39 hi hz0 hz1 hz2 rfl (by decide) _ _ _ rfl (hown1.alloc _) ⟨w_3.heap.size, 0, none⟩ 1 1 [.int .u64 F] rfl rfl (news1 _ _ _) (ones1 _ _) hm1 hm2 (Nat.le_trans hb3.size (bl_alloc (Below.refl _ _) _).size) ?_)
      intro v' w4 hown2 hgrow _
      have hb4 := bl_grown (hown1.alloc _) (Nat.le_refl _) hgrow (bl_alloc hb3 _)
      clear hown1 hgrow hb3
      go_wp2_with fail
      go_roundg (7 - (k + 1))
      case measure => omega
      case rel => exact ⟨k + 1, by omega, by go_num, by rw [HSK.out, wsR_append]; exact hown2, hb4⟩
    · subst hlt
      obtain ⟨g', cap', rfl, hb', _, hws⟩ := own_ws hown (by omega)
      go_wp2_with fail
      refine bodyPost_ret (v := .slice (some ⟨g', 0, none⟩) 7 cap') (by simp [results, Try.results41, go_sem]) rfl ⟨g', cap', rfl, hws, below_step hWta (below_step g2.below hb)⟩
set_option maxRecDepth 100000 in
set_option maxHeartbeats 2000000 in
theorem ref_size1 (x : Int) (R n D : Nat) (hx : 0 ≤ x) (hx' : x < 18446744073709551616) (hG : wG x = true) (hR : wR x = (R : Int)) (hD : R + D = n) (hn : n ≤ 12) (g cap : Nat) (w : World) (hc : w.cell? ⟨g, 0, none⟩ = some (.int .u64 x)) :
    Calls Try.prog 40 #[.slice (some ⟨g, 0, none⟩) 1 cap, .int .i64 (n : Int)] w fun e w' => e = .returned (.tuple #[.int .i64 (p7 D), .int .i64 0]) ∧ Below w.heap.size w w' := by
  have hm15 : bits .and .u64 (x / 72057594037927936) 15 = (R : Int) := (u64_mask _ 4 (by omega)).trans hR
  have SV := Lib.hid (ref_seven D (by omega))
  have IW := Lib.hid (ref_isword x hx hx')
  rw [hG] at IW
  obtain ⟨s1, s2⟩ := p7_fits5 D (by omega)
  have hw1 : IntKind.i64.wrap (R : Int) = (R : Int) := by rw [IntKind.wrap_i64]; omega
  have hw2 : IntKind.i64.wrap ((n : Int) - (R : Int)) = (D : Int) := by rw [IntKind.wrap_i64]; omega
  have hRn : ¬ (n : Int) < (R : Int) := by omega
  have hn0 : ¬ (n : Int) < 0 := by omega
  have hn12 : ¬ (12 : Int) < (n : Int) := by omega
  clear hG hR hD
  generalize p7 D = S at *
  have hS : ¬ (1099511627776 : Int) < S := by omega
  have hw3 : IntKind.i64.wrap S = S := by rw [IntKind.wrap_i64]; omega
  have hw4 : IntKind.i64.wrap (0 + S) = S := by rw [IntKind.wrap_i64]; omega
  go_enter Try.func40, Try.ntmps40
  go_wp2_with fail
  go_loopg [6] 1 (fun m i W => ∃ k : Nat, k + m = 1 ∧ i = .int .i64 (k : Int) ∧ Below w.heap.size w W)
  case atStart => exact ⟨0, by omega, rfl, Below.refl _ _⟩
  case round =>
    obtain ⟨k, hk, rfl, hb⟩ := hrel
    have hc1 := bl_hold hb hc
    rcases (show k = 0 ∨ k = 1 by omega) with h | h
    · subst h
      go_wp2_with fail
      refine (IW.out _).mono ?_
      rintro e_1 w_1 ⟨rfl, hb_1⟩
      go_wp2_with fail
      go_roundg 0
      case measure => omega
      case rel => exact ⟨1, by omega, by first | rfl | go_num, below_step hb hb_1⟩
    · subst h
      clear hc
      go_wp2_with fail
      go_loopg [7] 1 (fun m i W => ∃ k : Nat, k + m = 1 ∧ i = .int .i64 (k : Int) ∧ Below wr.heap.size wr W)
      case atStart => exact ⟨0, by omega, rfl, Below.refl _ _⟩
      case round =>
        obtain ⟨k, hk2, rfl, hb2⟩ := hrel
        have hc2 := bl_hold hb2 hc1
        rcases (show k = 0 ∨ k = 1 by omega) with h | h
        · subst h
          go_wp2_with fail
          go_roundg 0
          case measure => omega
          case rel => exact ⟨1, by omega, by first | rfl | go_num, by repeat (first | with_reducible exact Below.refl _ _ | with_reducible refine bl_alloc ?_ _ | with_reducible refine bl_drewN ?_ _ | with_reducible refine bl_drew ?_ | (with_reducible refine bl_set ?_ ?_ _; rotate_left; focus (first | (simp; done) | (simp; omega) | omega)) | with_reducible refine below_step ?_ (Bw.below _) | with_reducible refine below_step ?_ (by assumption))⟩
        · subst h
          have hb3 := below_step hb hb2
          clear hc1 hb hb2
          go_wp2_with fail
          go_loopg [8, 9] 1 (fun m s i W => ∃ k : Nat, k + m = 1 ∧ i = .int .i64 (k : Int) ∧ s = .int .i64 (if k = 0 then 0 else S) ∧ Below wr.heap.size wr W)
          case atStart => exact ⟨0, by omega, rfl, rfl, Below.refl _ _⟩
          case round =>
            obtain ⟨k, hk3, rfl, rfl, hb4⟩ := hrel
            have hc3 := bl_hold hb4 hc2
            rcases (show k = 0 ∨ k = 1 by omega) with h | h
            · subst h
              go_wp2_with fail
              refine (SV.out _).mono ?_
              rintro e_1 w_1 ⟨rfl, hb_1⟩
              go_wp2_with fail
              go_roundg 0
              case measure => omega
              case rel => exact ⟨1, by omega, by first | rfl | go_num, by simp, below_step hb4 hb_1⟩
            · subst h
              go_wp2_with fail
              go_ret2
              exact ⟨rfl, below_step hb3 hb4⟩
end Go.Proofs.Ytmipkloleklnkaa

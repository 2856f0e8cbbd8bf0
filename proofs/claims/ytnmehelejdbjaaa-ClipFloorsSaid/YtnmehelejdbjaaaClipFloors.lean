
/- ClipFloors: divided downwards a ring is moved by as much as a multiple of the divisor moves it; by one it stays. No condition. -/
import Derived.Test.YtnmehelejdbjaaaCutLaw
import Derived.Test.YtnmehelejdbjaaaTame19
namespace Go.Proofs.Ytnmehelejdbjaaa
open Go.RowKit
set_option linter.unusedSimpArgs false
set_option linter.unusedVariables false
theorem flL_getD (d : Int) (L : List (Int × Int)) (k : Nat) (hk : k < L.length) : (flL d L).getD k (0, 0) = ((L.getD k (0, 0)).1 / d, (L.getD k (0, 0)).2 / d) := by
  simp [flL, List.getD, List.getElem?_eq_getElem hk]
theorem flL_one (L : List (Int × Int)) : flL 1 L = L := by
  unfold flL
  rw [show (fun p : Int × Int => (p.1 / 1, p.2 / 1)) = id from funext fun p => by simp]
  exact List.map_id _
def mwL (e : Int) (L : List (Int × Int)) : List (Int × Int) := L.map fun p => (p.1 + e, p.2 - e)
theorem mwL_take (e : Int) (L : List (Int × Int)) (k : Nat) (hk : k < L.length) : mwL e (L.take (k + 1)) = mwL e (L.take k) ++ [((L.getD k (0, 0)).1 + e, (L.getD k (0, 0)).2 - e)] := by
  unfold mwL
  rw [List.take_add_one, List.map_append]
  simp [List.getD, List.getElem?_eq_getElem hk]
theorem mwL_getD (e : Int) (L : List (Int × Int)) (k : Nat) (hk : k < L.length) : (mwL e L).getD k (0, 0) = ((L.getD k (0, 0)).1 + e, (L.getD k (0, 0)).2 - e) := by
  simp [mwL, List.getD, List.getElem?_eq_getElem hk]
set_option maxRecDepth 100000 in
set_option maxHeartbeats 8000000 in
theorem clipfloors_walk (X : Option Addr) (len cap : Nat) (Z : Nat → Int) (a b : Int) (hlen : len ≤ 9223372036854775807) (hZb : ∀ j, j < len → -9223372036854775808 ≤ Z j ∧ Z j ≤ 9223372036854775807) (ha : -9223372036854775808 ≤ a) (ha' : a ≤ 9223372036854775807) (hb : -9223372036854775808 ≤ b) (hb' : b ≤ 9223372036854775807) (w : World) (hZ : IntsAt w X len Z) :
    Calls Try.prog 7 #[.slice X len cap, .int .i64 a, .int .i64 b] w fun e w' => e = .returned (.bool true) ∧ Below w.heap.size w w' := by
  have NR := Lib.hid (law_near X len cap Z 4000 (by decide) (by decide) hlen w hZ hZb)
  have tk := tmod_bd19 b 1000 (by decide)
  have hma : bits .and .i64 a 255 = a % 256 := i64_mask19 a 8 (by omega)
  have m1 : 0 ≤ a % 256 := by omega
  have m2 : a % 256 ≤ 255 := by omega
  obtain ⟨k1, k2⟩ := tk
  clear hZ hZb
  obtain ⟨i0, hi, hz0, hz1, hz2⟩ := info_parts info_A2
  obtain ⟨K, hK⟩ : ∃ K, b.tmod 1000 = K := ⟨_, rfl⟩
  rw [hK] at k1 k2
  generalize a % 256 = am at *
  obtain ⟨D, hD⟩ : ∃ D, am + 1 = D := ⟨_, rfl⟩
  have hD1 : 1 ≤ D := by omega
  have hD2 : D ≤ 256 := by omega
  have wD : IntKind.i64.wrap (am + 1) = D := by rw [IntKind.wrap_i64]; omega
  obtain ⟨KB, hKB⟩ : ∃ KB, K * D = KB := ⟨_, rfl⟩
  have kb : -255744 ≤ KB ∧ KB ≤ 255744 := by
    rw [← hKB]
    have h1 := Int.mul_le_mul_of_nonneg_right (show K ≤ 999 by omega) (show 0 ≤ D by omega)
    have h2 := Int.mul_le_mul_of_nonneg_right (show -999 ≤ K by omega) (show 0 ≤ D by omega)
    omega
  obtain ⟨kb1, kb2⟩ := kb
  have wKB : IntKind.i64.wrap (K * D) = KB := by rw [hKB, IntKind.wrap_i64]; omega
  have wKB2 : IntKind.i64.wrap KB = KB := by rw [IntKind.wrap_i64]; omega
  go_enter Try.func7, Try.ntmps7
  go_wp2_with fail
  refine (NR.out).mono ?_
  rintro e_1 w_1 ⟨v, L, rfl, hown, hl12, hnb, hb_1⟩
  obtain ⟨X1, cap1, rfl, hcap1, hr1⟩ := own_ring2 hown
  have hbig : InBox (-536870912) 536870912 (-536870912) 536870912 L := fun p hp => by have := hnb p hp; omega
  have hbigM : InBox (-536870912) 536870912 (-536870912) 536870912 (mwL KB L) := fun p hp => by
    obtain ⟨p0, hp0, rfl⟩ := List.mem_map.1 hp
    have := hnb p0 hp0
    show -536870912 ≤ p0.1 + KB ∧ p0.1 + KB ≤ 536870912 ∧ -536870912 ≤ p0.2 - KB ∧ p0.2 - KB ≤ 536870912
    omega
  have hlM : (mwL KB L).length = L.length := by simp [mwL]
  have hS : Small L := ⟨by omega, hbig⟩
  have hSM : Small (mwL KB L) := ⟨by omega, hbigM⟩
  have HR1 := Lib.hid (fun (W : World) (hb : Below w_1.heap.size w_1 W) => hr1.bl hb)
  have FL1 := Lib.hid (fun (W : World) (hb : Below w_1.heap.size w_1 W) => clip_floor X1 cap1 L D hD1 (by omega) hS hcap1 W (hr1.bl hb))
  have FL3 := Lib.hid (fun (W : World) (hb : Below w_1.heap.size w_1 W) => clip_floor X1 cap1 L 1 (by decide) (by decide) hS hcap1 W (hr1.bl hb))
  rw [flL_one] at FL3
  have HAT := Lib.hid (fun j (hj : j < L.length) => hnb _ (getD_mem L j hj))
  have HT := Lib.hid (mwL_take KB L)
  have HTE : Hid (mwL KB (L.take L.length) = mwL KB L) := Lib.hid (by rw [List.take_length])
  have HLN : Hid (∀ k, (mwL KB (L.take k)).length ≤ k) := Lib.hid fun k => by unfold mwL; rw [List.length_map, List.length_take]; omega
  have HSMM := Lib.hid hSM
  have HLM := Lib.hid hlM
  have HFM := Lib.hid (fun j (hj : j < L.length) => (flL_getD D (mwL KB L) j (by rw [hlM]; exact hj)).trans (by rw [mwL_getD KB L j hj]))
  have HFD := Lib.hid (fun j (hj : j < L.length) => flL_getD D L j hj)
  have HF1 : Hid ((flL D L).length = L.length) := Lib.hid (by simp [flL])
  have HF2 : Hid ((flL D (mwL KB L)).length = L.length) := Lib.hid (by simp [flL, mwL])
  have hl1000 : L.length ≤ 1000 := by omega
  have HL1000 := Lib.hid hl1000
  clear hown hr1 hnb hbig hbigM hS hSM hlM hl1000 hcap1
  obtain ⟨n, hn⟩ : ∃ n, L.length = n := ⟨_, rfl⟩
  have HN := Lib.hid hn
  rw [hn] at FL1 FL3 hl12 HTE ⊢
  clear hn
  go_wp2_with fail
  go_loopg [8, 9] n (fun m v i W => ∃ k : Nat, k + m = n ∧ i = .int .i64 (k : Int) ∧ W.ownsRow w_1.heap.size 26 2 v (mwL KB (L.take k)).length (rgRow (mwL KB (L.take k))) ∧ Below w_1.heap.size w_1 W)
  case atStart => exact ⟨0, by omega, rfl, World.ownsRow_nil _ _ _ _, Below.refl _ _⟩
  case round =>
    obtain ⟨k, hk, rfl, hown, hb⟩ := hrel
    rcases (show k < n ∨ k = n by omega) with hlt | hlt
    · obtain ⟨gr, o, rfl, c1', c2'⟩ := HR1.out _ hb k (by rw [HN.out]; exact hlt)
      obtain ⟨gr0, o0, e0, c0, _⟩ := HR1.out w_1 (Below.refl _ _) k (by rw [HN.out]; exact hlt)
      cases e0
      obtain ⟨b5, b6, b7, b8⟩ := HAT.out k (by rw [HN.out]; exact hlt)
      have hst := HT.out k (by rw [HN.out]; exact hlt)
      have hln := HLN.out k
      obtain ⟨M, hM⟩ : ∃ M, mwL KB (L.take k) = M := ⟨_, rfl⟩
      rw [hM] at hown hln hst
      clear hM
      generalize (L.getD k (0, 0)).1 = x at *
      generalize (L.getD k (0, 0)).2 = y at *
      have hneg : u8.ownBlock ≠ some gr := own_low hown (cell_lt c0)
      have hgr := cell_lt c1'
      obtain ⟨XM, capM, rfl, _⟩ := own_ring hown
      have hown0 : wr.drew.ownsRow w_1.heap.size 26 2 (.slice XM M.length capM) M.length (rgRow M) := own_bl hown (bl_drew (Below.refl _ _))
      have e1 : wr.drew.cell? ⟨gr, o + k * 2, none⟩ = some (.int .i64 x) := c1'
      have e2 : wr.drew.cell? ⟨gr, o + k * 2 + 1, none⟩ = some (.int .i64 y) := c2'
      have r1 := bl_hold (bl_alloc (Below.refl _ _) (.cells #[.int .i64 (x + KB), .int .i64 (y - KB)] 26)) e1
      have r2 := bl_hold (bl_alloc (Below.refl _ _) (.cells #[.int .i64 (x + KB), .int .i64 (y - KB)] 26)) e2
      have hbd : Below w_1.heap.size w_1 wr.drew := bl_drew hb
      have hsz := Nat.le_trans hbd.size (bl_alloc (Below.refl wr.drew.heap.size wr.drew) (.cells #[.int .i64 (x + KB), .int .i64 (y - KB)] 26)).size
      have hm3 : M.length + 1 ≤ maxLen := by unfold maxLen; omega
      have hm4 : (M.length + 1) * 16 ≤ 140737488355328 := by omega
      have wx : IntKind.i64.wrap (x + KB) = x + KB := by rw [IntKind.wrap_i64]; omega
      have wy : IntKind.i64.wrap (y - KB) = y - KB := by rw [IntKind.wrap_i64]; omega
      have hkI : (k : Int) < (n : Int) := by omega
      have hk0 : (0 : Int) ≤ (k : Int) := by omega
      have hSt := Lib.hid hst
      clear hown c0 hst c1' c2'
      go_wp2_with fail
      go_region_held3 (fun W => W.cell? ⟨gr, o + k * 2, none⟩ = some (.int .i64 x) ∧ W.cell? ⟨gr, o + k * 2 + 1, none⟩ = some (.int .i64 y))
        ((first | exact ⟨f1, f2⟩ | exact ⟨r1, r2⟩ | exact ⟨e1, e2⟩))
        (first
          | (rw [if_pos (by rfl)]; refine wp_append_own _ (.tmp 26) (.tmp 46) 23 rfl w_1.heap.size 26 i0 (.agg #[.int .i64 0, .int .i64 0]) 2 16 Try.underlying23 hi hz0 hz1 hz2 rfl (by decide) _ _ _ rfl (hown0.alloc _) ⟨wr.heap.size, 0, none⟩ 1 1 [.int .i64 (x + KB), .int .i64 (y - KB)] rfl rfl (news2 wr.drew _ _ _) (ones2 _ _ _ _) hm3 hm4 hsz ?_; intro v' w6 hown2 hgrow _; have f1 := gr_other hgrow r1 hneg; have f2 := gr_other hgrow r2 hneg; have hV2 := bl_grown (hown0.alloc _) (Nat.le_refl _) hgrow (bl_alloc hbd _)))
      have hown3 := own_push hown2 rfl
      clear hown2 hgrow hown0
      go_wp2_with fail
      go_roundg (n - (k + 1))
      case measure => omega
      case rel => exact ⟨k + 1, by omega, by go_num, by rw [hSt.out]; exact hown3, hV2⟩
    · subst hlt
      rw [HTE.out] at hown
      obtain ⟨XM, capM, rfl, hcM, hrM⟩ := own_ring2 hown
      have FL2 := Lib.hid (fun (W : World) (hbb : Below wr.heap.size wr W) => clip_floor XM capM (mwL KB L) D hD1 (by omega) HSMM.out hcM W (hrM.bl hbb))
      rw [HLM.out, HN.out] at FL2
      have FL1' := Lib.hid (FL1.out wr hb)
      have HML : (mwL KB L).length = k := by rw [HLM.out, HN.out]
      rw [HML]
      clear hown hrM hcM FL1 HML
      go_wp2_with fail
      refine (FL1'.out).mono ?_
      rintro e_2 w_2 ⟨v2, rfl, hown2, hb_2⟩
      obtain ⟨X2, cap2, rfl, _, hr2⟩ := own_ring2 hown2
      have FL2' := Lib.hid (FL2.out w_2 hb_2)
      have HR2 := Lib.hid (fun (W : World) (hbb : Below w_2.heap.size w_2 W) => hr2.bl hbb)
      rw [HF1.out, HN.out]
      clear hr2 hown2 FL1' FL2
      go_wp2_with fail
      refine (FL2'.out).mono ?_
      rintro e_3 w_3 ⟨v3, rfl, hown3, hb_3⟩
      obtain ⟨X3, cap3, rfl, _, hr3⟩ := own_ring2 hown3
      have HR3 := Lib.hid (fun (W : World) (hbb : Below w_3.heap.size w_3 W) => hr3.bl hbb)
      have hb13 : Below w_1.heap.size w_1 w_3 := below_step hb (below_step hb_2 hb_3)
      have hb03 : Below w.heap.size w w_3 := below_step hb_1 hb13
      rw [HF2.out, HN.out]
      clear hr3 hown3 FL2'
      go_wp2_with fail
      go_loopg [12] k (fun z i W => ∃ j : Nat, j + z = k ∧ i = .int .i64 (j : Int) ∧ Below w_3.heap.size w_3 W)
      case atStart => exact ⟨0, by omega, rfl, Below.refl _ _⟩
      case round =>
        clear hb
        obtain ⟨j, hj, rfl, hb⟩ := hrel
        rcases (show j < k ∨ j = k by omega) with hlt | hlt
        · have hjL : j < L.length := by rw [HN.out]; exact hlt
          obtain ⟨g0, o0, rfl, u1, u2⟩ := HR1.out _ (below_step hb13 hb) j hjL
          obtain ⟨gA, oA, rfl, x1, x2⟩ := HR2.out _ (below_step hb_3 hb) j (by rw [HF1.out]; exact hjL)
          obtain ⟨gB, oB, rfl, y1, y2⟩ := HR3.out _ hb j (by rw [HF2.out]; exact hjL)
          obtain ⟨z1, z2, z3, z4⟩ := HAT.out j hjL
          rw [HFD.out j hjL] at x1 x2
          rw [HFM.out j hjL] at y1 y2
          obtain ⟨⟨x, y⟩, hxy⟩ : ∃ p, L.getD j (0, 0) = p := ⟨_, rfl⟩
          rw [hxy] at u1 u2 x1 x2 y1 y2 z1 z2 z3 z4
          change wr.cell? _ = some (.int .i64 x) at u1
          change wr.cell? _ = some (.int .i64 y) at u2
          change wr.cell? _ = some (.int .i64 (x / D)) at x1
          change wr.cell? _ = some (.int .i64 (y / D)) at x2
          change wr.cell? _ = some (.int .i64 ((x + KB) / D)) at y1
          change wr.cell? _ = some (.int .i64 ((y - KB) / D)) at y2
          change -4000 < x at z1
          change x < 4000 at z2
          change -4000 < y at z3
          change y < 4000 at z4
          have f1 : (x + KB) / D = x / D + K := by rw [← hKB, Int.add_mul_ediv_right _ _ (show D ≠ 0 by omega)]
          have f2 : (y - KB) / D = y / D - K := by rw [← hKB, Int.sub_eq_add_neg, ← Int.neg_mul, Int.add_mul_ediv_right _ _ (show D ≠ 0 by omega)]; omega
          have fb := div_bd x D 4000 (by omega) (by omega) (by omega) (by omega)
          have gb := div_bd y D 4000 (by omega) (by omega) (by omega) (by omega)
          rw [f1] at y1
          rw [f2] at y2
          have fm1 : x / D * D ≤ x := Int.ediv_mul_le x (by omega)
          have fm2 : x < (x / D + 1) * D := Int.lt_ediv_add_one_mul_self x (by omega)
          generalize x / D = fx at *
          generalize y / D = fy at *
          obtain ⟨s1, hs1⟩ : ∃ s1, fx * D = s1 := ⟨_, rfl⟩
          obtain ⟨s2, hs2⟩ : ∃ s2, (fx + 1) * D = s2 := ⟨_, rfl⟩
          have e12 : s2 = s1 + D := by rw [← hs1, ← hs2, Int.add_mul, Int.one_mul]
          rw [hs1] at fm1
          rw [hs2] at fm2
          have bs1 : -4256 ≤ s1 := by omega
          have w1 : IntKind.i64.wrap (fx * D) = s1 := by rw [hs1, IntKind.wrap_i64]; omega
          have w2 : IntKind.i64.wrap ((fx + 1) * D) = s2 := by rw [hs2, IntKind.wrap_i64]; omega
          have w3 : IntKind.i64.wrap (fx + K) = fx + K := by rw [IntKind.wrap_i64]; omega
          have w4 : IntKind.i64.wrap (fy - K) = fy - K := by rw [IntKind.wrap_i64]; omega
          have w5 : IntKind.i64.wrap (fx + 1) = fx + 1 := by rw [IntKind.wrap_i64]; omega
          have n1 : ¬ x < s1 := by omega
          have n2 : ¬ s2 ≤ x := by omega
          have hjI : (j : Int) < (k : Int) := by omega
          have hj0 : (0 : Int) ≤ (j : Int) := by omega
          clear hxy f1 f2 hs1 hs2 e12
          go_wp2_with fail
          go_quiet (fail)
          go_wp2_with fail
          go_roundg (k - (j + 1))
          case measure => omega
          case rel => exact ⟨j + 1, by omega, by go_num, by repeat (first | with_reducible exact Below.refl _ _ | with_reducible refine bl_alloc ?_ _ | with_reducible refine bl_drewN ?_ _ | with_reducible refine bl_drew ?_ | (with_reducible refine bl_set ?_ ?_ _; rotate_left; focus (first | (simp; done) | (simp; omega) | omega)) | with_reducible refine below_step ?_ (Bw.below _) | with_reducible refine below_step ?_ (by assumption))⟩
        · subst hlt
          have FL3' := Lib.hid (FL3.out wr (below_step hb13 hb))
          go_wp2_with fail
          refine (FL3'.out).mono ?_
          rintro e_5 w_5 ⟨v5, rfl, hown5, hb_5⟩
          obtain ⟨X5, cap5, rfl, _, hr5⟩ := own_ring2 (L := L) (v := v5) (w := w_5) (by rw [HN.out]; exact hown5)
          have SR := Lib.hid (ref_same X5 X1 cap5 cap1 L HL1000.out w_5 hr5 (HR1.out _ (below_step hb13 (below_step hb hb_5))))
          rw [HN.out] at SR ⊢
          clear hr5 hown5 FL3'
          go_wp2_with fail
          refine (SR.out).mono ?_
          rintro e_6 w_6 ⟨rfl, hb_6⟩
          go_wp2_with fail
          refine (awake19 _).mono ?_
          rintro e_8 w_8 ⟨rfl, hb_8⟩
          go_wp2_with fail
          go_ret
          exact ⟨rfl, below_step hb03 (below_step (below_step hb hb_5) (below_step hb_6 hb_8))⟩
/-! THE STATEMENT ClipFloors -/
section
open Go.ChangeShapes Go.WideShapes Go.ChangeAt Go.RowKit Go.Joins
set_option linter.unusedVariables false
set_option maxRecDepth 100000 in
theorem clipFloors_lifted (os : Os) (started : os.Started) (H : Type) (enc : TypeId × Value → H) :
    ReturnsInHanded {} Try.checked os 7 .any (Rows.clipFloorsSpec.pre6 enc Try.prog Try.f7 Rows.clipFloorsRow.domain false) (Rows.clipFloorsSpec.post enc Try.prog Try.f7 false true false false) := by
  refine returnsInHanded_of_change (C := Try.checked) (show ownKnob Try.prog.godebug = none by kernel_rfl) started (by kernel_rfl) Try.func7
    (ChangeSpec.witness6 (enc := enc) (C := Try.checked) false ⟨#[], #[.slice none 0 0, .int .i64 0, .int .i64 0], []⟩ 8 (by kernel_rfl) (by kernel_rfl) (by kernel_rfl) (by kernel_rfl)) ?_
  intro W base args ds gs before hval0 hW hcnd _
  have hval : ∀ (j : Nat) t v, Try.f7.params[j]? = some t → args[j]? = some v → Value.okWide Try.prog W .any base t v := hval0
  have hW' := hW
  obtain ⟨p, q, hA0, hV, rfl, hfz, hnd⟩ := hW
  have hA : DataW.TrodAll enc Try.prog W 0 (fun _ => true) true Try.f7.params.toList args.toList ds p := hA0
  rw [Try.params7] at hA hval
  obtain ⟨v0, vs0, d0, ds0, p0, q0, hargs, rfl, rfl, h0, r0⟩ := trodAll_cons hA
  obtain ⟨v1, vs1, d1, ds1, p1, q1, rfl, rfl, rfl, h1, r1⟩ := trodAll_cons r0
  obtain ⟨v2, vs2, d2, ds2, p2, q2, rfl, rfl, rfl, h2, r2⟩ := trodAll_cons r1
  obtain ⟨rfl, rfl, rfl⟩ := trodAll_nil r2
  obtain rfl : args = #[v0, v1, v2] := by cases args; simp_all
  obtain ⟨rfl, rfl⟩ := trodVars_none hV
  have h0k := h0
  obtain ⟨X, len, cap, Z, rfl, wf_len, hz_Z, hb_Z⟩ := open_intsF Try.underlying22 Try.underlying2 (show Try.prog.cellsOf 2 = 1 by kernel_rfl) (hval 0 22 v0 rfl rfl) h0
  obtain ⟨a, rfl, rfl, rfl, wf_a⟩ := open_int Try.underlying2 (hval 1 2 v1 rfl rfl) h1
  obtain ⟨b, rfl, rfl, rfl, wf_b⟩ := open_int Try.underlying2 (hval 2 2 v2 rfl rfl) h2
  clear hA0 hval0
  simp only [List.append_nil] at hW'
  have hlt0 : ∀ x ∈ p0, x.block < W.heap.size := fun x hx => hW'.lt x (by simpa using hx)
  refine (clipfloors_walk X len cap Z a b wf_len hb_Z (wf_i64 wf_a).1 (wf_i64 wf_a).2 (wf_i64 wf_b).1 (wf_i64 wf_b).2 W hz_Z).mono fun e W' ⟨he, hb⟩ => ?_
  subst he
  exact ⟨_, rfl, post_of_below (pv := []) hW' (fun _ _ _ => (trodAll_cons_mk (shut_bool Try.underlying4 _) trodAll_mk0)) (fun sp hsp => (trodAll_cons_mk (Go.WideElems.Trod_stays lidB (show Try.prog.readableRec 22 = true by kernel_rfl) (of_decide_eq_true (by kernel_rfl)) h0k (fun x hx => hb.same (hlt0 x hx)) (fun x hx => hsp x (by simpa using hx))) (trodAll_cons_mk (shut_int Try.underlying2 wf_a) (trodAll_cons_mk (shut_int Try.underlying2 wf_b) trodAll_mk0)))) (fun _ _ => rfl) (by simp) hb
    (ok_one (by kernel_rfl) rfl (okWide_bool_mk Try.underlying4 _))⟩
theorem clipFloors_holds : Rows.ClipFloorsSaid :=
  OpenClaim.holds_of_wide 7 Try.f7 rfl rfl rfl rfl rfl rfl rfl ⟨rfl, rfl, rfl, rfl, rfl⟩ rfl rfl rfl rfl rfl (by kernel_rfl) Try.func7 (by kernel_rfl)
    (of_decide_eq_true (by kernel_rfl)) (by unfold Func.isWrapper; first | (rw [if_pos (by decide +kernel)]; kernel_rfl) | (rw [if_neg (by decide +kernel)]; exact ⟨rfl, rfl⟩))
    (fun os started H enc _ => clipFloors_lifted os started H enc)
end
#print axioms clipFloors_holds
end Go.Proofs.Ytnmehelejdbjaaa

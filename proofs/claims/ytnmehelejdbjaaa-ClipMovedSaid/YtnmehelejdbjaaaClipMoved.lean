
/- ClipMoved: a ring and a box that are moved by the same steps are clipped to the same, moved so. No condition. -/
import Derived.Test.YtnmehelejdbjaaaCutLaw
import Derived.Test.YtnmehelejdbjaaaTame19
namespace Go.Proofs.Ytnmehelejdbjaaa
open Go.RowKit
set_option linter.unusedSimpArgs false
set_option linter.unusedVariables false
def mvP (dx dy : Int) (p : Int × Int) : Int × Int := (p.1 + dx, p.2 + dy)
def mvL (dx dy : Int) (L : List (Int × Int)) : List (Int × Int) := L.map (mvP dx dy)
theorem mvL_take (dx dy : Int) (L : List (Int × Int)) (k : Nat) (hk : k < L.length) : mvL dx dy (L.take (k + 1)) = mvL dx dy (L.take k) ++ [((L.getD k (0, 0)).1 + dx, (L.getD k (0, 0)).2 + dy)] := by
  unfold mvL
  rw [List.take_add_one, List.map_append]
  simp [List.getD, List.getElem?_eq_getElem hk, mvP]
theorem mvL_getD (dx dy : Int) (L : List (Int × Int)) (k : Nat) (hk : k < L.length) : (mvL dx dy L).getD k (0, 0) = mvP dx dy (L.getD k (0, 0)) := by
  simp [mvL, List.getD, List.getElem?_eq_getElem hk]
/-- The step along an axis. -/
def stp (ax dx dy : Int) : Int := if ax = 0 then dx else dy
theorem pcx_mv (ax dx dy : Int) (hax : ax = 0 ∨ ax = 1) (p : Int × Int) : pcx ax (mvP dx dy p) = pcx ax p + stp ax dx dy := by rcases hax with rfl | rfl <;> rfl
theorem cut_mv (ax t : Int) (ab : Bool) (dx dy : Int) (hax : ax = 0 ∨ ax = 1) (L : List (Int × Int)) : cutL ax (t + stp ax dx dy) ab (mvL dx dy L) = mvL dx dy (cutL ax t ab L) := by
  have hl : (mvL dx dy L).length = L.length := by simp [mvL]
  have hk : ∀ p, kpB ax (t + stp ax dx dy) ab (mvP dx dy p) = kpB ax t ab p := fun p => by
    unfold kpB
    rw [pcx_mv ax dx dy hax]
    cases ab <;> simp <;> omega
  have hb : ∀ p q, btB ax (t + stp ax dx dy) (mvP dx dy p) (mvP dx dy q) = btB ax t p q := fun p q => by
    unfold btB
    rw [pcx_mv ax dx dy hax, pcx_mv ax dx dy hax, decide_eq_decide]
    omega
  have hc : ∀ p q, crP ax (t + stp ax dx dy) (mvP dx dy p) (mvP dx dy q) = mvP dx dy (crP ax t p q) := fun p q => by
    obtain ⟨x, y⟩ := p
    obtain ⟨u, v⟩ := q
    rcases hax with rfl | rfl
    · show (t + dx, y + dy + flo ((v + dy - (y + dy)) * (t + dx - (x + dx))) (u + dx - (x + dx))) = (t + dx, y + flo ((v - y) * (t - x)) (u - x) + dy)
      rw [show v + dy - (y + dy) = v - y by omega, show t + dx - (x + dx) = t - x by omega, show u + dx - (x + dx) = u - x by omega]
      exact Prod.ext rfl (by show y + dy + _ = y + _ + dy; omega)
    · show (x + dx + flo ((u + dx - (x + dx)) * (t + dy - (y + dy))) (v + dy - (y + dy)), t + dy) = (x + flo ((u - x) * (t - y)) (v - y) + dx, t + dy)
      rw [show u + dx - (x + dx) = u - x by omega, show t + dy - (y + dy) = t - y by omega, show v + dy - (y + dy) = v - y by omega]
      exact Prod.ext (by show x + dx + _ = x + _ + dx; omega) rfl
  have key : ∀ k, k ≤ L.length → cutN ax (t + stp ax dx dy) ab (mvL dx dy L) k = mvL dx dy (cutN ax t ab L k) := by
    intro k
    induction k with
    | zero => intro _; rfl
    | succ k ih =>
      intro hk'
      show cutN ax (t + stp ax dx dy) ab (mvL dx dy L) k ++ cutS ax (t + stp ax dx dy) ab _ _ = mvL dx dy (cutN ax t ab L k ++ cutS ax t ab _ _)
      rw [ih (by omega), hl, mvL_getD dx dy L k (by omega), mvL_getD dx dy L _ (Nat.mod_lt _ (by omega))]
      generalize L.getD ((k + 1) % L.length) (0, 0) = q
      generalize L.getD k (0, 0) = p
      unfold cutS
      rw [hk, hb, hc]
      unfold mvL
      rw [List.map_append, List.map_append]
      rcases kpB ax t ab p with _ | _ <;> rcases btB ax t p q with _ | _ <;> simp
  unfold cutL
  rw [hl]
  exact key _ (Nat.le_refl _)
theorem box_mv (lx ly hx hy dx dy : Int) (L : List (Int × Int)) : boxL (lx + dx) (ly + dy) (hx + dx) (hy + dy) (mvL dx dy L) = mvL dx dy (boxL lx ly hx hy L) := by
  have c1 := cut_mv 0 lx true dx dy (.inl rfl) L
  have c2 := cut_mv 0 hx false dx dy (.inl rfl) (cutL 0 lx true L)
  have c3 := cut_mv 1 ly true dx dy (.inr rfl) (cutL 0 hx false (cutL 0 lx true L))
  have c4 := cut_mv 1 hy false dx dy (.inr rfl) (cutL 1 ly true (cutL 0 hx false (cutL 0 lx true L)))
  change cutL 0 (lx + dx) true (mvL dx dy L) = _ at c1
  change cutL 0 (hx + dx) false (mvL dx dy _) = _ at c2
  change cutL 1 (ly + dy) true (mvL dx dy _) = _ at c3
  change cutL 1 (hy + dy) false (mvL dx dy _) = _ at c4
  show cutL 1 (hy + dy) false (cutL 1 (ly + dy) true (cutL 0 (hx + dx) false (cutL 0 (lx + dx) true (mvL dx dy L)))) = mvL dx dy (cutL 1 hy false (cutL 1 ly true (cutL 0 hx false (cutL 0 lx true L))))
  rw [c1, c2, c3, c4]
set_option maxRecDepth 100000 in
set_option maxHeartbeats 8000000 in
theorem clipmoved_walk (X : Option Addr) (len cap : Nat) (Z : Nat → Int) (a b c d p q : Int) (hlen : len ≤ 9223372036854775807) (hZb : ∀ j, j < len → -9223372036854775808 ≤ Z j ∧ Z j ≤ 9223372036854775807) (ha : -9223372036854775808 ≤ a) (ha' : a ≤ 9223372036854775807) (hb : -9223372036854775808 ≤ b) (hb' : b ≤ 9223372036854775807) (hc : -9223372036854775808 ≤ c) (hc' : c ≤ 9223372036854775807) (hd : -9223372036854775808 ≤ d) (hd' : d ≤ 9223372036854775807) (hp : -9223372036854775808 ≤ p) (hp' : p ≤ 9223372036854775807) (hq : -9223372036854775808 ≤ q) (hq' : q ≤ 9223372036854775807) (w : World) (hZ : IntsAt w X len Z) :
    Calls Try.prog 4 #[.slice X len cap, .int .i64 a, .int .i64 b, .int .i64 c, .int .i64 d, .int .i64 p, .int .i64 q] w fun e w' => e = .returned (.bool true) ∧ Below w.heap.size w w' := by
  have NR := Lib.hid (law_near X len cap Z 400 (by decide) (by decide) hlen w hZ hZb)
  have ta := tmod_bd19 a 300 (by decide)
  have tb := tmod_bd19 b 300 (by decide)
  have tp := tmod_bd19 p 100000 (by decide)
  have tq := tmod_bd19 q 100000 (by decide)
  have hmc : bits .and .i64 c 511 = c % 512 := i64_mask19 c 9 (by omega)
  have hmd : bits .and .i64 d 511 = d % 512 := i64_mask19 d 9 (by omega)
  have c1 : 0 ≤ c % 512 := by omega
  have c2 : c % 512 ≤ 511 := by omega
  have d1 : 0 ≤ d % 512 := by omega
  have d2 : d % 512 ≤ 511 := by omega
  obtain ⟨a1, a2⟩ := ta
  obtain ⟨b1, b2⟩ := tb
  obtain ⟨p1, p2⟩ := tp
  obtain ⟨q1, q2⟩ := tq
  clear hZ hZb
  obtain ⟨i0, hi, hz0, hz1, hz2⟩ := info_parts info_A2
  obtain ⟨A, hA⟩ : ∃ A, a.tmod 300 = A := ⟨_, rfl⟩
  obtain ⟨B, hB⟩ : ∃ B, b.tmod 300 = B := ⟨_, rfl⟩
  obtain ⟨P, hP⟩ : ∃ P, p.tmod 100000 = P := ⟨_, rfl⟩
  obtain ⟨Q, hQ⟩ : ∃ Q, q.tmod 100000 = Q := ⟨_, rfl⟩
  rw [hA] at a1 a2
  rw [hB] at b1 b2
  rw [hP] at p1 p2
  rw [hQ] at q1 q2
  generalize c % 512 = C at *
  generalize d % 512 = D at *
  go_enter Try.func4, Try.ntmps4
  go_wp2_with fail
  refine (NR.out).mono ?_
  rintro e_1 w_1 ⟨v, L, rfl, hown, hl12, hnb, hb_1⟩
  obtain ⟨X1, cap1, rfl, hcap1, hr1⟩ := own_ring2 hown
  have hbig : InBox (-536870912) 536870912 (-536870912) 536870912 L := fun p hp => by have := hnb p hp; omega
  have hbigM : InBox (-536870912) 536870912 (-536870912) 536870912 (mvL P Q L) := fun p hp => by
    obtain ⟨p0, hp0, rfl⟩ := List.mem_map.1 hp
    have := hnb p0 hp0
    show -536870912 ≤ p0.1 + P ∧ p0.1 + P ≤ 536870912 ∧ -536870912 ≤ p0.2 + Q ∧ p0.2 + Q ≤ 536870912
    omega
  have hlM : (mvL P Q L).length = L.length := by simp [mvL]
  obtain ⟨s1, s2⟩ := box_small A B (A + C) (B + D) L hl12 hbig
  obtain ⟨m1, m2⟩ := box_small (A + P) (B + Q) (A + C + P) (B + D + Q) (mvL P Q L) (by omega) hbigM
  have hmv := box_mv A B (A + C) (B + D) P Q L
  have HR1 := Lib.hid (fun (W : World) (hb : Below w_1.heap.size w_1 W) => hr1.bl hb)
  have BX1 := Lib.hid (fun (W : World) (hb : Below w_1.heap.size w_1 W) => clip_box X1 cap1 L A B (A + C) (B + D) s1 hcap1 W (hr1.bl hb))
  have HAT := Lib.hid (fun j (hj : j < L.length) => hnb _ (getD_mem L j hj))
  have HT := Lib.hid (mvL_take P Q L)
  have HTE : Hid (mvL P Q (L.take L.length) = mvL P Q L) := Lib.hid (by rw [List.take_length])
  have HLN : Hid (∀ k, (mvL P Q (L.take k)).length ≤ k) := Lib.hid fun k => by unfold mvL; rw [List.length_map, List.length_take]; omega
  have HM1 := Lib.hid m1
  have HMV := Lib.hid hmv
  have HLM := Lib.hid hlM
  have hR100 : (boxL A B (A + C) (B + D) L).length ≤ 100 := s2.1
  have HSML := Lib.hid s2
  clear hown hr1 hnb hbig hbigM s1 s2 m1 m2 hmv hlM hcap1
  obtain ⟨n, hn⟩ : ∃ n, L.length = n := ⟨_, rfl⟩
  have HN := Lib.hid hn
  rw [hn] at BX1 hl12 HTE ⊢
  clear hn
  go_wp2_with fail
  go_loopg [16, 17] n (fun m v i W => ∃ k : Nat, k + m = n ∧ i = .int .i64 (k : Int) ∧ W.ownsRow w_1.heap.size 26 2 v (mvL P Q (L.take k)).length (rgRow (mvL P Q (L.take k))) ∧ Below w_1.heap.size w_1 W)
  case atStart => exact ⟨0, by omega, rfl, World.ownsRow_nil _ _ _ _, Below.refl _ _⟩
  case round =>
    obtain ⟨k, hk, rfl, hown, hb⟩ := hrel
    rcases (show k < n ∨ k = n by omega) with hlt | hlt
    · obtain ⟨gr, o, rfl, c1', c2'⟩ := HR1.out _ hb k (by rw [HN.out]; exact hlt)
      obtain ⟨gr0, o0, e0, c0, _⟩ := HR1.out w_1 (Below.refl _ _) k (by rw [HN.out]; exact hlt)
      cases e0
      obtain ⟨b5, b6, b7, b8⟩ := HAT.out k (by rw [HN.out]; exact hlt)
      have hst := HT.out k (by rw [HN.out]; exact hlt)
      have hln := HLN.out k
      obtain ⟨M, hM⟩ : ∃ M, mvL P Q (L.take k) = M := ⟨_, rfl⟩
      rw [hM] at hown hln hst
      clear hM
      generalize (L.getD k (0, 0)).1 = x at *
      generalize (L.getD k (0, 0)).2 = y at *
      have hneg : u16.ownBlock ≠ some gr := own_low hown (cell_lt c0)
      have hgr := cell_lt c1'
      obtain ⟨XM, capM, rfl, _⟩ := own_ring hown
      have hown0 : wr.drew.ownsRow w_1.heap.size 26 2 (.slice XM M.length capM) M.length (rgRow M) := own_bl hown (bl_drew (Below.refl _ _))
      have e1 : wr.drew.cell? ⟨gr, o + k * 2, none⟩ = some (.int .i64 x) := c1'
      have e2 : wr.drew.cell? ⟨gr, o + k * 2 + 1, none⟩ = some (.int .i64 y) := c2'
      have r1 := bl_hold (bl_alloc (Below.refl _ _) (.cells #[.int .i64 (x + P), .int .i64 (y + Q)] 26)) e1
      have r2 := bl_hold (bl_alloc (Below.refl _ _) (.cells #[.int .i64 (x + P), .int .i64 (y + Q)] 26)) e2
      have hbd : Below w_1.heap.size w_1 wr.drew := bl_drew hb
      have hsz := Nat.le_trans hbd.size (bl_alloc (Below.refl wr.drew.heap.size wr.drew) (.cells #[.int .i64 (x + P), .int .i64 (y + Q)] 26)).size
      have hm3 : M.length + 1 ≤ maxLen := by unfold maxLen; omega
      have hm4 : (M.length + 1) * 16 ≤ 140737488355328 := by omega
      have wx : IntKind.i64.wrap (x + P) = x + P := by rw [IntKind.wrap_i64]; omega
      have wy : IntKind.i64.wrap (y + Q) = y + Q := by rw [IntKind.wrap_i64]; omega
      have hkI : (k : Int) < (n : Int) := by omega
      have hk0 : (0 : Int) ≤ (k : Int) := by omega
      have hSt := Lib.hid hst
      clear hown c0 hst c1' c2'
      go_wp2_with fail
      go_region_held3 (fun W => W.cell? ⟨gr, o + k * 2, none⟩ = some (.int .i64 x) ∧ W.cell? ⟨gr, o + k * 2 + 1, none⟩ = some (.int .i64 y))
        ((first | exact ⟨f1, f2⟩ | exact ⟨r1, r2⟩ | exact ⟨e1, e2⟩))
        (first
          | (rw [if_pos (by rfl)]; refine wp_append_own _ (.tmp 41) (.tmp 57) 23 rfl w_1.heap.size 26 i0 (.agg #[.int .i64 0, .int .i64 0]) 2 16 Try.underlying23 hi hz0 hz1 hz2 rfl (by decide) _ _ _ rfl (hown0.alloc _) ⟨wr.heap.size, 0, none⟩ 1 1 [.int .i64 (x + P), .int .i64 (y + Q)] rfl rfl (news2 wr.drew _ _ _) (ones2 _ _ _ _) hm3 hm4 hsz ?_; intro v' w6 hown2 hgrow _; have f1 := gr_other hgrow r1 hneg; have f2 := gr_other hgrow r2 hneg; have hV2 := bl_grown (hown0.alloc _) (Nat.le_refl _) hgrow (bl_alloc hbd _)))
      have hown3 := own_push hown2 rfl
      clear hown2 hgrow hown0
      go_wp2_with fail
      go_roundg (n - (k + 1))
      case measure => omega
      case rel => exact ⟨k + 1, by omega, by go_num, by rw [hSt.out]; exact hown3, hV2⟩
    · subst hlt
      rw [HTE.out] at hown
      obtain ⟨XM, capM, rfl, hcM, hrM⟩ := own_ring2 hown
      have HRM := Lib.hid (fun (W : World) (hbb : Below wr.heap.size wr W) => clip_box XM capM (mvL P Q L) (A + P) (B + Q) (A + C + P) (B + D + Q) HM1.out hcM W (hrM.bl hbb))
      rw [HMV.out, HLM.out, HN.out] at HRM
      have BX1' := Lib.hid (BX1.out wr hb)
      have HML : (mvL P Q L).length = k := by rw [HLM.out, HN.out]
      rw [HML]
      clear hown hrM hcM BX1 HML
      have HLR : Hid ((mvL P Q (boxL A B (A + C) (B + D) L)).length = (boxL A B (A + C) (B + D) L).length) := Lib.hid (by simp [mvL])
      have HGD := Lib.hid (mvL_getD P Q (boxL A B (A + C) (B + D) L))
      obtain ⟨R, hR⟩ : ∃ R, boxL A B (A + C) (B + D) L = R := ⟨_, rfl⟩
      rw [hR] at BX1' HRM HLR hR100 HSML HGD
      rw [HLR.out] at HRM
      clear hR
      obtain ⟨m, hm⟩ : ∃ m, R.length = m := ⟨_, rfl⟩
      have HMm := Lib.hid hm
      rw [hm] at BX1' HRM hR100
      clear hm
      have w1 : IntKind.i64.wrap (A + C) = A + C := by rw [IntKind.wrap_i64]; omega
      go_wp2_with fail
      refine (BX1'.out).mono ?_
      rintro e_2 w_2 ⟨X2, cap2, rfl, _, hr2, hb_2⟩
      have HRM' := Lib.hid (HRM.out w_2 hb_2)
      have HR2 := Lib.hid (fun (W : World) (hbb : Below w_2.heap.size w_2 W) => hr2.bl hbb)
      clear hr2 BX1' HRM
      go_wp2_with fail
      refine (HRM'.out).mono ?_
      rintro e_3 w_3 ⟨X3, cap3, rfl, _, hr3, hb_3⟩
      have HR3 := Lib.hid (fun (W : World) (hbb : Below w_3.heap.size w_3 W) => hr3.bl hbb)
      have hb03 : Below w.heap.size w w_3 := below_step hb_1 (below_step hb (below_step hb_2 hb_3))
      clear hr3 HRM'
      go_wp2_with fail
      go_loopg [20] m (fun z i W => ∃ j : Nat, j + z = m ∧ i = .int .i64 (j : Int) ∧ Below w_3.heap.size w_3 W)
      case atStart => exact ⟨0, by omega, rfl, Below.refl _ _⟩
      case round =>
        clear hb
        obtain ⟨j, hj, rfl, hb⟩ := hrel
        rcases (show j < m ∨ j = m by omega) with hlt | hlt
        · obtain ⟨gA, oA, rfl, x1, x2⟩ := HR2.out _ (below_step hb_3 hb) j (by rw [HMm.out]; exact hlt)
          obtain ⟨gB, oB, rfl, y1, y2⟩ := HR3.out _ hb j (by rw [HLR.out, HMm.out]; exact hlt)
          obtain ⟨z1, z2, z3, z4⟩ := HSML.out.at' j (by rw [HMm.out]; exact hlt)
          rw [HGD.out j (by rw [HMm.out]; exact hlt)] at y1 y2
          obtain ⟨⟨x, y⟩, hxy⟩ : ∃ p, R.getD j (0, 0) = p := ⟨_, rfl⟩
          rw [hxy] at x1 x2 y1 y2 z1 z2 z3 z4
          change wr.cell? _ = some (.int .i64 x) at x1
          change wr.cell? _ = some (.int .i64 y) at x2
          change wr.cell? _ = some (.int .i64 (x + P)) at y1
          change wr.cell? _ = some (.int .i64 (y + Q)) at y2
          change -536870912 ≤ x at z1
          change x ≤ 536870912 at z2
          change -536870912 ≤ y at z3
          change y ≤ 536870912 at z4
          have hq := eq_A2 (x + P) (y + Q) (x + P) (y + Q)
          have hjI : (j : Int) < (m : Int) := by omega
          clear hxy
          go_wp2_with fail
          go_quiet (fail)
          go_wp2_with fail
          go_roundg (m - (j + 1))
          case measure => omega
          case rel => exact ⟨j + 1, by omega, by go_num, by repeat (first | with_reducible exact Below.refl _ _ | with_reducible refine bl_alloc ?_ _ | with_reducible refine bl_drewN ?_ _ | with_reducible refine bl_drew ?_ | (with_reducible refine bl_set ?_ ?_ _; rotate_left; focus (first | (simp; done) | (simp; omega) | omega)) | with_reducible refine below_step ?_ (Bw.below _) | with_reducible refine below_step ?_ (by assumption))⟩
        · subst hlt
          go_wp2_with fail
          refine (awake19 _).mono ?_
          rintro e_8 w_8 ⟨rfl, hb_8⟩
          go_wp2_with fail
          go_ret
          exact ⟨rfl, below_step hb03 (below_step hb hb_8)⟩
/-! THE STATEMENT ClipMoved -/
section
open Go.ChangeShapes Go.WideShapes Go.ChangeAt Go.RowKit Go.Joins
set_option linter.unusedVariables false
set_option maxRecDepth 100000 in
theorem clipMoved_lifted (os : Os) (started : os.Started) (H : Type) (enc : TypeId × Value → H) :
    ReturnsInHanded {} Try.checked os 4 .any (Rows.clipMovedSpec.pre6 enc Try.prog Try.f4 Rows.clipMovedRow.domain false) (Rows.clipMovedSpec.post enc Try.prog Try.f4 false true false false) := by
  refine returnsInHanded_of_change (C := Try.checked) (show ownKnob Try.prog.godebug = none by kernel_rfl) started (by kernel_rfl) Try.func4
    (ChangeSpec.witness6 (enc := enc) (C := Try.checked) false ⟨#[], #[.slice none 0 0, .int .i64 0, .int .i64 0, .int .i64 0, .int .i64 0, .int .i64 0, .int .i64 0], []⟩ 8 (by kernel_rfl) (by kernel_rfl) (by kernel_rfl) (by kernel_rfl)) ?_
  intro W base args ds gs before hval0 hW hcnd _
  have hval : ∀ (j : Nat) t v, Try.f4.params[j]? = some t → args[j]? = some v → Value.okWide Try.prog W .any base t v := hval0
  have hW' := hW
  obtain ⟨p, q, hA0, hV, rfl, hfz, hnd⟩ := hW
  have hA : DataW.TrodAll enc Try.prog W 0 (fun _ => true) true Try.f4.params.toList args.toList ds p := hA0
  rw [Try.params4] at hA hval
  obtain ⟨v0, vs0, d0, ds0, p0, q0, hargs, rfl, rfl, h0, r0⟩ := trodAll_cons hA
  obtain ⟨v1, vs1, d1, ds1, p1, q1, rfl, rfl, rfl, h1, r1⟩ := trodAll_cons r0
  obtain ⟨v2, vs2, d2, ds2, p2, q2, rfl, rfl, rfl, h2, r2⟩ := trodAll_cons r1
  obtain ⟨v3, vs3, d3, ds3, p3, q3, rfl, rfl, rfl, h3, r3⟩ := trodAll_cons r2
  obtain ⟨v4, vs4, d4, ds4, p4, q4, rfl, rfl, rfl, h4, r4⟩ := trodAll_cons r3
  obtain ⟨v5, vs5, d5, ds5, p5, q5, rfl, rfl, rfl, h5, r5⟩ := trodAll_cons r4
  obtain ⟨v6, vs6, d6, ds6, p6, q6, rfl, rfl, rfl, h6, r6⟩ := trodAll_cons r5
  obtain ⟨rfl, rfl, rfl⟩ := trodAll_nil r6
  obtain rfl : args = #[v0, v1, v2, v3, v4, v5, v6] := by cases args; simp_all
  obtain ⟨rfl, rfl⟩ := trodVars_none hV
  have h0k := h0
  obtain ⟨X, len, cap, Z, rfl, wf_len, hz_Z, hb_Z⟩ := open_intsF Try.underlying22 Try.underlying2 (show Try.prog.cellsOf 2 = 1 by kernel_rfl) (hval 0 22 v0 rfl rfl) h0
  obtain ⟨a, rfl, rfl, rfl, wf_a⟩ := open_int Try.underlying2 (hval 1 2 v1 rfl rfl) h1
  obtain ⟨b, rfl, rfl, rfl, wf_b⟩ := open_int Try.underlying2 (hval 2 2 v2 rfl rfl) h2
  obtain ⟨c, rfl, rfl, rfl, wf_c⟩ := open_int Try.underlying2 (hval 3 2 v3 rfl rfl) h3
  obtain ⟨d, rfl, rfl, rfl, wf_d⟩ := open_int Try.underlying2 (hval 4 2 v4 rfl rfl) h4
  obtain ⟨p, rfl, rfl, rfl, wf_p⟩ := open_int Try.underlying2 (hval 5 2 v5 rfl rfl) h5
  obtain ⟨q, rfl, rfl, rfl, wf_q⟩ := open_int Try.underlying2 (hval 6 2 v6 rfl rfl) h6
  clear hA0 hval0
  simp only [List.append_nil] at hW'
  have hlt0 : ∀ x ∈ p0, x.block < W.heap.size := fun x hx => hW'.lt x (by simpa using hx)
  refine (clipmoved_walk X len cap Z a b c d p q wf_len hb_Z (wf_i64 wf_a).1 (wf_i64 wf_a).2 (wf_i64 wf_b).1 (wf_i64 wf_b).2 (wf_i64 wf_c).1 (wf_i64 wf_c).2 (wf_i64 wf_d).1 (wf_i64 wf_d).2 (wf_i64 wf_p).1 (wf_i64 wf_p).2 (wf_i64 wf_q).1 (wf_i64 wf_q).2 W hz_Z).mono fun e W' ⟨he, hb⟩ => ?_
  subst he
  exact ⟨_, rfl, post_of_below (pv := []) hW' (fun _ _ _ => (trodAll_cons_mk (shut_bool Try.underlying4 _) trodAll_mk0)) (fun sp hsp => (trodAll_cons_mk (Go.WideElems.Trod_stays lidB (show Try.prog.readableRec 22 = true by kernel_rfl) (of_decide_eq_true (by kernel_rfl)) h0k (fun x hx => hb.same (hlt0 x hx)) (fun x hx => hsp x (by simpa using hx))) (trodAll_cons_mk (shut_int Try.underlying2 wf_a) (trodAll_cons_mk (shut_int Try.underlying2 wf_b) (trodAll_cons_mk (shut_int Try.underlying2 wf_c) (trodAll_cons_mk (shut_int Try.underlying2 wf_d) (trodAll_cons_mk (shut_int Try.underlying2 wf_p) (trodAll_cons_mk (shut_int Try.underlying2 wf_q) trodAll_mk0)))))))) (fun _ _ => rfl) (by simp) hb
    (ok_one (by kernel_rfl) rfl (okWide_bool_mk Try.underlying4 _))⟩
theorem clipMoved_holds : Rows.ClipMovedSaid :=
  OpenClaim.holds_of_wide 4 Try.f4 rfl rfl rfl rfl rfl rfl rfl ⟨rfl, rfl, rfl, rfl, rfl⟩ rfl rfl rfl rfl rfl (by kernel_rfl) Try.func4 (by kernel_rfl)
    (of_decide_eq_true (by kernel_rfl)) (by unfold Func.isWrapper; first | (rw [if_pos (by decide +kernel)]; kernel_rfl) | (rw [if_neg (by decide +kernel)]; exact ⟨rfl, rfl⟩))
    (fun os started H enc _ => clipMoved_lifted os started H enc)
end
#print axioms clipMoved_holds
end Go.Proofs.Ytnmehelejdbjaaa


/- ClipIn: what is clipped lies in the box; what lies in it is left as it is; clipped twice it is clipped once. No condition. -/
import Derived.Test.YtnmehelejdbjaaaCutLaw
import Derived.Test.YtnmehelejdbjaaaTame19
namespace Go.Proofs.Ytnmehelejdbjaaa
open Go.RowKit
set_option linter.unusedSimpArgs false
set_option linter.unusedVariables false
set_option maxRecDepth 100000 in
set_option maxHeartbeats 8000000 in
theorem clipin_walk (X : Option Addr) (len cap : Nat) (Z : Nat → Int) (a b c d : Int) (hlen : len ≤ 9223372036854775807) (hZb : ∀ j, j < len → -9223372036854775808 ≤ Z j ∧ Z j ≤ 9223372036854775807) (ha : -9223372036854775808 ≤ a) (ha' : a ≤ 9223372036854775807) (hb : -9223372036854775808 ≤ b) (hb' : b ≤ 9223372036854775807) (hc : -9223372036854775808 ≤ c) (hc' : c ≤ 9223372036854775807) (hd : -9223372036854775808 ≤ d) (hd' : d ≤ 9223372036854775807) (w : World) (hZ : IntsAt w X len Z) :
    Calls Try.prog 6 #[.slice X len cap, .int .i64 a, .int .i64 b, .int .i64 c, .int .i64 d] w fun e w' => e = .returned (.bool true) ∧ Below w.heap.size w w' := by
  have NR := Lib.hid (law_near X len cap Z 400 (by decide) (by decide) hlen w hZ hZb)
  have ta := tmod_bd19 a 300 (by decide)
  have tb := tmod_bd19 b 300 (by decide)
  have hmc : bits .and .i64 c 511 = c % 512 := i64_mask19 c 9 (by omega)
  have hmd : bits .and .i64 d 511 = d % 512 := i64_mask19 d 9 (by omega)
  have c1 : 0 ≤ c % 512 := by omega
  have c2 : c % 512 ≤ 511 := by omega
  have d1 : 0 ≤ d % 512 := by omega
  have d2 : d % 512 ≤ 511 := by omega
  obtain ⟨a1, a2⟩ := ta
  obtain ⟨b1, b2⟩ := tb
  clear hZ hZb
  obtain ⟨A, hA⟩ : ∃ A, a.tmod 300 = A := ⟨_, rfl⟩
  obtain ⟨B, hB⟩ : ∃ B, b.tmod 300 = B := ⟨_, rfl⟩
  rw [hA] at a1 a2
  rw [hB] at b1 b2
  generalize c % 512 = C at *
  generalize d % 512 = D at *
  go_enter Try.func6, Try.ntmps6
  go_wp2_with fail
  refine (NR.out).mono ?_
  rintro e_1 w_1 ⟨v, L, rfl, hown, hl12, hnb, hb_1⟩
  obtain ⟨X1, cap1, rfl, hcap1, hr1⟩ := own_ring2 hown
  have hbox : InBox (-400) 400 (-400) 400 L := fun p hp => by have := hnb p hp; omega
  have hbig : InBox (-536870912) 536870912 (-536870912) 536870912 L := fun p hp => by have := hnb p hp; omega
  obtain ⟨s1, s2⟩ := box_small A B (A + C) (B + D) L hl12 hbig
  have hin := box_in A B (A + C) (B + D) 400 L hbox
  obtain ⟨g1, rfl⟩ := bw_of hb_1
  have BX1 := Lib.hid (fun (W : World) (hb : Below g1.out.heap.size g1.out W) => clip_box X1 cap1 L A B (A + C) (B + D) s1 hcap1 W (hr1.bl hb))
  have HR1 := Lib.hid (fun (W : World) (hb : Below g1.out.heap.size g1.out W) => hr1.bl hb)
  have HC1 := Lib.hid hcap1
  have sm400 := box_same (-400) (-400) 400 400 L hbox
  have BX3 := Lib.hid (fun (W : World) (hb : Below g1.out.heap.size g1.out W) => clip_box X1 cap1 L (-400) (-400) 400 400 (fun k _ => by rw [sm400 k]; exact ⟨by omega, hbig⟩) hcap1 W (hr1.bl hb))
  have smr := box_same A B (A + C) (B + D) (boxL A B (A + C) (B + D) L) hin
  have HE3 : boxL (-400) (-400) 400 400 L = L := sm400 4
  have HE2 : boxL A B (A + C) (B + D) (boxL A B (A + C) (B + D) L) = boxL A B (A + C) (B + D) L := smr 4
  rw [HE3] at BX3
  have h100 : (boxL A B (A + C) (B + D) L).length ≤ 100 := s2.1
  have HSM := Lib.hid s2
  have HIN := Lib.hid hin
  have HSR := Lib.hid smr
  have HE2' := Lib.hid HE2
  have hl100 : L.length ≤ 1000 := by omega
  clear hown hr1 hnb hbox hbig s1 hin sm400 smr HE3 HE2 s2 hcap1 NR hl12
  obtain ⟨M, hM⟩ : ∃ M, boxL A B (A + C) (B + D) L = M := ⟨_, rfl⟩
  rw [hM] at BX1 h100 HSM HIN HSR HE2'
  clear hM
  obtain ⟨n, hn⟩ : ∃ n, L.length = n := ⟨_, rfl⟩
  have HN := Lib.hid hn
  rw [hn] at BX1 BX3 ⊢
  have hn' : n ≤ 1000 := by omega
  clear hn
  go_wp2_with fail
  refine calls_start (fun V => V.cell? ⟨g1.out.heap.size, 0, none⟩ = some (.int .i64 A) ∧ V.cell? ⟨g1.out.heap.size, 1, none⟩ = some (.int .i64 B) ∧ V.cell? ⟨g1.out.heap.size + 1, 0, none⟩ = some (.int .i64 (A + C)) ∧ V.cell? ⟨g1.out.heap.size + 1, 1, none⟩ = some (.int .i64 (B + D)) ∧ Below g1.out.heap.size g1.out V ∧ Below w.heap.size w V) ⟨by first | with_reducible assumption | (simp [go_sem]; done), by first | with_reducible assumption | (simp [go_sem]; done), by first | with_reducible assumption | (simp [go_sem]; done), by first | with_reducible assumption | (simp [go_sem]; done), by repeat (first | with_reducible exact Below.refl _ _ | with_reducible refine bl_alloc ?_ _ | with_reducible refine bl_drewN ?_ _ | with_reducible refine bl_drew ?_ | (with_reducible refine bl_set ?_ ?_ _; rotate_left; focus (first | (simp; done) | (simp; omega) | omega)) | with_reducible refine below_step ?_ (Bw.below _) | with_reducible refine below_step ?_ (by assumption)), by repeat (first | with_reducible exact Below.refl _ _ | with_reducible refine bl_alloc ?_ _ | with_reducible refine bl_drewN ?_ _ | with_reducible refine bl_drew ?_ | (with_reducible refine bl_set ?_ ?_ _; rotate_left; focus (first | (simp; done) | (simp; omega) | omega)) | with_reducible refine below_step ?_ (Bw.below _) | with_reducible refine below_step ?_ (by assumption))⟩ ?_
  rintro V ⟨htb11, htb12, htb13, htb14, hg1, hWtb1⟩ gtb1
  have tb11 := Bw.hold htb11
  have tb12 := Bw.hold htb12
  have tb13 := Bw.hold htb13
  have tb14 := Bw.hold htb14
  have tb1z1 := fun g : Bw V => cell_lt (tb11 g)
  have tb1y1 := fun g : Bw V => Nat.le_of_lt (tb1z1 g)
  have tb1z3 := fun g : Bw V => cell_lt (tb13 g)
  have tb1y3 := fun g : Bw V => Nat.le_of_lt (tb1z3 g)
  clear htb11 htb12 htb13 htb14
  refine (BX1.out gtb1.out (below_step hg1 (Bw.below gtb1))).mono ?_
  rintro e_2 w_2 ⟨X2, cap2, rfl, hcap2, hr2, hb_2⟩
  obtain ⟨g2, rfl⟩ := gtb1.next hb_2
  have IN := Lib.hid (clip_in X2 cap2 M A B (A + C) (B + D) HSM.out hcap2 HIN.out g2.out hr2)
  have BX2 := Lib.hid (fun (W : World) (hb : Below g2.out.heap.size g2.out W) => clip_box X2 cap2 M A B (A + C) (B + D) (fun k _ => by rw [HSR.out k]; exact HSM.out) hcap2 W (hr2.bl hb))
  rw [HE2'.out] at BX2
  have HR2 := Lib.hid (fun (W : World) (hb : Below g2.out.heap.size g2.out W) => hr2.bl hb)
  clear hr2 hcap2 hb_2 BX1
  obtain ⟨m, hm⟩ : ∃ m, M.length = m := ⟨_, rfl⟩
  have HM := Lib.hid hm
  rw [hm] at IN BX2 h100 ⊢
  clear hm
  go_wp2_with fail
  refine (IN.out).mono ?_
  rintro e_3 w_3 ⟨rfl, hb_3⟩
  have BX2' := Lib.hid (BX2.out w_3 hb_3)
  obtain ⟨g3, rfl⟩ := g2.next hb_3
  go_wp2_with fail
  refine (BX2'.out).mono ?_
  rintro e_4 w_4 ⟨X4, cap4, rfl, hcap4, hr4, hb_4⟩
  have SR := Lib.hid (ref_same X4 X2 cap4 cap2 M (by rw [HM.out]; omega) w_4 hr4 (HR2.out _ (below_step hb_3 hb_4)))
  obtain ⟨g4, rfl⟩ := g3.next hb_4
  rw [HM.out] at SR
  clear hr4 hcap4 BX2 BX2' IN
  go_wp2_with fail
  refine (SR.out).mono ?_
  rintro e_5 w_5 ⟨rfl, hb_5⟩
  obtain ⟨g5, rfl⟩ := g4.next hb_5
  have BX3' := Lib.hid (BX3.out g5.out (below_step hg1 (Bw.below g5)))
  clear BX3 SR
  go_wp2_with fail
  refine (BX3'.out).mono ?_
  rintro e_6 w_6 ⟨X6, cap6, rfl, hcap6, hr6, hb_6⟩
  obtain ⟨g6, rfl⟩ := g5.next hb_6
  have SR6 := Lib.hid (ref_same X6 X1 cap6 cap1 L hl100 g6.out hr6 (HR1.out _ (below_step hg1 (Bw.below g6))))
  rw [HN.out] at SR6
  clear hr6 hcap6 BX3'
  go_wp2_with fail
  refine (SR6.out).mono ?_
  rintro e_7 w_7 ⟨rfl, hb_7⟩
  obtain ⟨g7, rfl⟩ := g6.next hb_7
  go_wp2_with fail
  refine (awake19 _).mono ?_
  rintro e_8 w_8 ⟨rfl, hb_8⟩
  obtain ⟨g8, rfl⟩ := g7.next hb_8
  go_wp2_with fail
  go_ret
  exact ⟨rfl, below_step hWtb1 (Bw.below g8)⟩
/-! THE STATEMENT ClipIn -/
section
open Go.ChangeShapes Go.WideShapes Go.ChangeAt Go.RowKit Go.Joins
set_option linter.unusedVariables false
set_option maxRecDepth 100000 in
theorem clipIn_lifted (os : Os) (started : os.Started) (H : Type) (enc : TypeId × Value → H) :
    ReturnsInHanded {} Try.checked os 6 .any (Rows.clipInSpec.pre6 enc Try.prog Try.f6 Rows.clipInRow.domain false) (Rows.clipInSpec.post enc Try.prog Try.f6 false true false false) := by
  refine returnsInHanded_of_change (C := Try.checked) (show ownKnob Try.prog.godebug = none by kernel_rfl) started (by kernel_rfl) Try.func6
    (ChangeSpec.witness6 (enc := enc) (C := Try.checked) false ⟨#[], #[.slice none 0 0, .int .i64 0, .int .i64 0, .int .i64 0, .int .i64 0], []⟩ 8 (by kernel_rfl) (by kernel_rfl) (by kernel_rfl) (by kernel_rfl)) ?_
  intro W base args ds gs before hval0 hW hcnd _
  have hval : ∀ (j : Nat) t v, Try.f6.params[j]? = some t → args[j]? = some v → Value.okWide Try.prog W .any base t v := hval0
  have hW' := hW
  obtain ⟨p, q, hA0, hV, rfl, hfz, hnd⟩ := hW
  have hA : DataW.TrodAll enc Try.prog W 0 (fun _ => true) true Try.f6.params.toList args.toList ds p := hA0
  rw [Try.params6] at hA hval
  obtain ⟨v0, vs0, d0, ds0, p0, q0, hargs, rfl, rfl, h0, r0⟩ := trodAll_cons hA
  obtain ⟨v1, vs1, d1, ds1, p1, q1, rfl, rfl, rfl, h1, r1⟩ := trodAll_cons r0
  obtain ⟨v2, vs2, d2, ds2, p2, q2, rfl, rfl, rfl, h2, r2⟩ := trodAll_cons r1
  obtain ⟨v3, vs3, d3, ds3, p3, q3, rfl, rfl, rfl, h3, r3⟩ := trodAll_cons r2
  obtain ⟨v4, vs4, d4, ds4, p4, q4, rfl, rfl, rfl, h4, r4⟩ := trodAll_cons r3
  obtain ⟨rfl, rfl, rfl⟩ := trodAll_nil r4
  obtain rfl : args = #[v0, v1, v2, v3, v4] := by cases args; simp_all
  obtain ⟨rfl, rfl⟩ := trodVars_none hV
  have h0k := h0
  obtain ⟨X, len, cap, Z, rfl, wf_len, hz_Z, hb_Z⟩ := open_intsF Try.underlying22 Try.underlying2 (show Try.prog.cellsOf 2 = 1 by kernel_rfl) (hval 0 22 v0 rfl rfl) h0
  obtain ⟨a, rfl, rfl, rfl, wf_a⟩ := open_int Try.underlying2 (hval 1 2 v1 rfl rfl) h1
  obtain ⟨b, rfl, rfl, rfl, wf_b⟩ := open_int Try.underlying2 (hval 2 2 v2 rfl rfl) h2
  obtain ⟨c, rfl, rfl, rfl, wf_c⟩ := open_int Try.underlying2 (hval 3 2 v3 rfl rfl) h3
  obtain ⟨d, rfl, rfl, rfl, wf_d⟩ := open_int Try.underlying2 (hval 4 2 v4 rfl rfl) h4
  clear hA0 hval0
  simp only [List.append_nil] at hW'
  have hlt0 : ∀ x ∈ p0, x.block < W.heap.size := fun x hx => hW'.lt x (by simpa using hx)
  refine (clipin_walk X len cap Z a b c d wf_len hb_Z (wf_i64 wf_a).1 (wf_i64 wf_a).2 (wf_i64 wf_b).1 (wf_i64 wf_b).2 (wf_i64 wf_c).1 (wf_i64 wf_c).2 (wf_i64 wf_d).1 (wf_i64 wf_d).2 W hz_Z).mono fun e W' ⟨he, hb⟩ => ?_
  subst he
  exact ⟨_, rfl, post_of_below (pv := []) hW' (fun _ _ _ => (trodAll_cons_mk (shut_bool Try.underlying4 _) trodAll_mk0)) (fun sp hsp => (trodAll_cons_mk (Go.WideElems.Trod_stays lidB (show Try.prog.readableRec 22 = true by kernel_rfl) (of_decide_eq_true (by kernel_rfl)) h0k (fun x hx => hb.same (hlt0 x hx)) (fun x hx => hsp x (by simpa using hx))) (trodAll_cons_mk (shut_int Try.underlying2 wf_a) (trodAll_cons_mk (shut_int Try.underlying2 wf_b) (trodAll_cons_mk (shut_int Try.underlying2 wf_c) (trodAll_cons_mk (shut_int Try.underlying2 wf_d) trodAll_mk0)))))) (fun _ _ => rfl) (by simp) hb
    (ok_one (by kernel_rfl) rfl (okWide_bool_mk Try.underlying4 _))⟩
theorem clipIn_holds : Rows.ClipInSaid :=
  OpenClaim.holds_of_wide 6 Try.f6 rfl rfl rfl rfl rfl rfl rfl ⟨rfl, rfl, rfl, rfl, rfl⟩ rfl rfl rfl rfl rfl (by kernel_rfl) Try.func6 (by kernel_rfl)
    (of_decide_eq_true (by kernel_rfl)) (by unfold Func.isWrapper; first | (rw [if_pos (by decide +kernel)]; kernel_rfl) | (rw [if_neg (by decide +kernel)]; exact ⟨rfl, rfl⟩))
    (fun os started H enc _ => clipIn_lifted os started H enc)
end
#print axioms clipIn_holds
end Go.Proofs.Ytnmehelejdbjaaa

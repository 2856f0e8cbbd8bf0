/- IdentDigits: a word's digits are its cell's and its parents'; behind them stand sevens. No condition. -/
import Derived.Test.YtmipkloleklnkaaIdSizesLaw
namespace Go.Proofs.Ytmipkloleklnkaa
open Go.RowKit
set_option linter.unusedSimpArgs false
set_option linter.unusedVariables false
set_option maxRecDepth 100000 in
set_option maxHeartbeats 4000000 in
theorem identdigits_walk (x y r : Int) (hx : -9223372036854775808 ≤ x) (hx' : x ≤ 9223372036854775807) (hy : -9223372036854775808 ≤ y) (hy' : y ≤ 9223372036854775807) (hr : -9223372036854775808 ≤ r) (hr' : r ≤ 9223372036854775807) (w : World) :
    Calls Try.prog 6 #[.int .i64 x, .int .i64 y, .int .i64 r] w fun e w' => e = .returned (.bool true) ∧ Below w.heap.size w w' := by
  have SM0 := law4_some x y r hx hx' hy hy' hr hr'
  generalize (r.tmod 13 + 13).tmod 13 = R at SM0
  have SM := Lib.hid SM0
  clear SM0
  go_enter Try.func6, Try.ntmps6
  go_wp2_with fail
  refine (SM.out _).mono ?_
  rintro e_1 w_1 ⟨a, b, rfl, ok, hb_1⟩
  obtain ⟨g1, rfl⟩ := bw_of hb_1
  clear hb_1 SM
  obtain ⟨⟨r1, r2⟩, _, _⟩ := okB_true ok
  obtain ⟨n, hn⟩ : ∃ n : Nat, R = (n : Int) := ⟨R.toNat, by omega⟩
  subst hn
  have hn12 : n ≤ 12 := by omega
  have OF := Lib.hid (id_of_yes a b n ok)
  obtain ⟨hA, hB⟩ := base_bd ok
  have hF := dl_bd a b n
  rw [Int.toNat_natCast] at hA hB
  obtain ⟨f1, f2, f3, f4, f5, f6, _⟩ := w_fields (zz a b n).1 (zz a b n).2 _ n hn12 hA hB (ds_12 _ hF)
  change 0 ≤ wv a b n at f1
  change wv a b n < _ at f2
  change wv a b n / _ = 1 at f3
  change wv a b n / _ % 16 = _ at f4
  change wv a b n / _ % 1024 = _ at f5
  change wv a b n / _ % 1024 = _ at f6
  have hfd : ∀ j, 1 ≤ j → j ≤ 12 → fd (wv a b n) j = dl a b n j := fd_put _ _ n _ hn12 hA hB hF
  have BS := Lib.hid (cell_base n a b _ _ _ _ (cell_up n a b 0 n (by omega) (by omega) ok))
  have HUP := Lib.hid (fun (i : Int) (m : Nat) (h1 : (n : Int) - i = (m : Int)) (h2 : 0 ≤ i) => cell_up n a b i m h1 h2 ok)
  have HOU := Lib.hid (fun (i : Int) (m : Nat) (h1 : (n : Int) - i = (m : Int)) (h2 : 0 ≤ i) => ok_up n a b i m ok h1 h2)
  have hm15 : ∀ d : Int, bits .and .u64 d 15 = d % 16 := fun d => u64_mask d 4 (by omega)
  have hm7 : ∀ d : Int, bits .and .u64 d 7 = d % 8 := fun d => u64_mask d 3 (by omega)
  have hmk : ∀ d : Int, bits .and .u64 d 1023 = d % 1024 := fun d => u64_mask d 10 (by omega)
  have HFD := Lib.hid hfd
  have HDL := Lib.hid hF
  clear hF hfd ok
  generalize (zz a b n).1 = A at *
  generalize (zz a b n).2 = B at *
  generalize wv a b n = P at *
  go_wp2_with fail
  refine calls_start (fun V => V.cell? ⟨g1.out.heap.size, 0, none⟩ = some (.int .i64 (n : Int)) ∧ V.cell? ⟨g1.out.heap.size, 1, none⟩ = some (.int .i64 a) ∧ V.cell? ⟨g1.out.heap.size, 2, none⟩ = some (.int .i64 b) ∧ Below w.heap.size w V) ⟨by first | with_reducible assumption | (simp [go_sem]; done), by first | with_reducible assumption | (simp [go_sem]; done), by first | with_reducible assumption | (simp [go_sem]; done), by repeat (first | with_reducible exact Below.refl _ _ | with_reducible refine bl_alloc ?_ _ | with_reducible refine bl_drewN ?_ _ | with_reducible refine bl_drew ?_ | (with_reducible refine bl_set ?_ ?_ _; rotate_left; focus (first | (simp; done) | (simp; omega) | omega)) | with_reducible refine below_step ?_ (Bw.below _) | with_reducible refine below_step ?_ (by assumption))⟩ ?_
  rintro V ⟨hta1, hta2, hta3, hWta⟩ gta
  have ta1 := Bw.hold hta1
  have ta2 := Bw.hold hta2
  have ta3 := Bw.hold hta3
  have taz1 := fun g : Bw V => cell_lt (ta1 g)
  have tay1 := fun g : Bw V => Nat.le_of_lt (taz1 g)
  clear hta1 hta2 hta3
  refine (OF.out _).mono ?_
  rintro e_g2 w_g2 ⟨rfl, hb_g2⟩
  obtain ⟨g2, rfl⟩ := gta.next hb_g2
  clear hb_g2
  go_wp2_with fail
  go_loopg [10] 12 (fun j i W => ∃ k : Nat, k + j = 12 ∧ i = .int .i64 ((k : Int) + 1) ∧ Below V.heap.size V W)
  case atStart => exact ⟨0, by omega, by simp, by repeat (first | with_reducible exact Below.refl _ _ | with_reducible refine bl_alloc ?_ _ | with_reducible refine bl_drewN ?_ _ | with_reducible refine bl_drew ?_ | (with_reducible refine bl_set ?_ ?_ _; rotate_left; focus (first | (simp; done) | (simp; omega) | omega)) | with_reducible refine below_step ?_ (Bw.below _) | with_reducible refine below_step ?_ (by assumption))⟩
  case round =>
    obtain ⟨k, hk, rfl, hb⟩ := hrel
    obtain ⟨g, rfl⟩ := bw_of hb
    clear hb
    by_cases hlt : k < 12
    · obtain ⟨i, hi⟩ : ∃ i : Int, (k : Int) + 1 = i := ⟨_, rfl⟩
      have hd := HFD.out (k + 1) (by omega) (by omega)
      have hd2 := HDL.out (k + 1)
      have hP : P / 2 ^ (36 - 3 * i).toNat % 8 = dl a b n (k + 1) := by
        rw [← hd]
        unfold fd
        rw [show (36 - 3 * i).toNat = 36 - 3 * (k + 1) by omega]
      have i1 : 1 ≤ i := by omega
      have i12 : i ≤ 12 := by omega
      have HKI := Lib.hid hi
      rw [hi]
      have hw0 : IntKind.i64.wrap (dl a b n (k + 1)) = dl a b n (k + 1) := by rw [IntKind.wrap_i64]; omega
      by_cases hkn : k + 1 ≤ n
      · have hm : (n : Int) - i = ((n - (k + 1) : Nat) : Int) := by omega
        have UP := HUP.out i (n - (k + 1)) hm (by omega)
        have DG := cell_Digit i (zz a b (n - (k + 1))).1 (zz a b (n - (k + 1))).2
        rw [show digV i (zz a b (n - (k + 1))).1 (zz a b (n - (k + 1))).2 = dl a b n (k + 1) by
          unfold digV dl
          rw [if_pos ⟨HOU.out i (n - (k + 1)) hm (by omega), by omega⟩, if_pos hkn]] at DG
        have hU := Lib.hid UP
        have hD := Lib.hid DG
        have hle : i ≤ (n : Int) := by omega
        clear UP DG hd hm hi
        generalize (zz a b (n - (k + 1))).1 = p at *
        generalize (zz a b (n - (k + 1))).2 = q at *
        generalize dl a b n (k + 1) = d at *
        go_wp2_with fail
        refine (hU.out _).mono ?_
        rintro e_g3 w_g3 ⟨rfl, hb_g3⟩
        obtain ⟨g3, rfl⟩ := g.next hb_g3
        clear hb_g3
        go_wp2_with fail
        refine calls_start (fun V2 => V2.cell? ⟨g3.out.heap.size, 0, none⟩ = some (.int .i64 i) ∧ V2.cell? ⟨g3.out.heap.size, 1, none⟩ = some (.int .i64 p) ∧ V2.cell? ⟨g3.out.heap.size, 2, none⟩ = some (.int .i64 q) ∧ Below V.heap.size V V2 ∧ Below w.heap.size w V2) ⟨by first | with_reducible assumption | (simp [go_sem]; done), by first | with_reducible assumption | (simp [go_sem]; done), by first | with_reducible assumption | (simp [go_sem]; done), by repeat (first | with_reducible exact Below.refl _ _ | with_reducible refine bl_alloc ?_ _ | with_reducible refine bl_drewN ?_ _ | with_reducible refine bl_drew ?_ | (with_reducible refine bl_set ?_ ?_ _; rotate_left; focus (first | (simp; done) | (simp; omega) | omega)) | with_reducible refine below_step ?_ (Bw.below _) | with_reducible refine below_step ?_ (by assumption)), by repeat (first | with_reducible exact Below.refl _ _ | with_reducible refine bl_alloc ?_ _ | with_reducible refine bl_drewN ?_ _ | with_reducible refine bl_drew ?_ | (with_reducible refine bl_set ?_ ?_ _; rotate_left; focus (first | (simp; done) | (simp; omega) | omega)) | with_reducible refine below_step ?_ (Bw.below _) | with_reducible refine below_step ?_ (by assumption))⟩ ?_
        rintro V2 ⟨htb1, htb2, htb3, hV, hWtb⟩ gtb
        have tb1 := Bw.hold htb1
        have tb2 := Bw.hold htb2
        have tb3 := Bw.hold htb3
        have tbz1 := fun g : Bw V2 => cell_lt (tb1 g)
        have tby1 := fun g : Bw V2 => Nat.le_of_lt (tbz1 g)
        clear htb1 htb2 htb3
        refine (hD.out _).mono ?_
        rintro e_g4 w_g4 ⟨rfl, hb_g4⟩
        obtain ⟨g4, rfl⟩ := gtb.next hb_g4
        clear hb_g4
        go_wp2_with fail
        go_roundg (12 - (k + 1))
        case measure => omega
        case rel => exact ⟨k + 1, by omega, by rw [← HKI.out]; go_num, below_step hV (Bw.below g4)⟩
      · have h7 := dl_out a b n (k + 1) (by omega)
        rw [h7] at hP
        have hgt : ¬ i ≤ (n : Int) := by omega
        clear hd hd2 hw0 h7 hi
        go_wp2_with fail
        go_roundg (12 - (k + 1))
        case measure => omega
        case rel => exact ⟨k + 1, by omega, by rw [← HKI.out]; go_num, by repeat (first | with_reducible exact Below.refl _ _ | with_reducible refine bl_alloc ?_ _ | with_reducible refine bl_drewN ?_ _ | with_reducible refine bl_drew ?_ | (with_reducible refine bl_set ?_ ?_ _; rotate_left; focus (first | (simp; done) | (simp; omega) | omega)) | with_reducible refine below_step ?_ (Bw.below _) | with_reducible refine below_step ?_ (by assumption))⟩
    · obtain rfl : k = 12 := by omega
      obtain ⟨a1, a2⟩ := hA
      obtain ⟨b1, b2⟩ := hB
      go_wp2_with fail
      refine (BS.out _).mono ?_
      rintro e_g3 w_g3 ⟨rfl, hb_g3⟩
      obtain ⟨g3, rfl⟩ := g.next hb_g3
      clear hb_g3
      go_wp2_with fail
      refine calls_start (fun V2 => V2.cell? ⟨g3.out.heap.size, 0, none⟩ = some (.int .i64 0) ∧ V2.cell? ⟨g3.out.heap.size, 1, none⟩ = some (.int .i64 A) ∧ V2.cell? ⟨g3.out.heap.size, 2, none⟩ = some (.int .i64 B) ∧ Below w.heap.size w V2) ⟨by first | with_reducible assumption | (simp [go_sem]; done), by first | with_reducible assumption | (simp [go_sem]; done), by first | with_reducible assumption | (simp [go_sem]; done), by repeat (first | with_reducible exact Below.refl _ _ | with_reducible refine bl_alloc ?_ _ | with_reducible refine bl_drewN ?_ _ | with_reducible refine bl_drew ?_ | (with_reducible refine bl_set ?_ ?_ _; rotate_left; focus (first | (simp; done) | (simp; omega) | omega)) | with_reducible refine below_step ?_ (Bw.below _) | with_reducible refine below_step ?_ (by assumption))⟩ ?_
      rintro V2 ⟨htb1, htb2, htb3, hWtb⟩ gtb
      have tb1 := Bw.hold htb1
      have tb2 := Bw.hold htb2
      have tb3 := Bw.hold htb3
      have tbz1 := fun g : Bw V2 => cell_lt (tb1 g)
      have tby1 := fun g : Bw V2 => Nat.le_of_lt (tbz1 g)
      clear htb1 htb2 htb3
      refine (awake5 _).mono ?_
      rintro e_g4 w_g4 ⟨rfl, hb_g4⟩
      obtain ⟨g4, rfl⟩ := gtb.next hb_g4
      clear hb_g4
      go_wp2_with fail
      go_ret
      exact ⟨rfl, by repeat (first | with_reducible exact Below.refl _ _ | with_reducible refine bl_alloc ?_ _ | with_reducible refine bl_drewN ?_ _ | with_reducible refine bl_drew ?_ | (with_reducible refine bl_set ?_ ?_ _; rotate_left; focus (first | (simp; done) | (simp; omega) | omega)) | with_reducible refine below_step ?_ (Bw.below _) | with_reducible refine below_step ?_ (by assumption))⟩
/-! THE STATEMENT IdentDigits -/
section
open Go.ChangeShapes Go.WideShapes Go.ChangeAt Go.RowKit Go.Joins
set_option linter.unusedVariables false
set_option maxRecDepth 100000 in
theorem identDigits_lifted (os : Os) (started : os.Started) (H : Type) (enc : TypeId × Value → H) :
    ReturnsInHanded {} Try.checked os 6 .any (Rows.identDigitsSpec.pre6 enc Try.prog Try.f6 Rows.identDigitsRow.domain false) (Rows.identDigitsSpec.post enc Try.prog Try.f6 false true false false) := by
  refine returnsInHanded_of_change (C := Try.checked) (show ownKnob Try.prog.godebug = none by kernel_rfl) started (by kernel_rfl) Try.func6
    (ChangeSpec.witness6 (enc := enc) (C := Try.checked) false ⟨#[], #[.int .i64 0, .int .i64 0, .int .i64 0], []⟩ 8 (by kernel_rfl) (by kernel_rfl) (by kernel_rfl) (by kernel_rfl)) ?_
  intro W base args ds gs before hval0 hW hcnd _
  have hval : ∀ (j : Nat) t v, Try.f6.params[j]? = some t → args[j]? = some v → Value.okWide Try.prog W .any base t v := hval0
  have hW' := hW
  obtain ⟨p, q, hA0, hV, rfl, hfz, hnd⟩ := hW
  have hA : DataW.TrodAll enc Try.prog W 0 (fun _ => true) true Try.f6.params.toList args.toList ds p := hA0
  rw [Try.params6] at hA hval
  obtain ⟨v0, vs0, d0, ds0, p0, q0, hargs, rfl, rfl, h0, r0⟩ := trodAll_cons hA
  obtain ⟨v1, vs1, d1, ds1, p1, q1, rfl, rfl, rfl, h1, r1⟩ := trodAll_cons r0
  obtain ⟨v2, vs2, d2, ds2, p2, q2, rfl, rfl, rfl, h2, r2⟩ := trodAll_cons r1
  obtain ⟨rfl, rfl, rfl⟩ := trodAll_nil r2
  obtain rfl : args = #[v0, v1, v2] := by cases args; simp_all
  obtain ⟨rfl, rfl⟩ := trodVars_none hV
  obtain ⟨x, rfl, rfl, rfl, wf_x⟩ := open_int Try.underlying2 (hval 0 2 v0 rfl rfl) h0
  obtain ⟨y, rfl, rfl, rfl, wf_y⟩ := open_int Try.underlying2 (hval 1 2 v1 rfl rfl) h1
  obtain ⟨r, rfl, rfl, rfl, wf_r⟩ := open_int Try.underlying3 (hval 2 3 v2 rfl rfl) h2
  clear hA0 hval0
  simp only [List.append_nil] at hW'
  refine (identdigits_walk x y r (wf_i64 wf_x).1 (wf_i64 wf_x).2 (wf_i64 wf_y).1 (wf_i64 wf_y).2 (wf_i64 wf_r).1 (wf_i64 wf_r).2 W).mono fun e W' ⟨he, hb⟩ => ?_
  subst he
  exact ⟨_, rfl, post_of_below (pa := []) (pv := []) hW' (fun _ _ _ => (trodAll_cons_mk (shut_bool Try.underlying4 _) trodAll_mk0)) (fun sp _ => (trodAll_cons_mk (shut_int Try.underlying2 wf_x) (trodAll_cons_mk (shut_int Try.underlying2 wf_y) (trodAll_cons_mk (shut_int Try.underlying3 wf_r) trodAll_mk0)))) (fun _ _ => rfl) rfl hb
    (ok_one (by kernel_rfl) rfl (okWide_bool_mk Try.underlying4 _))⟩
theorem identDigits_holds : Rows.IdentDigitsSaid :=
  OpenClaim.holds_of_wide 6 Try.f6 rfl rfl rfl rfl rfl rfl rfl ⟨rfl, rfl, rfl, rfl, rfl⟩ rfl rfl rfl rfl rfl (by kernel_rfl) Try.func6 (by kernel_rfl)
    (of_decide_eq_true (by kernel_rfl)) (by unfold Func.isWrapper; first | (rw [if_pos (by decide +kernel)]; kernel_rfl) | (rw [if_neg (by decide +kernel)]; exact ⟨rfl, rfl⟩))
    (fun os started H enc _ => identDigits_lifted os started H enc)
end
#print axioms identDigits_holds
end Go.Proofs.Ytmipkloleklnkaa


/- ClipSides: a ring is cut by a line in two; new corners lie on the line. No condition. -/
import Derived.Test.YtnmehelejdbjaaaCutLaw
import Derived.Test.YtnmehelejdbjaaaTame19
namespace Go.Proofs.Ytnmehelejdbjaaa
open Go.RowKit
set_option linter.unusedSimpArgs false
set_option linter.unusedVariables false
def onB (ax t : Int) (p : Int × Int) : Bool := decide (pcx ax p = t)
def onC (ax t : Int) (L : List (Int × Int)) (k : Nat) : Nat := (L.take k).countP (onB ax t)
theorem onC_zero (ax t : Int) (L : List (Int × Int)) : onC ax t L 0 = 0 := rfl
theorem onC_step (ax t : Int) (L : List (Int × Int)) (k : Nat) (hk : k < L.length) : onC ax t L (k + 1) = onC ax t L k + if onB ax t (L.getD k (0, 0)) then 1 else 0 := by
  unfold onC
  have e : L.getD k (0, 0) = L[k] := by simp [List.getD, List.getElem?_eq_getElem hk]
  rw [List.take_add_one, List.countP_append, e, List.getElem?_eq_getElem hk]
  simp [List.countP_cons]
theorem onC_bd (ax t : Int) (L : List (Int × Int)) (k : Nat) : onC ax t L k ≤ L.length := by
  unfold onC
  exact Nat.le_trans List.countP_le_length (by rw [List.length_take]; omega)
/-- Both sides of a line, counted. -/
theorem sides (ax t : Int) (hax : ax = 0 ∨ ax = 1) (L : List (Int × Int)) : ∃ x : Nat, onC ax t (cutL ax t true L) (cutL ax t true L).length = onC ax t L L.length + x ∧ onC ax t (cutL ax t false L) (cutL ax t false L).length = onC ax t L L.length + x ∧
    (cutL ax t true L).length + (cutL ax t false L).length = L.length + onC ax t L L.length + 2 * x := by
  have key : ∀ k, k ≤ L.length → ∃ x : Nat, (cutN ax t true L k).countP (onB ax t) = onC ax t L k + x ∧ (cutN ax t false L k).countP (onB ax t) = onC ax t L k + x ∧ (cutN ax t true L k).length + (cutN ax t false L k).length = k + onC ax t L k + 2 * x := by
    intro k
    induction k with
    | zero => intro _; exact ⟨0, rfl, rfl, rfl⟩
    | succ k ih =>
      intro hk
      obtain ⟨x, h1, h2, h3⟩ := ih (by omega)
      have hs := onC_step ax t L k (by omega)
      obtain ⟨ab, hab⟩ : ∃ n : Nat, n = if btB ax t (L.getD k (0, 0)) (L.getD ((k + 1) % L.length) (0, 0)) then 1 else 0 := ⟨_, rfl⟩
      refine ⟨x + ab, ?_⟩
      show (cutN ax t true L k ++ cutS ax t true _ _).countP _ = _ ∧ (cutN ax t false L k ++ cutS ax t false _ _).countP _ = _ ∧ (cutN ax t true L k ++ cutS ax t true _ _).length + (cutN ax t false L k ++ cutS ax t false _ _).length = _
      rw [List.countP_append, List.countP_append, List.length_append, List.length_append, h1, h2, hs]
      generalize L.getD ((k + 1) % L.length) (0, 0) = q at *
      generalize L.getD k (0, 0) = p at *
      have cr := (cr_on (ab := true) (p := p) (q := q) (t := t) hax).1
      have c1 : (cutS ax t true p q).countP (onB ax t) = (if onB ax t p then 1 else 0) + ab ∧ (cutS ax t false p q).countP (onB ax t) = (if onB ax t p then 1 else 0) + ab ∧ (cutS ax t true p q).length + (cutS ax t false p q).length = 1 + (if onB ax t p then 1 else 0) + 2 * ab := by
        rw [hab]
        unfold cutS
        have hcr : onB ax t (crP ax t p q) = true := decide_eq_true cr
        rcases (show pcx ax p < t ∨ pcx ax p = t ∨ t < pcx ax p by omega) with h | h | h
        · have k1 : kpB ax t true p = false := by unfold kpB; simp; omega
          have k2 : kpB ax t false p = true := by unfold kpB; simp; omega
          have k3 : onB ax t p = false := decide_eq_false (by omega)
          rw [k1, k2, k3]
          rcases btB ax t p q with _ | _ <;> simp [hcr, k3]
        · have k1 : kpB ax t true p = true := by unfold kpB; simp; omega
          have k2 : kpB ax t false p = true := by unfold kpB; simp; omega
          have k3 : onB ax t p = true := decide_eq_true h
          have k4 : btB ax t p q = false := decide_eq_false (by omega)
          rw [k1, k2, k3, k4]
          simp [k3]
        · have k1 : kpB ax t true p = true := by unfold kpB; simp; omega
          have k2 : kpB ax t false p = false := by unfold kpB; simp; omega
          have k3 : onB ax t p = false := decide_eq_false (by omega)
          rw [k1, k2, k3]
          rcases btB ax t p q with _ | _ <;> simp [hcr, k3]
      obtain ⟨c1, c2, c3⟩ := c1
      rw [c1, c2]
      refine ⟨by omega, by omega, by omega⟩
  obtain ⟨x, h1, h2, h3⟩ := key _ (Nat.le_refl _)
  refine ⟨x, ?_, ?_, h3⟩
  · unfold onC at h1 ⊢; rw [List.take_length]; exact h1
  · unfold onC at h2 ⊢; rw [List.take_length]; exact h2
set_option maxRecDepth 100000 in
set_option maxHeartbeats 8000000 in
theorem clipsides_walk (X : Option Addr) (len cap : Nat) (Z : Nat → Int) (ax t : Int) (hlen : len ≤ 9223372036854775807) (hZb : ∀ j, j < len → -9223372036854775808 ≤ Z j ∧ Z j ≤ 9223372036854775807) (hax : -9223372036854775808 ≤ ax) (hax' : ax ≤ 9223372036854775807) (ht : -9223372036854775808 ≤ t) (ht' : t ≤ 9223372036854775807) (w : World) (hZ : IntsAt w X len Z) :
    Calls Try.prog 3 #[.slice X len cap, .int .i64 ax, .int .i64 t] w fun e w' => e = .returned (.bool true) ∧ Below w.heap.size w w' := by
  have NR := Lib.hid (law_near X len cap Z 400 (by decide) (by decide) hlen w hZ hZb)
  have tt := tmod_bd19 t 400 (by decide)
  have hma : bits .and .i64 ax 1 = ax % 2 := i64_mask19 ax 1 (by omega)
  obtain ⟨T, hT⟩ : ∃ T, t.tmod 400 = T := ⟨_, rfl⟩
  rw [hT] at tt
  obtain ⟨t1, t2⟩ := tt
  have hA : ax % 2 = 0 ∨ ax % 2 = 1 := by omega
  clear hZ hZb
  generalize ax % 2 = A at *
  rcases hA with rfl | rfl
  · go_enter Try.func3, Try.ntmps3
    go_wp2_with fail
    refine (NR.out).mono ?_
    rintro e_1 w_1 ⟨v, L, rfl, hown, hl12, hnb, hb_1⟩
    obtain ⟨X1, cap1, rfl, hcap1, hr1⟩ := own_ring2 hown
    have hbig : InBox (-536870912) 536870912 (-536870912) 536870912 L := fun p hp => by have := hnb p hp; omega
    have hS : Small L := ⟨by omega, hbig⟩
    obtain ⟨g1, rfl⟩ := bw_of hb_1
    have SD1 := Lib.hid (clip_side 0 T true X1 cap1 L (by decide) hS hcap1 g1.out hr1)
    have SD2 := Lib.hid (fun (W : World) (hb : Below g1.out.heap.size g1.out W) => clip_side 0 T false X1 cap1 L (by decide) hS hcap1 W (hr1.bl hb))
    have HR1 := Lib.hid (fun (W : World) (hb : Below g1.out.heap.size g1.out W) => hr1.bl hb)
    obtain ⟨xc, s1, s2, s3⟩ := sides 0 T (by decide) L
    have KA := Lib.hid (cut_kp (ax := 0) (t := T) (ab := true) (L := L) (by decide))
    have KB := Lib.hid (cut_kp (ax := 0) (t := T) (ab := false) (L := L) (by decide))
    have lA := cut_len 0 T true L
    have lB := cut_len 0 T false L
    clear hown hr1 hnb hbig hS hcap1
    obtain ⟨MA, hMA⟩ : ∃ M, cutL 0 T true L = M := ⟨_, rfl⟩
    obtain ⟨MB, hMB⟩ : ∃ M, cutL 0 T false L = M := ⟨_, rfl⟩
    rw [hMA] at SD1 s1 s3 KA lA
    rw [hMB] at SD2 s2 s3 KB lB
    have S1 := Lib.hid s1
    have S2 := Lib.hid s2
    have S3 := Lib.hid s3
    clear hMA hMB s1 s2 s3
    obtain ⟨n, hn⟩ : ∃ n, L.length = n := ⟨_, rfl⟩
    have HN := Lib.hid hn
    rw [hn] at SD1 SD2 hl12 lA lB ⊢
    clear hn
    go_wp2_with fail
    refine (SD1.out).mono ?_
    rintro e_2 w_2 ⟨v2, rfl, hown2, hb_2⟩
    obtain ⟨XA, capA, rfl, _, hrA⟩ := own_ring2 hown2
    have SD2' := Lib.hid (SD2.out w_2 hb_2)
    have HRA := Lib.hid (fun (W : World) (hb : Below w_2.heap.size w_2 W) => hrA.bl hb)
    clear hown2 hrA SD1 SD2
    go_wp2_with fail
    refine (SD2'.out).mono ?_
    rintro e_3 w_3 ⟨v3, rfl, hown3, hb_3⟩
    obtain ⟨XB, capB, rfl, _, hrB⟩ := own_ring2 hown3
    have HRB := Lib.hid (fun (W : World) (hb : Below w_3.heap.size w_3 W) => hrB.bl hb)
    have hb13 : Below g1.out.heap.size g1.out w_3 := below_step hb_2 hb_3
    have hbw3 : Below w.heap.size w w_3 := below_step g1.below hb13
    clear hown3 hrB SD2'
    obtain ⟨nA, hnA⟩ : ∃ n, MA.length = n := ⟨_, rfl⟩
    have HNA := Lib.hid hnA
    obtain ⟨nB, hnB⟩ : ∃ n, MB.length = n := ⟨_, rfl⟩
    have HNB := Lib.hid hnB
    rw [hnA] at lA ⊢
    rw [hnB] at lB ⊢
    clear hnA hnB
    go_wp2_with fail
    go_loopg [10, 13] n (fun m c i W => ∃ j : Nat, j + m = n ∧ i = .int .i64 (j : Int) ∧ c = .int .i64 ((onC 0 T L j : Nat) : Int) ∧ Below w_3.heap.size w_3 W)
    case atStart => exact ⟨0, by omega, rfl, rfl, Below.refl _ _⟩
    case round =>
      obtain ⟨j, hj, rfl, rfl, hb⟩ := hrel
      rcases (show j < n ∨ j = n by omega) with hlt | hlt
      · obtain ⟨gr, o, rfl, c1, c2⟩ := HR1.out _ (below_step hb13 hb) j (by rw [HN.out]; exact hlt)
        have hst := onC_step 0 T L j (by rw [HN.out]; exact hlt)
        have hbd := onC_bd 0 T L j
        rw [HN.out] at hbd
        have hjI : (j : Int) < (n : Int) := by omega
        have hon : onB 0 T (L.getD j (0, 0)) = decide ((L.getD j (0, 0)).1 = T) := rfl
        rw [hon] at hst
        generalize (L.getD j (0, 0)).1 = x at *
        generalize (L.getD j (0, 0)).2 = y at *
        generalize onC 0 T L j = q at *
        by_cases he : x = T
        · rw [decide_eq_true he] at hst
          have hst' := Lib.hid hst
          have q1 : (x == T) = true := by simp [he]
          clear hst hon he
          go_wp2_with fail
          go_roundg (n - (j + 1))
          case measure => omega
          case rel => exact ⟨j + 1, by omega, by go_num, by rw [hst'.out]; go_num, hb⟩
        · rw [decide_eq_false he] at hst
          have hst' := Lib.hid hst
          have q1 : (x == T) = false := by simp [he]
          clear hst hon he
          go_wp2_with fail
          go_roundg (n - (j + 1))
          case measure => omega
          case rel => exact ⟨j + 1, by omega, by go_num, by rw [hst'.out]; rfl, hb⟩
      · subst hlt
        obtain ⟨on0, hon0⟩ : ∃ c, onC 0 T L j = c := ⟨_, rfl⟩
        have HON := Lib.hid hon0
        rw [hon0]
        clear hon0
        go_wp2_with fail
        go_loopg [11, 14] nA (fun m c i W => ∃ j : Nat, j + m = nA ∧ i = .int .i64 (j : Int) ∧ c = .int .i64 ((onC 0 T MA j : Nat) : Int) ∧ Below w_3.heap.size w_3 W)
        case atStart => exact ⟨0, by omega, rfl, rfl, hb⟩
        case round =>
          clear hb
          obtain ⟨i2, hji2, rfl, rfl, hb⟩ := hrel
          rcases (show i2 < nA ∨ i2 = nA by omega) with hlt | hlt
          · obtain ⟨gr, o, rfl, c1, c2⟩ := HRA.out _ (below_step hb_3 hb) i2 (by rw [HNA.out]; exact hlt)
            have hst := onC_step 0 T MA i2 (by rw [HNA.out]; exact hlt)
            have hbd := onC_bd 0 T MA i2
            rw [HNA.out] at hbd
            have hjI : (i2 : Int) < (nA : Int) := by omega
            have hkp : T ≤ (MA.getD i2 (0, 0)).1 := kp_lo.1 (KA.out _ (getD_mem _ _ (by rw [HNA.out]; exact hlt)))
            have hon : onB 0 T (MA.getD i2 (0, 0)) = decide ((MA.getD i2 (0, 0)).1 = T) := rfl
            rw [hon] at hst
            generalize (MA.getD i2 (0, 0)).1 = x at *
            generalize (MA.getD i2 (0, 0)).2 = y at *
            generalize onC 0 T MA i2 = q at *
            have q2 : ¬ x < T := by omega
            by_cases he : x = T
            · rw [decide_eq_true he] at hst
              have hst' := Lib.hid hst
              have q1 : (x == T) = true := by simp [he]
              clear hst hon he
              go_wp2_with fail
              go_roundg (nA - (i2 + 1))
              case measure => omega
              case rel => exact ⟨i2 + 1, by omega, by go_num, by rw [hst'.out]; go_num, hb⟩
            · rw [decide_eq_false he] at hst
              have hst' := Lib.hid hst
              have q1 : (x == T) = false := by simp [he]
              clear hst hon he
              go_wp2_with fail
              go_roundg (nA - (i2 + 1))
              case measure => omega
              case rel => exact ⟨i2 + 1, by omega, by go_num, by rw [hst'.out]; rfl, hb⟩
          · subst hlt
            obtain ⟨cA, hcA⟩ : ∃ c, onC 0 T MA i2 = c := ⟨_, rfl⟩
            have HA1 := Lib.hid hcA
            rw [hcA]
            clear hcA
            go_wp2_with fail
            go_loopg [12, 15] nB (fun m c i W => ∃ j : Nat, j + m = nB ∧ i = .int .i64 (j : Int) ∧ c = .int .i64 ((onC 0 T MB j : Nat) : Int) ∧ Below w_3.heap.size w_3 W)
            case atStart => exact ⟨0, by omega, rfl, rfl, hb⟩
            case round =>
              clear hb
              obtain ⟨i3, hji3, rfl, rfl, hb⟩ := hrel
              rcases (show i3 < nB ∨ i3 = nB by omega) with hlt | hlt
              · obtain ⟨gr, o, rfl, c1, c2⟩ := HRB.out _ (hb) i3 (by rw [HNB.out]; exact hlt)
                have hst := onC_step 0 T MB i3 (by rw [HNB.out]; exact hlt)
                have hbd := onC_bd 0 T MB i3
                rw [HNB.out] at hbd
                have hjI : (i3 : Int) < (nB : Int) := by omega
                have hkp : (MB.getD i3 (0, 0)).1 ≤ T := kp_hi.1 (KB.out _ (getD_mem _ _ (by rw [HNB.out]; exact hlt)))
                have hon : onB 0 T (MB.getD i3 (0, 0)) = decide ((MB.getD i3 (0, 0)).1 = T) := rfl
                rw [hon] at hst
                generalize (MB.getD i3 (0, 0)).1 = x at *
                generalize (MB.getD i3 (0, 0)).2 = y at *
                generalize onC 0 T MB i3 = q at *
                have q2 : ¬ T < x := by omega
                by_cases he : x = T
                · rw [decide_eq_true he] at hst
                  have hst' := Lib.hid hst
                  have q1 : (x == T) = true := by simp [he]
                  clear hst hon he
                  go_wp2_with fail
                  go_roundg (nB - (i3 + 1))
                  case measure => omega
                  case rel => exact ⟨i3 + 1, by omega, by go_num, by rw [hst'.out]; go_num, hb⟩
                · rw [decide_eq_false he] at hst
                  have hst' := Lib.hid hst
                  have q1 : (x == T) = false := by simp [he]
                  clear hst hon he
                  go_wp2_with fail
                  go_roundg (nB - (i3 + 1))
                  case measure => omega
                  case rel => exact ⟨i3 + 1, by omega, by go_num, by rw [hst'.out]; rfl, hb⟩
              · subst hlt
                have s1 := S1.out
                have s2 := S2.out
                have s3 := S3.out
                rw [HNA.out, HN.out, HON.out] at s1
                rw [HNB.out, HN.out, HON.out] at s2
                rw [HNA.out, HNB.out, HN.out, HON.out] at s3
                rw [HA1.out] at s1
                obtain ⟨bB, hbB⟩ : ∃ c, onC 0 T MB i3 = c := ⟨_, rfl⟩
                rw [hbB] at s2 ⊢
                have e1 : (cA : Int) = (bB : Int) := by omega
                have e2 : (i2 : Int) + (i3 : Int) = (j : Int) + (on0 : Int) + 2 * ((cA : Int) - (on0 : Int)) := by omega
                have q1 : ((cA : Int) == (bB : Int)) = true := by simp; omega
                have q2 : ((i2 : Int) + (i3 : Int) == (j : Int) + (on0 : Int) + 2 * ((cA : Int) - (on0 : Int))) = true := by simp; omega
                have z1 : (cA : Int) ≤ 1000 := by omega
                have z2 : (on0 : Int) ≤ 1000 := by omega
                clear s1 s2 s3 hbB
                go_wp2_with fail
                refine (awake19 _).mono ?_
                rintro e_8 w_8 ⟨rfl, hb_8⟩
                go_wp2_with fail
                go_ret
                exact ⟨rfl, below_step hbw3 (below_step hb hb_8)⟩
  · go_enter Try.func3, Try.ntmps3
    go_wp2_with fail
    refine (NR.out).mono ?_
    rintro e_1 w_1 ⟨v, L, rfl, hown, hl12, hnb, hb_1⟩
    obtain ⟨X1, cap1, rfl, hcap1, hr1⟩ := own_ring2 hown
    have hbig : InBox (-536870912) 536870912 (-536870912) 536870912 L := fun p hp => by have := hnb p hp; omega
    have hS : Small L := ⟨by omega, hbig⟩
    obtain ⟨g1, rfl⟩ := bw_of hb_1
    have SD1 := Lib.hid (clip_side 1 T true X1 cap1 L (by decide) hS hcap1 g1.out hr1)
    have SD2 := Lib.hid (fun (W : World) (hb : Below g1.out.heap.size g1.out W) => clip_side 1 T false X1 cap1 L (by decide) hS hcap1 W (hr1.bl hb))
    have HR1 := Lib.hid (fun (W : World) (hb : Below g1.out.heap.size g1.out W) => hr1.bl hb)
    obtain ⟨xc, s1, s2, s3⟩ := sides 1 T (by decide) L
    have KA := Lib.hid (cut_kp (ax := 1) (t := T) (ab := true) (L := L) (by decide))
    have KB := Lib.hid (cut_kp (ax := 1) (t := T) (ab := false) (L := L) (by decide))
    have lA := cut_len 1 T true L
    have lB := cut_len 1 T false L
    clear hown hr1 hnb hbig hS hcap1
    obtain ⟨MA, hMA⟩ : ∃ M, cutL 1 T true L = M := ⟨_, rfl⟩
    obtain ⟨MB, hMB⟩ : ∃ M, cutL 1 T false L = M := ⟨_, rfl⟩
    rw [hMA] at SD1 s1 s3 KA lA
    rw [hMB] at SD2 s2 s3 KB lB
    have S1 := Lib.hid s1
    have S2 := Lib.hid s2
    have S3 := Lib.hid s3
    clear hMA hMB s1 s2 s3
    obtain ⟨n, hn⟩ : ∃ n, L.length = n := ⟨_, rfl⟩
    have HN := Lib.hid hn
    rw [hn] at SD1 SD2 hl12 lA lB ⊢
    clear hn
    go_wp2_with fail
    refine (SD1.out).mono ?_
    rintro e_2 w_2 ⟨v2, rfl, hown2, hb_2⟩
    obtain ⟨XA, capA, rfl, _, hrA⟩ := own_ring2 hown2
    have SD2' := Lib.hid (SD2.out w_2 hb_2)
    have HRA := Lib.hid (fun (W : World) (hb : Below w_2.heap.size w_2 W) => hrA.bl hb)
    clear hown2 hrA SD1 SD2
    go_wp2_with fail
    refine (SD2'.out).mono ?_
    rintro e_3 w_3 ⟨v3, rfl, hown3, hb_3⟩
    obtain ⟨XB, capB, rfl, _, hrB⟩ := own_ring2 hown3
    have HRB := Lib.hid (fun (W : World) (hb : Below w_3.heap.size w_3 W) => hrB.bl hb)
    have hb13 : Below g1.out.heap.size g1.out w_3 := below_step hb_2 hb_3
    have hbw3 : Below w.heap.size w w_3 := below_step g1.below hb13
    clear hown3 hrB SD2'
    obtain ⟨nA, hnA⟩ : ∃ n, MA.length = n := ⟨_, rfl⟩
    have HNA := Lib.hid hnA
    obtain ⟨nB, hnB⟩ : ∃ n, MB.length = n := ⟨_, rfl⟩
    have HNB := Lib.hid hnB
    rw [hnA] at lA ⊢
    rw [hnB] at lB ⊢
    clear hnA hnB
    go_wp2_with fail
    go_loopg [10, 13] n (fun m c i W => ∃ j : Nat, j + m = n ∧ i = .int .i64 (j : Int) ∧ c = .int .i64 ((onC 1 T L j : Nat) : Int) ∧ Below w_3.heap.size w_3 W)
    case atStart => exact ⟨0, by omega, rfl, rfl, Below.refl _ _⟩
    case round =>
      obtain ⟨j, hj, rfl, rfl, hb⟩ := hrel
      rcases (show j < n ∨ j = n by omega) with hlt | hlt
      · obtain ⟨gr, o, rfl, c1, c2⟩ := HR1.out _ (below_step hb13 hb) j (by rw [HN.out]; exact hlt)
        have hst := onC_step 1 T L j (by rw [HN.out]; exact hlt)
        have hbd := onC_bd 1 T L j
        rw [HN.out] at hbd
        have hjI : (j : Int) < (n : Int) := by omega
        have hon : onB 1 T (L.getD j (0, 0)) = decide ((L.getD j (0, 0)).2 = T) := rfl
        rw [hon] at hst
        generalize (L.getD j (0, 0)).1 = x at *
        generalize (L.getD j (0, 0)).2 = y at *
        generalize onC 1 T L j = q at *
        by_cases he : y = T
        · rw [decide_eq_true he] at hst
          have hst' := Lib.hid hst
          have q1 : (y == T) = true := by simp [he]
          clear hst hon he
          go_wp2_with fail
          go_roundg (n - (j + 1))
          case measure => omega
          case rel => exact ⟨j + 1, by omega, by go_num, by rw [hst'.out]; go_num, hb⟩
        · rw [decide_eq_false he] at hst
          have hst' := Lib.hid hst
          have q1 : (y == T) = false := by simp [he]
          clear hst hon he
          go_wp2_with fail
          go_roundg (n - (j + 1))
          case measure => omega
          case rel => exact ⟨j + 1, by omega, by go_num, by rw [hst'.out]; rfl, hb⟩
      · subst hlt
        obtain ⟨on0, hon0⟩ : ∃ c, onC 1 T L j = c := ⟨_, rfl⟩
        have HON := Lib.hid hon0
        rw [hon0]
        clear hon0
        go_wp2_with fail
        go_loopg [11, 14] nA (fun m c i W => ∃ j : Nat, j + m = nA ∧ i = .int .i64 (j : Int) ∧ c = .int .i64 ((onC 1 T MA j : Nat) : Int) ∧ Below w_3.heap.size w_3 W)
        case atStart => exact ⟨0, by omega, rfl, rfl, hb⟩
        case round =>
          clear hb
          obtain ⟨i2, hji2, rfl, rfl, hb⟩ := hrel
          rcases (show i2 < nA ∨ i2 = nA by omega) with hlt | hlt
          · obtain ⟨gr, o, rfl, c1, c2⟩ := HRA.out _ (below_step hb_3 hb) i2 (by rw [HNA.out]; exact hlt)
            have hst := onC_step 1 T MA i2 (by rw [HNA.out]; exact hlt)
            have hbd := onC_bd 1 T MA i2
            rw [HNA.out] at hbd
            have hjI : (i2 : Int) < (nA : Int) := by omega
            have hkp : T ≤ (MA.getD i2 (0, 0)).2 := kp_lo.1 (KA.out _ (getD_mem _ _ (by rw [HNA.out]; exact hlt)))
            have hon : onB 1 T (MA.getD i2 (0, 0)) = decide ((MA.getD i2 (0, 0)).2 = T) := rfl
            rw [hon] at hst
            generalize (MA.getD i2 (0, 0)).1 = x at *
            generalize (MA.getD i2 (0, 0)).2 = y at *
            generalize onC 1 T MA i2 = q at *
            have q2 : ¬ y < T := by omega
            by_cases he : y = T
            · rw [decide_eq_true he] at hst
              have hst' := Lib.hid hst
              have q1 : (y == T) = true := by simp [he]
              clear hst hon he
              go_wp2_with fail
              go_roundg (nA - (i2 + 1))
              case measure => omega
              case rel => exact ⟨i2 + 1, by omega, by go_num, by rw [hst'.out]; go_num, hb⟩
            · rw [decide_eq_false he] at hst
              have hst' := Lib.hid hst
              have q1 : (y == T) = false := by simp [he]
              clear hst hon he
              go_wp2_with fail
              go_roundg (nA - (i2 + 1))
              case measure => omega
              case rel => exact ⟨i2 + 1, by omega, by go_num, by rw [hst'.out]; rfl, hb⟩
          · subst hlt
            obtain ⟨cA, hcA⟩ : ∃ c, onC 1 T MA i2 = c := ⟨_, rfl⟩
            have HA1 := Lib.hid hcA
            rw [hcA]
            clear hcA
            go_wp2_with fail
            go_loopg [12, 15] nB (fun m c i W => ∃ j : Nat, j + m = nB ∧ i = .int .i64 (j : Int) ∧ c = .int .i64 ((onC 1 T MB j : Nat) : Int) ∧ Below w_3.heap.size w_3 W)
            case atStart => exact ⟨0, by omega, rfl, rfl, hb⟩
            case round =>
              clear hb
              obtain ⟨i3, hji3, rfl, rfl, hb⟩ := hrel
              rcases (show i3 < nB ∨ i3 = nB by omega) with hlt | hlt
              · obtain ⟨gr, o, rfl, c1, c2⟩ := HRB.out _ (hb) i3 (by rw [HNB.out]; exact hlt)
                have hst := onC_step 1 T MB i3 (by rw [HNB.out]; exact hlt)
                have hbd := onC_bd 1 T MB i3
                rw [HNB.out] at hbd
                have hjI : (i3 : Int) < (nB : Int) := by omega
                have hkp : (MB.getD i3 (0, 0)).2 ≤ T := kp_hi.1 (KB.out _ (getD_mem _ _ (by rw [HNB.out]; exact hlt)))
                have hon : onB 1 T (MB.getD i3 (0, 0)) = decide ((MB.getD i3 (0, 0)).2 = T) := rfl
                rw [hon] at hst
                generalize (MB.getD i3 (0, 0)).1 = x at *
                generalize (MB.getD i3 (0, 0)).2 = y at *
                generalize onC 1 T MB i3 = q at *
                have q2 : ¬ T < y := by omega
                by_cases he : y = T
                · rw [decide_eq_true he] at hst
                  have hst' := Lib.hid hst
                  have q1 : (y == T) = true := by simp [he]
                  clear hst hon he
                  go_wp2_with fail
                  go_roundg (nB - (i3 + 1))
                  case measure => omega
                  case rel => exact ⟨i3 + 1, by omega, by go_num, by rw [hst'.out]; go_num, hb⟩
                · rw [decide_eq_false he] at hst
                  have hst' := Lib.hid hst
                  have q1 : (y == T) = false := by simp [he]
                  clear hst hon he
                  go_wp2_with fail
                  go_roundg (nB - (i3 + 1))
                  case measure => omega
                  case rel => exact ⟨i3 + 1, by omega, by go_num, by rw [hst'.out]; rfl, hb⟩
              · subst hlt
                have s1 := S1.out
                have s2 := S2.out
                have s3 := S3.out
                rw [HNA.out, HN.out, HON.out] at s1
                rw [HNB.out, HN.out, HON.out] at s2
                rw [HNA.out, HNB.out, HN.out, HON.out] at s3
                rw [HA1.out] at s1
                obtain ⟨bB, hbB⟩ : ∃ c, onC 1 T MB i3 = c := ⟨_, rfl⟩
                rw [hbB] at s2 ⊢
                have e1 : (cA : Int) = (bB : Int) := by omega
                have e2 : (i2 : Int) + (i3 : Int) = (j : Int) + (on0 : Int) + 2 * ((cA : Int) - (on0 : Int)) := by omega
                have q1 : ((cA : Int) == (bB : Int)) = true := by simp; omega
                have q2 : ((i2 : Int) + (i3 : Int) == (j : Int) + (on0 : Int) + 2 * ((cA : Int) - (on0 : Int))) = true := by simp; omega
                have z1 : (cA : Int) ≤ 1000 := by omega
                have z2 : (on0 : Int) ≤ 1000 := by omega
                clear s1 s2 s3 hbB
                go_wp2_with fail
                refine (awake19 _).mono ?_
                rintro e_8 w_8 ⟨rfl, hb_8⟩
                go_wp2_with fail
                go_ret
                exact ⟨rfl, below_step hbw3 (below_step hb hb_8)⟩
/-! THE STATEMENT ClipSides -/
section
open Go.ChangeShapes Go.WideShapes Go.ChangeAt Go.RowKit Go.Joins
set_option linter.unusedVariables false
set_option maxRecDepth 100000 in
theorem clipSides_lifted (os : Os) (started : os.Started) (H : Type) (enc : TypeId × Value → H) :
    ReturnsInHanded {} Try.checked os 3 .any (Rows.clipSidesSpec.pre6 enc Try.prog Try.f3 Rows.clipSidesRow.domain false) (Rows.clipSidesSpec.post enc Try.prog Try.f3 false true false false) := by
  refine returnsInHanded_of_change (C := Try.checked) (show ownKnob Try.prog.godebug = none by kernel_rfl) started (by kernel_rfl) Try.func3
    (ChangeSpec.witness6 (enc := enc) (C := Try.checked) false ⟨#[], #[.slice none 0 0, .int .i64 0, .int .i64 0], []⟩ 8 (by kernel_rfl) (by kernel_rfl) (by kernel_rfl) (by kernel_rfl)) ?_
  intro W base args ds gs before hval0 hW hcnd _
  have hval : ∀ (j : Nat) t v, Try.f3.params[j]? = some t → args[j]? = some v → Value.okWide Try.prog W .any base t v := hval0
  have hW' := hW
  obtain ⟨p, q, hA0, hV, rfl, hfz, hnd⟩ := hW
  have hA : DataW.TrodAll enc Try.prog W 0 (fun _ => true) true Try.f3.params.toList args.toList ds p := hA0
  rw [Try.params3] at hA hval
  obtain ⟨v0, vs0, d0, ds0, p0, q0, hargs, rfl, rfl, h0, r0⟩ := trodAll_cons hA
  obtain ⟨v1, vs1, d1, ds1, p1, q1, rfl, rfl, rfl, h1, r1⟩ := trodAll_cons r0
  obtain ⟨v2, vs2, d2, ds2, p2, q2, rfl, rfl, rfl, h2, r2⟩ := trodAll_cons r1
  obtain ⟨rfl, rfl, rfl⟩ := trodAll_nil r2
  obtain rfl : args = #[v0, v1, v2] := by cases args; simp_all
  obtain ⟨rfl, rfl⟩ := trodVars_none hV
  have h0k := h0
  obtain ⟨X, len, cap, Z, rfl, wf_len, hz_Z, hb_Z⟩ := open_intsF Try.underlying22 Try.underlying2 (show Try.prog.cellsOf 2 = 1 by kernel_rfl) (hval 0 22 v0 rfl rfl) h0
  obtain ⟨ax, rfl, rfl, rfl, wf_ax⟩ := open_int Try.underlying3 (hval 1 3 v1 rfl rfl) h1
  obtain ⟨t, rfl, rfl, rfl, wf_t⟩ := open_int Try.underlying2 (hval 2 2 v2 rfl rfl) h2
  clear hA0 hval0
  simp only [List.append_nil] at hW'
  have hlt0 : ∀ x ∈ p0, x.block < W.heap.size := fun x hx => hW'.lt x (by simpa using hx)
  refine (clipsides_walk X len cap Z ax t wf_len hb_Z (wf_i64 wf_ax).1 (wf_i64 wf_ax).2 (wf_i64 wf_t).1 (wf_i64 wf_t).2 W hz_Z).mono fun e W' ⟨he, hb⟩ => ?_
  subst he
  exact ⟨_, rfl, post_of_below (pv := []) hW' (fun _ _ _ => (trodAll_cons_mk (shut_bool Try.underlying4 _) trodAll_mk0)) (fun sp hsp => (trodAll_cons_mk (Go.WideElems.Trod_stays lidB (show Try.prog.readableRec 22 = true by kernel_rfl) (of_decide_eq_true (by kernel_rfl)) h0k (fun x hx => hb.same (hlt0 x hx)) (fun x hx => hsp x (by simpa using hx))) (trodAll_cons_mk (shut_int Try.underlying3 wf_ax) (trodAll_cons_mk (shut_int Try.underlying2 wf_t) trodAll_mk0)))) (fun _ _ => rfl) (by simp) hb
    (ok_one (by kernel_rfl) rfl (okWide_bool_mk Try.underlying4 _))⟩
theorem clipSides_holds : Rows.ClipSidesSaid :=
  OpenClaim.holds_of_wide 3 Try.f3 rfl rfl rfl rfl rfl rfl rfl ⟨rfl, rfl, rfl, rfl, rfl⟩ rfl rfl rfl rfl rfl (by kernel_rfl) Try.func3 (by kernel_rfl)
    (of_decide_eq_true (by kernel_rfl)) (by unfold Func.isWrapper; first | (rw [if_pos (by decide +kernel)]; kernel_rfl) | (rw [if_neg (by decide +kernel)]; exact ⟨rfl, rfl⟩))
    (fun os started H enc _ => clipSides_lifted os started H enc)
end
#print axioms clipSides_holds
end Go.Proofs.Ytnmehelejdbjaaa

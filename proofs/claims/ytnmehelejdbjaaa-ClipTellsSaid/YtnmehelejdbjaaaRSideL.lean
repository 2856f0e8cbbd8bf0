
/- The walk of the reference's Side, of any ring. -/
import Derived.Test.YtnmehelejdbjaaaClipR
import Derived.Test.YtnmehelejdbjaaaFitsR
import Derived.Deep.CutRange
namespace Go.Proofs.Ytnmehelejdbjaaa
open Go.RowKit
set_option linter.unusedSimpArgs false
set_option linter.unusedVariables false
set_option maxHeartbeats 400000 in
theorem ref_floor9 (a b : Int) (hb : 0 < b) (ha : -9223372036854775808 ≤ a) (ha' : a ≤ 9223372036854775807) (hb' : b ≤ 9223372036854775807) (w : World) :
    Calls Try.prog 24 #[.int .i64 a, .int .i64 b] w fun e w' => e = .returned (.tuple #[.int .i64 (a / b), .int .i64 (a % b), .bool true]) ∧ ∃ n, w.drewN n = w' := by
  obtain ⟨q0, q1⟩ := fl_bd a b hb ha ha'
  have r0 := Int.emod_lt_of_pos a hb
  have r1 := Int.emod_nonneg a (b := b) (by omega)
  by_cases h : a.tmod b < 0
  · obtain ⟨e1, e2⟩ := fl_neg a b hb h
    have t0 : -9223372036854775808 ≤ a.tdiv b - 1 := by omega
    have t1 : a.tdiv b ≤ 9223372036854775807 := by
      by_cases h0 : 0 ≤ a
      · have := Int.tmod_nonneg b h0; omega
      · have := Int.ediv_neg_of_neg_of_pos (a := a) (b := b) (by omega) hb; omega
    have t2 : 0 ≤ a.tmod b + b := by omega
    have t3 : a.tmod b + b < b := by omega
    have E1 := Lib.hid e1
    have E2 := Lib.hid e2
    clear e1 e2 r0 r1 q0 q1
    go_enter Try.func24, Try.ntmps24
    go_wp2
    go_quiet (fail)
    go_wp2
    go_ret3
    exact ⟨ret_iib E1.out E2.out rfl, _, rfl⟩
  · obtain ⟨e1, e2⟩ := fl_pos a b hb (by omega)
    have t2 : 0 ≤ a.tmod b := by omega
    have E1 := Lib.hid e1
    have E2 := Lib.hid e2
    clear e1 e2 r0 r1 q0 q1
    go_enter Try.func24, Try.ntmps24
    go_wp2
    go_quiet (fail)
    go_wp2
    go_ret3
    exact ⟨ret_iib E1.out E2.out rfl, _, rfl⟩


theorem flo_up {n d : Int} (h : ¬ d < 0) : flo n d = n / d := if_neg h
theorem flo_dn {n d : Int} (h : d < 0) : flo n d = -n / -d := if_pos h
theorem news2a (w : World) (x y : Value) (e : TypeId) (o : Obj) : ∀ j u, [x, y][j]? = some u → ((w.alloc o).alloc (.cells #[x, y] e)).cell? ((⟨w.heap.size + 1, 0, none⟩ : Addr).add j) = some u := by
  have h := news2 (w.alloc o) x y e
  rwa [show (w.alloc o).heap.size = w.heap.size + 1 by simp] at h
theorem kp_at {ax t : Int} {ab : Bool} {p : Int × Int} (h : if ab then t ≤ pcx ax p else pcx ax p ≤ t) : kpB ax t ab p = true := by
  unfold kpB
  cases ab <;> simpa using h
theorem kp_no {ax t : Int} {ab : Bool} {p : Int × Int} (h : if ab then pcx ax p < t else t < pcx ax p) : kpB ax t ab p = false := by
  unfold kpB
  cases ab <;> simpa using h
theorem bt_at {ax t : Int} {p q : Int × Int} (h : (pcx ax p < t ∧ t < pcx ax q) ∨ (pcx ax q < t ∧ t < pcx ax p)) : btB ax t p q = true := decide_eq_true h
theorem bt_no {ax t : Int} {p q : Int × Int} (h : ¬ ((pcx ax p < t ∧ t < pcx ax q) ∨ (pcx ax q < t ∧ t < pcx ax p))) : btB ax t p q = false := decide_eq_false h
theorem cutS_tt {ax t : Int} {ab : Bool} {p q : Int × Int} (h1 : kpB ax t ab p = true) (h2 : btB ax t p q = true) : cutS ax t ab p q = [p, crP ax t p q] := by unfold cutS; rw [h1, h2]; rfl
theorem cutS_tf {ax t : Int} {ab : Bool} {p q : Int × Int} (h1 : kpB ax t ab p = true) (h2 : btB ax t p q = false) : cutS ax t ab p q = [p] := by unfold cutS; rw [h1, h2]; rfl
theorem cutS_ft {ax t : Int} {ab : Bool} {p q : Int × Int} (h1 : kpB ax t ab p = false) (h2 : btB ax t p q = true) : cutS ax t ab p q = [crP ax t p q] := by unfold cutS; rw [h1, h2]; rfl
theorem cutS_ff {ax t : Int} {ab : Bool} {p q : Int × Int} (h1 : kpB ax t ab p = false) (h2 : btB ax t p q = false) : cutS ax t ab p q = [] := by unfold cutS; rw [h1, h2]; rfl

end Go.Proofs.Ytnmehelejdbjaaa

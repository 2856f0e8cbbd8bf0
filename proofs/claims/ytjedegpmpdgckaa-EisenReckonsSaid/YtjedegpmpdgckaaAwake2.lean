/- apiarylaw2.awake returns true. -/
import Derived.Test.YtjedegpmpdgckaaBeta
namespace Go.Proofs.Ytjedegpmpdgckaa
open Go.RowKit
theorem eis_unit_at (k : Int) (x y : Int) (hx : uA (k % 6) = x) (hy : uB (k % 6) = y) (w : World) :
    Calls Try.prog 16 #[.int .i64 k] w fun e w' => e = .returned (.agg #[.int .i64 x, .int .i64 y]) ∧ Below w.heap.size w w' := by
  have h := eis_unit k w
  rw [hx, hy] at h
  exact h
set_option maxHeartbeats 400000 in
theorem awake2 (w : World) : Calls Try.prog 18 #[] w fun e w' => e = .returned (.bool true) ∧ Below w.heap.size w w' := by
  go_enter Try.func18, Try.ntmps18
  go_wp2_with fail
  refine (eis_mul_fit 2 1 3 (-1) 7 0 (by omega) (by omega) (by omega) (by omega) (by omega) (by omega) (by omega) (by omega) (by omega) (by omega) (by omega) (by omega) (by omega) (by omega) _).mono ?_
  rintro e w1 ⟨rfl, hb1⟩
  go_wp2_with fail
  refine calls_start (fun W => W.cell? ⟨w1.heap.size, 0, none⟩ = some (.int .i64 7) ∧ W.cell? ⟨w1.heap.size, 1, none⟩ = some (.int .i64 0) ∧ Below w.heap.size w W) ⟨by simp [go_sem], by simp [go_sem], by repeat (first | exact Below.refl _ _ | refine bl_alloc ?_ _ | refine bl_drewN ?_ _ | refine bl_drew ?_ | refine bl_set ?_ (by first | (simp; done) | (simp; omega) | omega) _ | refine below_step ?_ (by assumption) | refine below_step ?_ (Bw.below _))⟩ ?_
  rintro W ⟨h1, h2, hW⟩ g
  have c1 := Bw.hold h1
  have c2 := Bw.hold h2
  clear h1 h2
  refine (eis_norm_fit 2 1 7 (by omega) (by omega) (by omega) (by omega) (by omega) (by omega) (by omega) _).mono ?_
  rintro e w2 ⟨rfl, hb2⟩
  obtain ⟨g2, rfl⟩ := g.next hb2
  go_wp2_with fail
  refine (eis_unit_at 2 (-1) 1 (by decide) (by decide) _).mono ?_
  rintro e w2 ⟨rfl, hb3⟩
  obtain ⟨g3, rfl⟩ := g2.next hb3
  go_wp2_with fail
  refine (eis_unit_at (-1) 1 (-1) (by decide) (by decide) _).mono ?_
  rintro e w2 ⟨rfl, hb4⟩
  obtain ⟨g4, rfl⟩ := g3.next hb4
  go_wp2_with fail
  go_ret
  exact ⟨rfl, by repeat (first | exact Below.refl _ _ | refine bl_alloc ?_ _ | refine bl_drewN ?_ _ | refine bl_drew ?_ | refine bl_set ?_ (by first | (simp; done) | (simp; omega) | omega) _ | refine below_step ?_ (by assumption) | refine below_step ?_ (Bw.below _))⟩
end Go.Proofs.Ytjedegpmpdgckaa

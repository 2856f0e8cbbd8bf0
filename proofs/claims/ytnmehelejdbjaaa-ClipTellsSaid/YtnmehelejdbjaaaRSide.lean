
/- The reference's Side, of any ring. -/
import Derived.Test.YtnmehelejdbjaaaRSide0
import Derived.Test.YtnmehelejdbjaaaRSide1
namespace Go.Proofs.Ytnmehelejdbjaaa
open Go.RowKit
set_option linter.unusedSimpArgs false
set_option linter.unusedVariables false

set_option maxHeartbeats 1000000 in
theorem ref_sideR (ax t : Int) (ab : Bool) (X : Option Addr) (cap : Nat) (L : List (Int × Int)) (hlen : L.length ≤ 1000) (w : World) (hr : RingAt w X L) :
    Calls Try.prog 17 #[.slice X L.length cap, .int .i64 ax, .int .i64 t, .bool ab] w fun e w' => ∃ v, e = .returned v ∧ w'.ownsRow w.heap.size 26 2 v (sdL ax t ab L).length (rgRow (sdL ax t ab L)) ∧ Below w.heap.size w w' := by
  by_cases hax : ax = 0 ∨ ax = 1
  · rcases hB : okrB L with _ | _
    · rw [sdL_no (.inr hB)]
      have OK := ref_fitsR X cap L hlen w hr
      rw [hB] at OK
      have HOK := Lib.hid OK
      clear hax hB OK hr
      generalize L.length = N at *
      go_enter Try.func17, Try.ntmps17
      go_wp2_with fail
      refine (HOK.out).mono ?_
      rintro e_1 w_1 ⟨rfl, hb_1⟩
      go_wp2_with fail
      go_ret
      exact ⟨_, rfl, own_nil9 _ _ _, hb_1⟩
    · rw [sdL_yes hax hB]
      rcases hax with rfl | rfl
      · exact ref_sideY0 t ab X cap L hB w hr
      · exact ref_sideY1 t ab X cap L hB w hr
  · rw [sdL_no (.inl hax)]
    have OK := ref_fitsR X cap L hlen w hr
    have HOK := Lib.hid OK
    clear OK hr
    generalize L.length = N at *
    generalize okrB L = B at *
    rcases B with _ | _
    · clear hax
      go_enter Try.func17, Try.ntmps17
      go_wp2_with fail
      refine (HOK.out).mono ?_
      rintro e_1 w_1 ⟨rfl, hb_1⟩
      go_wp2_with fail
      go_ret
      exact ⟨_, rfl, own_nil9 _ _ _, hb_1⟩
    rcases (show ax < 0 ∨ (¬ ax < 0 ∧ 1 < ax) by omega) with h | ⟨h1, h2⟩
    · clear hax
      go_enter Try.func17, Try.ntmps17
      go_wp2_with fail
      refine (HOK.out).mono ?_
      rintro e_1 w_1 ⟨rfl, hb_1⟩
      go_wp2_with fail
      go_ret
      exact ⟨_, rfl, own_nil9 _ _ _, hb_1⟩
    · clear hax
      go_enter Try.func17, Try.ntmps17
      go_wp2_with fail
      refine (HOK.out).mono ?_
      rintro e_1 w_1 ⟨rfl, hb_1⟩
      go_wp2_with fail
      go_ret
      exact ⟨_, rfl, own_nil9 _ _ _, hb_1⟩
end Go.Proofs.Ytnmehelejdbjaaa


/- Sums, differences and conjugates whose parts fit. -/
import Derived.Test.YtmipkloleklnkaaBeta
import Derived.Test.YtmipkloleklnkaaTame
namespace Go.Proofs.Ytmipkloleklnkaa
open Go.RowKit
theorem eis_add_fit (a b c d x y : Int) (ha : -9223372036854775808 ≤ a) (ha' : a ≤ 9223372036854775807) (hb : -9223372036854775808 ≤ b) (hb' : b ≤ 9223372036854775807) (hc : -9223372036854775808 ≤ c) (hc' : c ≤ 9223372036854775807) (hd : -9223372036854775808 ≤ d) (hd' : d ≤ 9223372036854775807) (hx : -9223372036854775808 ≤ x) (hx' : x ≤ 9223372036854775807) (hy : -9223372036854775808 ≤ y) (hy' : y ≤ 9223372036854775807) (ex : a + c = x) (ey : b + d = y) (w : World) :
    Calls Try.prog 33 #[.agg #[.int .i64 a, .int .i64 b], .agg #[.int .i64 c, .int .i64 d]] w fun e w' => e = .returned (.tuple #[.agg #[.int .i64 x, .int .i64 y], .bool true]) ∧ Below w.heap.size w w' := by
  have h := eis_add a b c d ha ha' hb hb' hc hc' hd hd' w
  rw [ex, ey, eA_yes (eB_yes hx hx' hy hy'), eA_yes (eB_yes hx hx' hy hy'), eB_yes hx hx' hy hy'] at h
  exact h
theorem eis_sub_fit (a b c d x y : Int) (ha : -9223372036854775808 ≤ a) (ha' : a ≤ 9223372036854775807) (hb : -9223372036854775808 ≤ b) (hb' : b ≤ 9223372036854775807) (hc : -9223372036854775808 ≤ c) (hc' : c ≤ 9223372036854775807) (hd : -9223372036854775808 ≤ d) (hd' : d ≤ 9223372036854775807) (hx : -9223372036854775808 ≤ x) (hx' : x ≤ 9223372036854775807) (hy : -9223372036854775808 ≤ y) (hy' : y ≤ 9223372036854775807) (ex : a - c = x) (ey : b - d = y) (w : World) :
    Calls Try.prog 80 #[.agg #[.int .i64 a, .int .i64 b], .agg #[.int .i64 c, .int .i64 d]] w fun e w' => e = .returned (.tuple #[.agg #[.int .i64 x, .int .i64 y], .bool true]) ∧ Below w.heap.size w w' := by
  have h := eis_sub a b c d ha ha' hb hb' hc hc' hd hd' w
  rw [ex, ey, eA_yes (eB_yes hx hx' hy hy'), eA_yes (eB_yes hx hx' hy hy'), eB_yes hx hx' hy hy'] at h
  exact h
theorem eis_conj_fit (a b x y : Int) (ha : -9223372036854775808 ≤ a) (ha' : a ≤ 9223372036854775807) (hb : -9223372036854775808 ≤ b) (hb' : b ≤ 9223372036854775807) (hx : -9223372036854775808 ≤ x) (hx' : x ≤ 9223372036854775807) (hy : -9223372036854775808 ≤ y) (hy' : y ≤ 9223372036854775807) (ex : a + b = x) (ey : -b = y) (w : World) :
    Calls Try.prog 78 #[.agg #[.int .i64 a, .int .i64 b]] w fun e w' => e = .returned (.tuple #[.agg #[.int .i64 x, .int .i64 y], .bool true]) ∧ Below w.heap.size w w' := by
  have h := eis_conj a b ha ha' hb hb' w
  rw [ex, ey, eA_yes (eB_yes hx hx' hy hy'), eA_yes (eB_yes hx hx' hy hy'), eB_yes hx hx' hy hy'] at h
  exact h
end Go.Proofs.Ytmipkloleklnkaa

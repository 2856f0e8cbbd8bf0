/-
  No cell of these rows narrows 'for every input' (looked for: loops, veiled, ifaces, maps, wideKeys, modest, calm, conditions, laid).
  DERIVED. THE GIVEN ROWS OF THIS SEAT. 9 by the template 'for every input the law returns true; each argument reads behind the call as it read before'; 0 by the template 'total and deterministic' (their statements: YtccbcehpoohgpaaTotals.lean).
  GIVEN WITH THE SEED: the statements are not yours to turn. If you find one false, say at which input.
  Laid BY PROGRAM, IN A SANDBOX (cutbox-rows.mjs): the forced cells as the released guide's own fill.sh prints them over the translation 67adb275ab33c934… (all of the seat's roots in one cut). By AI agents, Wed Nov 11 2026. No macro, syntax, notation, axiom, sorry.
-/
import Derived.Test.YtccbcehpoohgpaaChecked
import GoSem.Claim
import GoSem.ClaimJoined
import GoSem.ClaimMapViews
import Derived.JoinedTies
import Derived.KernelRfl
namespace Go.Proofs.Ytccbcehpoohgpaa
/- THE CELL 'sum', in the pinned program and in every row, IS THE sha256 OF THE DUMP (.gsa) THAT YtccbcehpoohgpaaProg.lean LOADS. Nothing in Lean hashes anything: it is a label: what it is worth is what the hold of that sum in a sandbox is worth. -/
noncomputable def Try.pinned : Pinned := { name := "ytccbcehpoohgpaa", sum := "67adb275ab33c934046fdba08ae67d56ef0db86b38755d044f868bac37b90162", checked := Try.checked }
namespace Rows
def none {H : Type} : Left H := { results := [], args := [] }

/-- 'apiarylaw3.PlaneNear': WHATEVER THE INPUT: true; the input reads as it did. -/
def planeNearSpec : ChangeSpec := { name := "planeNear", fn := fun _ => fun
  | [d1, d2, d3] => { results := [.lit (.bool true)], args := [d1, d2, d3] }
  | _ => none }
def planeNearRow : OpenClaim := { program := "ytccbcehpoohgpaa", sum := "67adb275ab33c934046fdba08ae67d56ef0db86b38755d044f868bac37b90162", func := "apiary/apiarylaw3.PlaneNear", spec := "planeNear", inPlace := ["math/bits.Add64", "math/bits.Sub64"], unfollowed := true, recurses := true, apart := false }
def PlaneNearSaid : Prop := planeNearRow.holds Try.pinned (OpenSpec.ofChange planeNearSpec)

/-- ITS FALSE NEIGHBOUR: 'it returns false'. Refute it at one input. -/
def planeNearWrong : ChangeSpec := { name := "planeNear", fn := fun _ => fun
  | [d1, d2, d3] => { results := [.lit (.bool false)], args := [d1, d2, d3] }
  | _ => none }
def PlaneNearWrongFalsely : Prop := planeNearRow.holds Try.pinned (OpenSpec.ofChange planeNearWrong)

/-- 'apiarylaw3.PlaneMoved': WHATEVER THE INPUT: true; the input reads as it did. -/
def planeMovedSpec : ChangeSpec := { name := "planeMoved", fn := fun _ => fun
  | [d1, d2, d3, d4] => { results := [.lit (.bool true)], args := [d1, d2, d3, d4] }
  | _ => none }
def planeMovedRow : OpenClaim := { program := "ytccbcehpoohgpaa", sum := "67adb275ab33c934046fdba08ae67d56ef0db86b38755d044f868bac37b90162", func := "apiary/apiarylaw3.PlaneMoved", spec := "planeMoved", inPlace := ["math/bits.Add64", "math/bits.Sub64"], unfollowed := true, recurses := true, apart := false }
def PlaneMovedSaid : Prop := planeMovedRow.holds Try.pinned (OpenSpec.ofChange planeMovedSpec)

/-- ITS FALSE NEIGHBOUR: 'it returns false'. Refute it at one input. -/
def planeMovedWrong : ChangeSpec := { name := "planeMoved", fn := fun _ => fun
  | [d1, d2, d3, d4] => { results := [.lit (.bool false)], args := [d1, d2, d3, d4] }
  | _ => none }
def PlaneMovedWrongFalsely : Prop := planeMovedRow.holds Try.pinned (OpenSpec.ofChange planeMovedWrong)

/-- 'apiarylaw3.PlaneSizes': WHATEVER THE INPUT: true; the input reads as it did. -/
def planeSizesSpec : ChangeSpec := { name := "planeSizes", fn := fun _ => fun
  | [d1, d2] => { results := [.lit (.bool true)], args := [d1, d2] }
  | _ => none }
def planeSizesRow : OpenClaim := { program := "ytccbcehpoohgpaa", sum := "67adb275ab33c934046fdba08ae67d56ef0db86b38755d044f868bac37b90162", func := "apiary/apiarylaw3.PlaneSizes", spec := "planeSizes", inPlace := ["math/bits.Add64", "math/bits.Sub64"], unfollowed := true, recurses := true, apart := false }
def PlaneSizesSaid : Prop := planeSizesRow.holds Try.pinned (OpenSpec.ofChange planeSizesSpec)

/-- ITS FALSE NEIGHBOUR: 'it returns false'. Refute it at one input. -/
def planeSizesWrong : ChangeSpec := { name := "planeSizes", fn := fun _ => fun
  | [d1, d2] => { results := [.lit (.bool false)], args := [d1, d2] }
  | _ => none }
def PlaneSizesWrongFalsely : Prop := planeSizesRow.holds Try.pinned (OpenSpec.ofChange planeSizesWrong)

/-- 'apiarylaw3.PlaneStraight': WHATEVER THE INPUT: true; the input reads as it did. -/
def planeStraightSpec : ChangeSpec := { name := "planeStraight", fn := fun _ => fun
  | [d1, d2, d3] => { results := [.lit (.bool true)], args := [d1, d2, d3] }
  | _ => none }
def planeStraightRow : OpenClaim := { program := "ytccbcehpoohgpaa", sum := "67adb275ab33c934046fdba08ae67d56ef0db86b38755d044f868bac37b90162", func := "apiary/apiarylaw3.PlaneStraight", spec := "planeStraight", inPlace := ["math/bits.Add64", "math/bits.Sub64"], unfollowed := true, recurses := true, apart := false }
def PlaneStraightSaid : Prop := planeStraightRow.holds Try.pinned (OpenSpec.ofChange planeStraightSpec)

/-- ITS FALSE NEIGHBOUR: 'it returns false'. Refute it at one input. -/
def planeStraightWrong : ChangeSpec := { name := "planeStraight", fn := fun _ => fun
  | [d1, d2, d3] => { results := [.lit (.bool false)], args := [d1, d2, d3] }
  | _ => none }
def PlaneStraightWrongFalsely : Prop := planeStraightRow.holds Try.pinned (OpenSpec.ofChange planeStraightWrong)

/-- 'apiarylaw3.PlaneBack': WHATEVER THE INPUT: true; the input reads as it did. -/
def planeBackSpec : ChangeSpec := { name := "planeBack", fn := fun _ => fun
  | [d1, d2, d3] => { results := [.lit (.bool true)], args := [d1, d2, d3] }
  | _ => none }
def planeBackRow : OpenClaim := { program := "ytccbcehpoohgpaa", sum := "67adb275ab33c934046fdba08ae67d56ef0db86b38755d044f868bac37b90162", func := "apiary/apiarylaw3.PlaneBack", spec := "planeBack", inPlace := ["math/bits.Add64", "math/bits.Sub64"], unfollowed := true, recurses := true, apart := false }
def PlaneBackSaid : Prop := planeBackRow.holds Try.pinned (OpenSpec.ofChange planeBackSpec)

/-- ITS FALSE NEIGHBOUR: 'it returns false'. Refute it at one input. -/
def planeBackWrong : ChangeSpec := { name := "planeBack", fn := fun _ => fun
  | [d1, d2, d3] => { results := [.lit (.bool false)], args := [d1, d2, d3] }
  | _ => none }
def PlaneBackWrongFalsely : Prop := planeBackRow.holds Try.pinned (OpenSpec.ofChange planeBackWrong)

/-- 'apiarylaw3.PlaneBounds': WHATEVER THE INPUT: true; the input reads as it did. -/
def planeBoundsSpec : ChangeSpec := { name := "planeBounds", fn := fun _ => fun
  | [d1, d2] => { results := [.lit (.bool true)], args := [d1, d2] }
  | _ => none }
def planeBoundsRow : OpenClaim := { program := "ytccbcehpoohgpaa", sum := "67adb275ab33c934046fdba08ae67d56ef0db86b38755d044f868bac37b90162", func := "apiary/apiarylaw3.PlaneBounds", spec := "planeBounds", inPlace := ["math/bits.Add64", "math/bits.Sub64"], unfollowed := true, recurses := true, apart := false }
def PlaneBoundsSaid : Prop := planeBoundsRow.holds Try.pinned (OpenSpec.ofChange planeBoundsSpec)

/-- ITS FALSE NEIGHBOUR: 'it returns false'. Refute it at one input. -/
def planeBoundsWrong : ChangeSpec := { name := "planeBounds", fn := fun _ => fun
  | [d1, d2] => { results := [.lit (.bool false)], args := [d1, d2] }
  | _ => none }
def PlaneBoundsWrongFalsely : Prop := planeBoundsRow.holds Try.pinned (OpenSpec.ofChange planeBoundsWrong)

/-- 'apiarylaw3.PlaneCentres': WHATEVER THE INPUT: true; the input reads as it did. -/
def planeCentresSpec : ChangeSpec := { name := "planeCentres", fn := fun _ => fun
  | [d1, d2] => { results := [.lit (.bool true)], args := [d1, d2] }
  | _ => none }
def planeCentresRow : OpenClaim := { program := "ytccbcehpoohgpaa", sum := "67adb275ab33c934046fdba08ae67d56ef0db86b38755d044f868bac37b90162", func := "apiary/apiarylaw3.PlaneCentres", spec := "planeCentres", inPlace := ["math/bits.Add64", "math/bits.Sub64"], unfollowed := true, recurses := true, apart := false }
def PlaneCentresSaid : Prop := planeCentresRow.holds Try.pinned (OpenSpec.ofChange planeCentresSpec)

/-- ITS FALSE NEIGHBOUR: 'it returns false'. Refute it at one input. -/
def planeCentresWrong : ChangeSpec := { name := "planeCentres", fn := fun _ => fun
  | [d1, d2] => { results := [.lit (.bool false)], args := [d1, d2] }
  | _ => none }
def PlaneCentresWrongFalsely : Prop := planeCentresRow.holds Try.pinned (OpenSpec.ofChange planeCentresWrong)

/-- 'apiarylaw3.PlaneHolds': WHATEVER THE INPUT: true; the input reads as it did. -/
def planeHoldsSpec : ChangeSpec := { name := "planeHolds", fn := fun _ => fun
  | [d1, d2, d3] => { results := [.lit (.bool true)], args := [d1, d2, d3] }
  | _ => none }
def planeHoldsRow : OpenClaim := { program := "ytccbcehpoohgpaa", sum := "67adb275ab33c934046fdba08ae67d56ef0db86b38755d044f868bac37b90162", func := "apiary/apiarylaw3.PlaneHolds", spec := "planeHolds", inPlace := ["math/bits.Add64", "math/bits.Sub64"], unfollowed := true, recurses := true, apart := false }
def PlaneHoldsSaid : Prop := planeHoldsRow.holds Try.pinned (OpenSpec.ofChange planeHoldsSpec)

/-- ITS FALSE NEIGHBOUR: 'it returns false'. Refute it at one input. -/
def planeHoldsWrong : ChangeSpec := { name := "planeHolds", fn := fun _ => fun
  | [d1, d2, d3] => { results := [.lit (.bool false)], args := [d1, d2, d3] }
  | _ => none }
def PlaneHoldsWrongFalsely : Prop := planeHoldsRow.holds Try.pinned (OpenSpec.ofChange planeHoldsWrong)

/-- 'apiarylaw3.PlaneCorners': WHATEVER THE INPUT: true; the input reads as it did. -/
def planeCornersSpec : ChangeSpec := { name := "planeCorners", fn := fun _ => fun
  | [d1, d2] => { results := [.lit (.bool true)], args := [d1, d2] }
  | _ => none }
def planeCornersRow : OpenClaim := { program := "ytccbcehpoohgpaa", sum := "67adb275ab33c934046fdba08ae67d56ef0db86b38755d044f868bac37b90162", func := "apiary/apiarylaw3.PlaneCorners", spec := "planeCorners", inPlace := ["math/bits.Add64", "math/bits.Sub64"], unfollowed := true, recurses := true, apart := false }
def PlaneCornersSaid : Prop := planeCornersRow.holds Try.pinned (OpenSpec.ofChange planeCornersSpec)

/-- ITS FALSE NEIGHBOUR: 'it returns false'. Refute it at one input. -/
def planeCornersWrong : ChangeSpec := { name := "planeCorners", fn := fun _ => fun
  | [d1, d2] => { results := [.lit (.bool false)], args := [d1, d2] }
  | _ => none }
def PlaneCornersWrongFalsely : Prop := planeCornersRow.holds Try.pinned (OpenSpec.ofChange planeCornersWrong)

/- THE SECOND FORM. 'bulk': how many values and letters a reading holds, each counted each time it is reached (what is shared counts as often as it is met; a slice's spare places count too). A statement '..UptoSaid' is the law's where the arguments, and the package variables that the reading takes, are together of bulk at most 1048576: NARROWER than '..Said'. Prove '..Said' where nothing that the law and all that it calls make is longer than what came in: it says more and counts as full. Else prove '..UptoSaid'. A law counts once. -/
mutual
def uptoBulk {H : Type} : DataW H → Nat
  | .lit (.string bytes) => bytes.length + 1
  | .lit _ => 1
  | .nil => 1
  | .ptr d => uptoBulk d + 1
  | .slice elems spare => uptoBulkAll elems + uptoBulkAll spare + 1
  | .agg parts => uptoBulkAll parts + 1
  | .iface _ d => uptoBulk d + 1
  | .map entries => uptoBulkEntries entries + 1
  | .held _ => 1
def uptoBulkAll {H : Type} : List (DataW H) → Nat
  | [] => 0
  | d :: r => uptoBulk d + uptoBulkAll r
def uptoBulkEntries {H : Type} : List (Lit × DataW H) → Nat
  | [] => 0
  | x :: r => uptoBulkEntry x + uptoBulkEntries r
def uptoBulkEntry {H : Type} : Lit × DataW H → Nat
  | (.string bytes, d) => bytes.length + uptoBulk d + 1
  | (_, d) => uptoBulk d + 1
 end
def uptoSmall : (H : Type) → List (DataW H) → Bool := fun _ ds => decide (uptoBulkAll ds ≤ 1048576)
def OpenSpec.upto (s : _root_.Go.ChangeSpec) : _root_.Go.OpenSpec := { _root_.Go.OpenSpec.ofChange s with cond := some uptoSmall }

/-- 'apiarylaw3.PlaneNear', WHERE WHAT IT READS IS OF BULK AT MOST 1048576: true; the input reads as it did. -/
def planeNearUptoRow : OpenClaim := { program := "ytccbcehpoohgpaa", sum := "67adb275ab33c934046fdba08ae67d56ef0db86b38755d044f868bac37b90162", func := "apiary/apiarylaw3.PlaneNear", spec := "planeNear", inPlace := ["math/bits.Add64", "math/bits.Sub64"], unfollowed := true, recurses := true, apart := false, narrowed := true }
def PlaneNearUptoSaid : Prop := planeNearUptoRow.holds Try.pinned (OpenSpec.upto planeNearSpec)

/-- 'apiarylaw3.PlaneMoved', WHERE WHAT IT READS IS OF BULK AT MOST 1048576: true; the input reads as it did. -/
def planeMovedUptoRow : OpenClaim := { program := "ytccbcehpoohgpaa", sum := "67adb275ab33c934046fdba08ae67d56ef0db86b38755d044f868bac37b90162", func := "apiary/apiarylaw3.PlaneMoved", spec := "planeMoved", inPlace := ["math/bits.Add64", "math/bits.Sub64"], unfollowed := true, recurses := true, apart := false, narrowed := true }
def PlaneMovedUptoSaid : Prop := planeMovedUptoRow.holds Try.pinned (OpenSpec.upto planeMovedSpec)

/-- 'apiarylaw3.PlaneSizes', WHERE WHAT IT READS IS OF BULK AT MOST 1048576: true; the input reads as it did. -/
def planeSizesUptoRow : OpenClaim := { program := "ytccbcehpoohgpaa", sum := "67adb275ab33c934046fdba08ae67d56ef0db86b38755d044f868bac37b90162", func := "apiary/apiarylaw3.PlaneSizes", spec := "planeSizes", inPlace := ["math/bits.Add64", "math/bits.Sub64"], unfollowed := true, recurses := true, apart := false, narrowed := true }
def PlaneSizesUptoSaid : Prop := planeSizesUptoRow.holds Try.pinned (OpenSpec.upto planeSizesSpec)

/-- 'apiarylaw3.PlaneStraight', WHERE WHAT IT READS IS OF BULK AT MOST 1048576: true; the input reads as it did. -/
def planeStraightUptoRow : OpenClaim := { program := "ytccbcehpoohgpaa", sum := "67adb275ab33c934046fdba08ae67d56ef0db86b38755d044f868bac37b90162", func := "apiary/apiarylaw3.PlaneStraight", spec := "planeStraight", inPlace := ["math/bits.Add64", "math/bits.Sub64"], unfollowed := true, recurses := true, apart := false, narrowed := true }
def PlaneStraightUptoSaid : Prop := planeStraightUptoRow.holds Try.pinned (OpenSpec.upto planeStraightSpec)

/-- 'apiarylaw3.PlaneBack', WHERE WHAT IT READS IS OF BULK AT MOST 1048576: true; the input reads as it did. -/
def planeBackUptoRow : OpenClaim := { program := "ytccbcehpoohgpaa", sum := "67adb275ab33c934046fdba08ae67d56ef0db86b38755d044f868bac37b90162", func := "apiary/apiarylaw3.PlaneBack", spec := "planeBack", inPlace := ["math/bits.Add64", "math/bits.Sub64"], unfollowed := true, recurses := true, apart := false, narrowed := true }
def PlaneBackUptoSaid : Prop := planeBackUptoRow.holds Try.pinned (OpenSpec.upto planeBackSpec)

/-- 'apiarylaw3.PlaneBounds', WHERE WHAT IT READS IS OF BULK AT MOST 1048576: true; the input reads as it did. -/
def planeBoundsUptoRow : OpenClaim := { program := "ytccbcehpoohgpaa", sum := "67adb275ab33c934046fdba08ae67d56ef0db86b38755d044f868bac37b90162", func := "apiary/apiarylaw3.PlaneBounds", spec := "planeBounds", inPlace := ["math/bits.Add64", "math/bits.Sub64"], unfollowed := true, recurses := true, apart := false, narrowed := true }
def PlaneBoundsUptoSaid : Prop := planeBoundsUptoRow.holds Try.pinned (OpenSpec.upto planeBoundsSpec)

/-- 'apiarylaw3.PlaneCentres', WHERE WHAT IT READS IS OF BULK AT MOST 1048576: true; the input reads as it did. -/
def planeCentresUptoRow : OpenClaim := { program := "ytccbcehpoohgpaa", sum := "67adb275ab33c934046fdba08ae67d56ef0db86b38755d044f868bac37b90162", func := "apiary/apiarylaw3.PlaneCentres", spec := "planeCentres", inPlace := ["math/bits.Add64", "math/bits.Sub64"], unfollowed := true, recurses := true, apart := false, narrowed := true }
def PlaneCentresUptoSaid : Prop := planeCentresUptoRow.holds Try.pinned (OpenSpec.upto planeCentresSpec)

/-- 'apiarylaw3.PlaneHolds', WHERE WHAT IT READS IS OF BULK AT MOST 1048576: true; the input reads as it did. -/
def planeHoldsUptoRow : OpenClaim := { program := "ytccbcehpoohgpaa", sum := "67adb275ab33c934046fdba08ae67d56ef0db86b38755d044f868bac37b90162", func := "apiary/apiarylaw3.PlaneHolds", spec := "planeHolds", inPlace := ["math/bits.Add64", "math/bits.Sub64"], unfollowed := true, recurses := true, apart := false, narrowed := true }
def PlaneHoldsUptoSaid : Prop := planeHoldsUptoRow.holds Try.pinned (OpenSpec.upto planeHoldsSpec)

/-- 'apiarylaw3.PlaneCorners', WHERE WHAT IT READS IS OF BULK AT MOST 1048576: true; the input reads as it did. -/
def planeCornersUptoRow : OpenClaim := { program := "ytccbcehpoohgpaa", sum := "67adb275ab33c934046fdba08ae67d56ef0db86b38755d044f868bac37b90162", func := "apiary/apiarylaw3.PlaneCorners", spec := "planeCorners", inPlace := ["math/bits.Add64", "math/bits.Sub64"], unfollowed := true, recurses := true, apart := false, narrowed := true }
def PlaneCornersUptoSaid : Prop := planeCornersUptoRow.holds Try.pinned (OpenSpec.upto planeCornersSpec)

end Rows
end Go.Proofs.Ytccbcehpoohgpaa

/-
  No cell of these rows narrows 'for every input' (looked for: loops, veiled, ifaces, maps, wideKeys, modest, calm, conditions, laid).
  DERIVED. THE GIVEN ROWS OF THIS SEAT. 6 by the template 'for every input the law returns true; each argument reads behind the call as it read before'; 0 by the template 'total and deterministic' (their statements: YtnmehelejdbjaaaTotals.lean).
  GIVEN WITH THE SEED: the statements are not yours to turn. If you find one false, say at which input.
  Laid BY PROGRAM, IN A SANDBOX (cutbox-rows.mjs): the forced cells as the released guide's own fill.sh prints them over the translation 09ef056cbb717d39… (all of the seat's roots in one cut). By AI agents, Wed Nov 11 2026. No macro, syntax, notation, axiom, sorry.
-/
import Derived.Test.YtnmehelejdbjaaaChecked
import GoSem.Claim
import GoSem.ClaimJoined
import GoSem.ClaimMapViews
import Derived.JoinedTies
import Derived.KernelRfl
namespace Go.Proofs.Ytnmehelejdbjaaa
/- THE CELL 'sum', in the pinned program and in every row, IS THE sha256 OF THE DUMP (.gsa) THAT YtnmehelejdbjaaaProg.lean LOADS. Nothing in Lean hashes anything: it is a label: what it is worth is what the hold of that sum in a sandbox is worth. -/
noncomputable def Try.pinned : Pinned := { name := "ytnmehelejdbjaaa", sum := "09ef056cbb717d39d982f33ab4e91cc715db4ab51221eafb972a9683f3387322", checked := Try.checked }
namespace Rows
def none {H : Type} : Left H := { results := [], args := [] }

/-- 'apiarylaw19.ClipSides': WHATEVER THE INPUT: true; the input reads as it did. -/
def clipSidesSpec : ChangeSpec := { name := "clipSides", fn := fun _ => fun
  | [d1, d2, d3] => { results := [.lit (.bool true)], args := [d1, d2, d3] }
  | _ => none }
def clipSidesRow : OpenClaim := { program := "ytnmehelejdbjaaa", sum := "09ef056cbb717d39d982f33ab4e91cc715db4ab51221eafb972a9683f3387322", func := "apiary/apiarylaw19.ClipSides", spec := "clipSides", apart := false }
def ClipSidesSaid : Prop := clipSidesRow.holds Try.pinned (OpenSpec.ofChange clipSidesSpec)

/-- ITS FALSE NEIGHBOUR: 'it returns false'. Refute it at one input. -/
def clipSidesWrong : ChangeSpec := { name := "clipSides", fn := fun _ => fun
  | [d1, d2, d3] => { results := [.lit (.bool false)], args := [d1, d2, d3] }
  | _ => none }
def ClipSidesWrongFalsely : Prop := clipSidesRow.holds Try.pinned (OpenSpec.ofChange clipSidesWrong)

/-- 'apiarylaw19.ClipMoved': WHATEVER THE INPUT: true; the input reads as it did. -/
def clipMovedSpec : ChangeSpec := { name := "clipMoved", fn := fun _ => fun
  | [d1, d2, d3, d4, d5, d6, d7] => { results := [.lit (.bool true)], args := [d1, d2, d3, d4, d5, d6, d7] }
  | _ => none }
def clipMovedRow : OpenClaim := { program := "ytnmehelejdbjaaa", sum := "09ef056cbb717d39d982f33ab4e91cc715db4ab51221eafb972a9683f3387322", func := "apiary/apiarylaw19.ClipMoved", spec := "clipMoved", apart := false }
def ClipMovedSaid : Prop := clipMovedRow.holds Try.pinned (OpenSpec.ofChange clipMovedSpec)

/-- ITS FALSE NEIGHBOUR: 'it returns false'. Refute it at one input. -/
def clipMovedWrong : ChangeSpec := { name := "clipMoved", fn := fun _ => fun
  | [d1, d2, d3, d4, d5, d6, d7] => { results := [.lit (.bool false)], args := [d1, d2, d3, d4, d5, d6, d7] }
  | _ => none }
def ClipMovedWrongFalsely : Prop := clipMovedRow.holds Try.pinned (OpenSpec.ofChange clipMovedWrong)

/-- 'apiarylaw19.ClipBoxes': WHATEVER THE INPUT: true; the input reads as it did. -/
def clipBoxesSpec : ChangeSpec := { name := "clipBoxes", fn := fun _ => fun
  | [d1, d2] => { results := [.lit (.bool true)], args := [d1, d2] }
  | _ => none }
def clipBoxesRow : OpenClaim := { program := "ytnmehelejdbjaaa", sum := "09ef056cbb717d39d982f33ab4e91cc715db4ab51221eafb972a9683f3387322", func := "apiary/apiarylaw19.ClipBoxes", spec := "clipBoxes", apart := false }
def ClipBoxesSaid : Prop := clipBoxesRow.holds Try.pinned (OpenSpec.ofChange clipBoxesSpec)

/-- ITS FALSE NEIGHBOUR: 'it returns false'. Refute it at one input. -/
def clipBoxesWrong : ChangeSpec := { name := "clipBoxes", fn := fun _ => fun
  | [d1, d2] => { results := [.lit (.bool false)], args := [d1, d2] }
  | _ => none }
def ClipBoxesWrongFalsely : Prop := clipBoxesRow.holds Try.pinned (OpenSpec.ofChange clipBoxesWrong)

/-- 'apiarylaw19.ClipIn': WHATEVER THE INPUT: true; the input reads as it did. -/
def clipInSpec : ChangeSpec := { name := "clipIn", fn := fun _ => fun
  | [d1, d2, d3, d4, d5] => { results := [.lit (.bool true)], args := [d1, d2, d3, d4, d5] }
  | _ => none }
def clipInRow : OpenClaim := { program := "ytnmehelejdbjaaa", sum := "09ef056cbb717d39d982f33ab4e91cc715db4ab51221eafb972a9683f3387322", func := "apiary/apiarylaw19.ClipIn", spec := "clipIn", apart := false }
def ClipInSaid : Prop := clipInRow.holds Try.pinned (OpenSpec.ofChange clipInSpec)

/-- ITS FALSE NEIGHBOUR: 'it returns false'. Refute it at one input. -/
def clipInWrong : ChangeSpec := { name := "clipIn", fn := fun _ => fun
  | [d1, d2, d3, d4, d5] => { results := [.lit (.bool false)], args := [d1, d2, d3, d4, d5] }
  | _ => none }
def ClipInWrongFalsely : Prop := clipInRow.holds Try.pinned (OpenSpec.ofChange clipInWrong)

/-- 'apiarylaw19.ClipFloors': WHATEVER THE INPUT: true; the input reads as it did. -/
def clipFloorsSpec : ChangeSpec := { name := "clipFloors", fn := fun _ => fun
  | [d1, d2, d3] => { results := [.lit (.bool true)], args := [d1, d2, d3] }
  | _ => none }
def clipFloorsRow : OpenClaim := { program := "ytnmehelejdbjaaa", sum := "09ef056cbb717d39d982f33ab4e91cc715db4ab51221eafb972a9683f3387322", func := "apiary/apiarylaw19.ClipFloors", spec := "clipFloors", apart := false }
def ClipFloorsSaid : Prop := clipFloorsRow.holds Try.pinned (OpenSpec.ofChange clipFloorsSpec)

/-- ITS FALSE NEIGHBOUR: 'it returns false'. Refute it at one input. -/
def clipFloorsWrong : ChangeSpec := { name := "clipFloors", fn := fun _ => fun
  | [d1, d2, d3] => { results := [.lit (.bool false)], args := [d1, d2, d3] }
  | _ => none }
def ClipFloorsWrongFalsely : Prop := clipFloorsRow.holds Try.pinned (OpenSpec.ofChange clipFloorsWrong)

/-- 'apiarylaw19.ClipTells': WHATEVER THE INPUT: true; the input reads as it did. -/
def clipTellsSpec : ChangeSpec := { name := "clipTells", fn := fun _ => fun
  | [d1, d2, d3, d4, d5, d6, d7, d8] => { results := [.lit (.bool true)], args := [d1, d2, d3, d4, d5, d6, d7, d8] }
  | _ => none }
def clipTellsRow : OpenClaim := { program := "ytnmehelejdbjaaa", sum := "09ef056cbb717d39d982f33ab4e91cc715db4ab51221eafb972a9683f3387322", func := "apiary/apiarylaw19.ClipTells", spec := "clipTells", apart := false }
def ClipTellsSaid : Prop := clipTellsRow.holds Try.pinned (OpenSpec.ofChange clipTellsSpec)

/-- ITS FALSE NEIGHBOUR: 'it returns false'. Refute it at one input. -/
def clipTellsWrong : ChangeSpec := { name := "clipTells", fn := fun _ => fun
  | [d1, d2, d3, d4, d5, d6, d7, d8] => { results := [.lit (.bool false)], args := [d1, d2, d3, d4, d5, d6, d7, d8] }
  | _ => none }
def ClipTellsWrongFalsely : Prop := clipTellsRow.holds Try.pinned (OpenSpec.ofChange clipTellsWrong)

/- THE SECOND FORM. 'bulk': how many values and letters a reading holds, each counted each time it is reached (what is shared counts as often as it is met; a slice's spare places count too). A statement '..UptoSaid' is the law's where the arguments, and the package variables that the reading takes, are together of bulk at most 1048576: NARROWER than '..Said'. Prove '..Said' where nothing that the law and all that it calls make is longer than what came in: it says more and counts as full. Else prove '..UptoSaid'. A law counts once. -/
mutual
def uptoBulk {H : Type} : DataW H → Nat
  | .lit (.string bytes) => bytes.length + 1
  | .lit _ => 1
  | .nil => 1
  | .ptr d => uptoBulk d + 1
  | .slice elems spare => uptoBulkAll elems + uptoBulkAll spare + 1
  | .agg parts => uptoBulkAll parts + 1
  | .iface _ d => uptoBulk d + 1
  | .map entries => uptoBulkEntries entries + 1
  | .held _ => 1
def uptoBulkAll {H : Type} : List (DataW H) → Nat
  | [] => 0
  | d :: r => uptoBulk d + uptoBulkAll r
def uptoBulkEntries {H : Type} : List (Lit × DataW H) → Nat
  | [] => 0
  | x :: r => uptoBulkEntry x + uptoBulkEntries r
def uptoBulkEntry {H : Type} : Lit × DataW H → Nat
  | (.string bytes, d) => bytes.length + uptoBulk d + 1
  | (_, d) => uptoBulk d + 1
 end
def uptoSmall : (H : Type) → List (DataW H) → Bool := fun _ ds => decide (uptoBulkAll ds ≤ 1048576)
def OpenSpec.upto (s : _root_.Go.ChangeSpec) : _root_.Go.OpenSpec := { _root_.Go.OpenSpec.ofChange s with cond := some uptoSmall }

/-- 'apiarylaw19.ClipSides', WHERE WHAT IT READS IS OF BULK AT MOST 1048576: true; the input reads as it did. -/
def clipSidesUptoRow : OpenClaim := { program := "ytnmehelejdbjaaa", sum := "09ef056cbb717d39d982f33ab4e91cc715db4ab51221eafb972a9683f3387322", func := "apiary/apiarylaw19.ClipSides", spec := "clipSides", apart := false, narrowed := true }
def ClipSidesUptoSaid : Prop := clipSidesUptoRow.holds Try.pinned (OpenSpec.upto clipSidesSpec)

/-- 'apiarylaw19.ClipMoved', WHERE WHAT IT READS IS OF BULK AT MOST 1048576: true; the input reads as it did. -/
def clipMovedUptoRow : OpenClaim := { program := "ytnmehelejdbjaaa", sum := "09ef056cbb717d39d982f33ab4e91cc715db4ab51221eafb972a9683f3387322", func := "apiary/apiarylaw19.ClipMoved", spec := "clipMoved", apart := false, narrowed := true }
def ClipMovedUptoSaid : Prop := clipMovedUptoRow.holds Try.pinned (OpenSpec.upto clipMovedSpec)

/-- 'apiarylaw19.ClipBoxes', WHERE WHAT IT READS IS OF BULK AT MOST 1048576: true; the input reads as it did. -/
def clipBoxesUptoRow : OpenClaim := { program := "ytnmehelejdbjaaa", sum := "09ef056cbb717d39d982f33ab4e91cc715db4ab51221eafb972a9683f3387322", func := "apiary/apiarylaw19.ClipBoxes", spec := "clipBoxes", apart := false, narrowed := true }
def ClipBoxesUptoSaid : Prop := clipBoxesUptoRow.holds Try.pinned (OpenSpec.upto clipBoxesSpec)

/-- 'apiarylaw19.ClipIn', WHERE WHAT IT READS IS OF BULK AT MOST 1048576: true; the input reads as it did. -/
def clipInUptoRow : OpenClaim := { program := "ytnmehelejdbjaaa", sum := "09ef056cbb717d39d982f33ab4e91cc715db4ab51221eafb972a9683f3387322", func := "apiary/apiarylaw19.ClipIn", spec := "clipIn", apart := false, narrowed := true }
def ClipInUptoSaid : Prop := clipInUptoRow.holds Try.pinned (OpenSpec.upto clipInSpec)

/-- 'apiarylaw19.ClipFloors', WHERE WHAT IT READS IS OF BULK AT MOST 1048576: true; the input reads as it did. -/
def clipFloorsUptoRow : OpenClaim := { program := "ytnmehelejdbjaaa", sum := "09ef056cbb717d39d982f33ab4e91cc715db4ab51221eafb972a9683f3387322", func := "apiary/apiarylaw19.ClipFloors", spec := "clipFloors", apart := false, narrowed := true }
def ClipFloorsUptoSaid : Prop := clipFloorsUptoRow.holds Try.pinned (OpenSpec.upto clipFloorsSpec)

/-- 'apiarylaw19.ClipTells', WHERE WHAT IT READS IS OF BULK AT MOST 1048576: true; the input reads as it did. -/
def clipTellsUptoRow : OpenClaim := { program := "ytnmehelejdbjaaa", sum := "09ef056cbb717d39d982f33ab4e91cc715db4ab51221eafb972a9683f3387322", func := "apiary/apiarylaw19.ClipTells", spec := "clipTells", apart := false, narrowed := true }
def ClipTellsUptoSaid : Prop := clipTellsUptoRow.holds Try.pinned (OpenSpec.upto clipTellsSpec)

end Rows
end Go.Proofs.Ytnmehelejdbjaaa

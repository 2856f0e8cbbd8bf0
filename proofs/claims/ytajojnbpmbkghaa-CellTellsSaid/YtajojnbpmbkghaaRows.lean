/-
  No cell of these rows narrows 'for every input' (looked for: loops, veiled, ifaces, maps, wideKeys, modest, calm, conditions, laid).
  DERIVED. THE GIVEN ROWS OF THIS SEAT. 9 by the template 'for every input the law returns true; each argument reads behind the call as it read before'; 0 by the template 'total and deterministic' (their statements: YtajojnbpmbkghaaTotals.lean).
  GIVEN WITH THE SEED: the statements are not yours to turn. If you find one false, say at which input.
  Laid BY PROGRAM, IN A SANDBOX (cutbox-rows.mjs): the forced cells as the released guide's own fill.sh prints them over the translation 98a7365b04c81179… (all of the seat's roots in one cut). By AI agents, Wed Nov 11 2026. No macro, syntax, notation, axiom, sorry.
-/
import Derived.Test.YtajojnbpmbkghaaChecked
import GoSem.Claim
import GoSem.ClaimJoined
import GoSem.ClaimMapViews
import Derived.JoinedTies
import Derived.KernelRfl
namespace Go.Proofs.Ytajojnbpmbkghaa
/- THE CELL 'sum', in the pinned program and in every row, IS THE sha256 OF THE DUMP (.gsa) THAT YtajojnbpmbkghaaProg.lean LOADS. Nothing in Lean hashes anything: it is a label: what it is worth is what the hold of that sum in a sandbox is worth. -/
noncomputable def Try.pinned : Pinned := { name := "ytajojnbpmbkghaa", sum := "98a7365b04c81179d168fa35279514990f301141e80fe43428961e5d05897bf0", checked := Try.checked }
namespace Rows
def none {H : Type} : Left H := { results := [], args := [] }

/-- 'apiarylaw4.CellUps': WHATEVER THE INPUT: true; the input reads as it did. -/
def cellUpsSpec : ChangeSpec := { name := "cellUps", fn := fun _ => fun
  | [d1, d2, d3, d4, d5] => { results := [.lit (.bool true)], args := [d1, d2, d3, d4, d5] }
  | _ => none }
def cellUpsRow : OpenClaim := { program := "ytajojnbpmbkghaa", sum := "98a7365b04c81179d168fa35279514990f301141e80fe43428961e5d05897bf0", func := "apiary/apiarylaw4.CellUps", spec := "cellUps", inPlace := ["math/bits.Add64", "math/bits.Sub64"], unfollowed := true, recurses := true, apart := false }
def CellUpsSaid : Prop := cellUpsRow.holds Try.pinned (OpenSpec.ofChange cellUpsSpec)

/-- ITS FALSE NEIGHBOUR: 'it returns false'. Refute it at one input. -/
def cellUpsWrong : ChangeSpec := { name := "cellUps", fn := fun _ => fun
  | [d1, d2, d3, d4, d5] => { results := [.lit (.bool false)], args := [d1, d2, d3, d4, d5] }
  | _ => none }
def CellUpsWrongFalsely : Prop := cellUpsRow.holds Try.pinned (OpenSpec.ofChange cellUpsWrong)

/-- 'apiarylaw4.CellWithin': WHATEVER THE INPUT: true; the input reads as it did. -/
def cellWithinSpec : ChangeSpec := { name := "cellWithin", fn := fun _ => fun
  | [d1, d2, d3, d4, d5] => { results := [.lit (.bool true)], args := [d1, d2, d3, d4, d5] }
  | _ => none }
def cellWithinRow : OpenClaim := { program := "ytajojnbpmbkghaa", sum := "98a7365b04c81179d168fa35279514990f301141e80fe43428961e5d05897bf0", func := "apiary/apiarylaw4.CellWithin", spec := "cellWithin", inPlace := ["math/bits.Add64", "math/bits.Sub64"], unfollowed := true, recurses := true, apart := false }
def CellWithinSaid : Prop := cellWithinRow.holds Try.pinned (OpenSpec.ofChange cellWithinSpec)

/-- ITS FALSE NEIGHBOUR: 'it returns false'. Refute it at one input. -/
def cellWithinWrong : ChangeSpec := { name := "cellWithin", fn := fun _ => fun
  | [d1, d2, d3, d4, d5] => { results := [.lit (.bool false)], args := [d1, d2, d3, d4, d5] }
  | _ => none }
def CellWithinWrongFalsely : Prop := cellWithinRow.holds Try.pinned (OpenSpec.ofChange cellWithinWrong)

/-- 'apiarylaw4.CellFamily': WHATEVER THE INPUT: true; the input reads as it did. -/
def cellFamilySpec : ChangeSpec := { name := "cellFamily", fn := fun _ => fun
  | [d1, d2, d3] => { results := [.lit (.bool true)], args := [d1, d2, d3] }
  | _ => none }
def cellFamilyRow : OpenClaim := { program := "ytajojnbpmbkghaa", sum := "98a7365b04c81179d168fa35279514990f301141e80fe43428961e5d05897bf0", func := "apiary/apiarylaw4.CellFamily", spec := "cellFamily", inPlace := ["math/bits.Add64", "math/bits.Sub64"], unfollowed := true, recurses := true, apart := false }
def CellFamilySaid : Prop := cellFamilyRow.holds Try.pinned (OpenSpec.ofChange cellFamilySpec)

/-- ITS FALSE NEIGHBOUR: 'it returns false'. Refute it at one input. -/
def cellFamilyWrong : ChangeSpec := { name := "cellFamily", fn := fun _ => fun
  | [d1, d2, d3] => { results := [.lit (.bool false)], args := [d1, d2, d3] }
  | _ => none }
def CellFamilyWrongFalsely : Prop := cellFamilyRow.holds Try.pinned (OpenSpec.ofChange cellFamilyWrong)

/-- 'apiarylaw4.CellEdge': WHATEVER THE INPUT: true; the input reads as it did. -/
def cellEdgeSpec : ChangeSpec := { name := "cellEdge", fn := fun _ => fun
  | [d1, d2, d3] => { results := [.lit (.bool true)], args := [d1, d2, d3] }
  | _ => none }
def cellEdgeRow : OpenClaim := { program := "ytajojnbpmbkghaa", sum := "98a7365b04c81179d168fa35279514990f301141e80fe43428961e5d05897bf0", func := "apiary/apiarylaw4.CellEdge", spec := "cellEdge", inPlace := ["math/bits.Add64", "math/bits.Sub64"], unfollowed := true, recurses := true, apart := false }
def CellEdgeSaid : Prop := cellEdgeRow.holds Try.pinned (OpenSpec.ofChange cellEdgeSpec)

/-- ITS FALSE NEIGHBOUR: 'it returns false'. Refute it at one input. -/
def cellEdgeWrong : ChangeSpec := { name := "cellEdge", fn := fun _ => fun
  | [d1, d2, d3] => { results := [.lit (.bool false)], args := [d1, d2, d3] }
  | _ => none }
def CellEdgeWrongFalsely : Prop := cellEdgeRow.holds Try.pinned (OpenSpec.ofChange cellEdgeWrong)

/-- 'apiarylaw4.CellTells': WHATEVER THE INPUT: true; the input reads as it did. -/
def cellTellsSpec : ChangeSpec := { name := "cellTells", fn := fun _ => fun
  | [d1, d2, d3, d4, d5] => { results := [.lit (.bool true)], args := [d1, d2, d3, d4, d5] }
  | _ => none }
def cellTellsRow : OpenClaim := { program := "ytajojnbpmbkghaa", sum := "98a7365b04c81179d168fa35279514990f301141e80fe43428961e5d05897bf0", func := "apiary/apiarylaw4.CellTells", spec := "cellTells", inPlace := ["math/bits.Add64", "math/bits.Sub64"], unfollowed := true, recurses := true, apart := false }
def CellTellsSaid : Prop := cellTellsRow.holds Try.pinned (OpenSpec.ofChange cellTellsSpec)

/-- ITS FALSE NEIGHBOUR: 'it returns false'. Refute it at one input. -/
def cellTellsWrong : ChangeSpec := { name := "cellTells", fn := fun _ => fun
  | [d1, d2, d3, d4, d5] => { results := [.lit (.bool false)], args := [d1, d2, d3, d4, d5] }
  | _ => none }
def CellTellsWrongFalsely : Prop := cellTellsRow.holds Try.pinned (OpenSpec.ofChange cellTellsWrong)

/-- 'apiarylaw4.CellCentres': WHATEVER THE INPUT: true; the input reads as it did. -/
def cellCentresSpec : ChangeSpec := { name := "cellCentres", fn := fun _ => fun
  | [d1, d2, d3] => { results := [.lit (.bool true)], args := [d1, d2, d3] }
  | _ => none }
def cellCentresRow : OpenClaim := { program := "ytajojnbpmbkghaa", sum := "98a7365b04c81179d168fa35279514990f301141e80fe43428961e5d05897bf0", func := "apiary/apiarylaw4.CellCentres", spec := "cellCentres", inPlace := ["math/bits.Add64", "math/bits.Sub64"], unfollowed := true, recurses := true, apart := false }
def CellCentresSaid : Prop := cellCentresRow.holds Try.pinned (OpenSpec.ofChange cellCentresSpec)

/-- ITS FALSE NEIGHBOUR: 'it returns false'. Refute it at one input. -/
def cellCentresWrong : ChangeSpec := { name := "cellCentres", fn := fun _ => fun
  | [d1, d2, d3] => { results := [.lit (.bool false)], args := [d1, d2, d3] }
  | _ => none }
def CellCentresWrongFalsely : Prop := cellCentresRow.holds Try.pinned (OpenSpec.ofChange cellCentresWrong)

/-- 'apiarylaw4.CellOf': WHATEVER THE INPUT: true; the input reads as it did. -/
def cellOfSpec : ChangeSpec := { name := "cellOf", fn := fun _ => fun
  | [d1, d2, d3] => { results := [.lit (.bool true)], args := [d1, d2, d3] }
  | _ => none }
def cellOfRow : OpenClaim := { program := "ytajojnbpmbkghaa", sum := "98a7365b04c81179d168fa35279514990f301141e80fe43428961e5d05897bf0", func := "apiary/apiarylaw4.CellOf", spec := "cellOf", inPlace := ["math/bits.Add64", "math/bits.Sub64"], unfollowed := true, recurses := true, apart := false }
def CellOfSaid : Prop := cellOfRow.holds Try.pinned (OpenSpec.ofChange cellOfSpec)

/-- ITS FALSE NEIGHBOUR: 'it returns false'. Refute it at one input. -/
def cellOfWrong : ChangeSpec := { name := "cellOf", fn := fun _ => fun
  | [d1, d2, d3] => { results := [.lit (.bool false)], args := [d1, d2, d3] }
  | _ => none }
def CellOfWrongFalsely : Prop := cellOfRow.holds Try.pinned (OpenSpec.ofChange cellOfWrong)

/-- 'apiarylaw4.CellSteps': WHATEVER THE INPUT: true; the input reads as it did. -/
def cellStepsSpec : ChangeSpec := { name := "cellSteps", fn := fun _ => fun
  | [d1, d2, d3] => { results := [.lit (.bool true)], args := [d1, d2, d3] }
  | _ => none }
def cellStepsRow : OpenClaim := { program := "ytajojnbpmbkghaa", sum := "98a7365b04c81179d168fa35279514990f301141e80fe43428961e5d05897bf0", func := "apiary/apiarylaw4.CellSteps", spec := "cellSteps", inPlace := ["math/bits.Add64", "math/bits.Sub64"], unfollowed := true, recurses := true, apart := false }
def CellStepsSaid : Prop := cellStepsRow.holds Try.pinned (OpenSpec.ofChange cellStepsSpec)

/-- ITS FALSE NEIGHBOUR: 'it returns false'. Refute it at one input. -/
def cellStepsWrong : ChangeSpec := { name := "cellSteps", fn := fun _ => fun
  | [d1, d2, d3] => { results := [.lit (.bool false)], args := [d1, d2, d3] }
  | _ => none }
def CellStepsWrongFalsely : Prop := cellStepsRow.holds Try.pinned (OpenSpec.ofChange cellStepsWrong)

/-- 'apiarylaw4.CellWorld': WHATEVER THE INPUT: true; the input reads as it did. -/
def cellWorldSpec : ChangeSpec := { name := "cellWorld", fn := fun _ => fun
  | [d1, d2, d3] => { results := [.lit (.bool true)], args := [d1, d2, d3] }
  | _ => none }
def cellWorldRow : OpenClaim := { program := "ytajojnbpmbkghaa", sum := "98a7365b04c81179d168fa35279514990f301141e80fe43428961e5d05897bf0", func := "apiary/apiarylaw4.CellWorld", spec := "cellWorld", inPlace := ["math/bits.Add64", "math/bits.Sub64"], unfollowed := true, recurses := true, apart := false }
def CellWorldSaid : Prop := cellWorldRow.holds Try.pinned (OpenSpec.ofChange cellWorldSpec)

/-- ITS FALSE NEIGHBOUR: 'it returns false'. Refute it at one input. -/
def cellWorldWrong : ChangeSpec := { name := "cellWorld", fn := fun _ => fun
  | [d1, d2, d3] => { results := [.lit (.bool false)], args := [d1, d2, d3] }
  | _ => none }
def CellWorldWrongFalsely : Prop := cellWorldRow.holds Try.pinned (OpenSpec.ofChange cellWorldWrong)

/- THE SECOND FORM. 'bulk': how many values and letters a reading holds, each counted each time it is reached (what is shared counts as often as it is met; a slice's spare places count too). A statement '..UptoSaid' is the law's where the arguments, and the package variables that the reading takes, are together of bulk at most 1048576: NARROWER than '..Said'. Prove '..Said' where nothing that the law and all that it calls make is longer than what came in: it says more and counts as full. Else prove '..UptoSaid'. A law counts once. -/
mutual
def uptoBulk {H : Type} : DataW H → Nat
  | .lit (.string bytes) => bytes.length + 1
  | .lit _ => 1
  | .nil => 1
  | .ptr d => uptoBulk d + 1
  | .slice elems spare => uptoBulkAll elems + uptoBulkAll spare + 1
  | .agg parts => uptoBulkAll parts + 1
  | .iface _ d => uptoBulk d + 1
  | .map entries => uptoBulkEntries entries + 1
  | .held _ => 1
def uptoBulkAll {H : Type} : List (DataW H) → Nat
  | [] => 0
  | d :: r => uptoBulk d + uptoBulkAll r
def uptoBulkEntries {H : Type} : List (Lit × DataW H) → Nat
  | [] => 0
  | x :: r => uptoBulkEntry x + uptoBulkEntries r
def uptoBulkEntry {H : Type} : Lit × DataW H → Nat
  | (.string bytes, d) => bytes.length + uptoBulk d + 1
  | (_, d) => uptoBulk d + 1
 end
def uptoSmall : (H : Type) → List (DataW H) → Bool := fun _ ds => decide (uptoBulkAll ds ≤ 1048576)
def OpenSpec.upto (s : _root_.Go.ChangeSpec) : _root_.Go.OpenSpec := { _root_.Go.OpenSpec.ofChange s with cond := some uptoSmall }

/-- 'apiarylaw4.CellUps', WHERE WHAT IT READS IS OF BULK AT MOST 1048576: true; the input reads as it did. -/
def cellUpsUptoRow : OpenClaim := { program := "ytajojnbpmbkghaa", sum := "98a7365b04c81179d168fa35279514990f301141e80fe43428961e5d05897bf0", func := "apiary/apiarylaw4.CellUps", spec := "cellUps", inPlace := ["math/bits.Add64", "math/bits.Sub64"], unfollowed := true, recurses := true, apart := false, narrowed := true }
def CellUpsUptoSaid : Prop := cellUpsUptoRow.holds Try.pinned (OpenSpec.upto cellUpsSpec)

/-- 'apiarylaw4.CellWithin', WHERE WHAT IT READS IS OF BULK AT MOST 1048576: true; the input reads as it did. -/
def cellWithinUptoRow : OpenClaim := { program := "ytajojnbpmbkghaa", sum := "98a7365b04c81179d168fa35279514990f301141e80fe43428961e5d05897bf0", func := "apiary/apiarylaw4.CellWithin", spec := "cellWithin", inPlace := ["math/bits.Add64", "math/bits.Sub64"], unfollowed := true, recurses := true, apart := false, narrowed := true }
def CellWithinUptoSaid : Prop := cellWithinUptoRow.holds Try.pinned (OpenSpec.upto cellWithinSpec)

/-- 'apiarylaw4.CellFamily', WHERE WHAT IT READS IS OF BULK AT MOST 1048576: true; the input reads as it did. -/
def cellFamilyUptoRow : OpenClaim := { program := "ytajojnbpmbkghaa", sum := "98a7365b04c81179d168fa35279514990f301141e80fe43428961e5d05897bf0", func := "apiary/apiarylaw4.CellFamily", spec := "cellFamily", inPlace := ["math/bits.Add64", "math/bits.Sub64"], unfollowed := true, recurses := true, apart := false, narrowed := true }
def CellFamilyUptoSaid : Prop := cellFamilyUptoRow.holds Try.pinned (OpenSpec.upto cellFamilySpec)

/-- 'apiarylaw4.CellEdge', WHERE WHAT IT READS IS OF BULK AT MOST 1048576: true; the input reads as it did. -/
def cellEdgeUptoRow : OpenClaim := { program := "ytajojnbpmbkghaa", sum := "98a7365b04c81179d168fa35279514990f301141e80fe43428961e5d05897bf0", func := "apiary/apiarylaw4.CellEdge", spec := "cellEdge", inPlace := ["math/bits.Add64", "math/bits.Sub64"], unfollowed := true, recurses := true, apart := false, narrowed := true }
def CellEdgeUptoSaid : Prop := cellEdgeUptoRow.holds Try.pinned (OpenSpec.upto cellEdgeSpec)

/-- 'apiarylaw4.CellTells', WHERE WHAT IT READS IS OF BULK AT MOST 1048576: true; the input reads as it did. -/
def cellTellsUptoRow : OpenClaim := { program := "ytajojnbpmbkghaa", sum := "98a7365b04c81179d168fa35279514990f301141e80fe43428961e5d05897bf0", func := "apiary/apiarylaw4.CellTells", spec := "cellTells", inPlace := ["math/bits.Add64", "math/bits.Sub64"], unfollowed := true, recurses := true, apart := false, narrowed := true }
def CellTellsUptoSaid : Prop := cellTellsUptoRow.holds Try.pinned (OpenSpec.upto cellTellsSpec)

/-- 'apiarylaw4.CellCentres', WHERE WHAT IT READS IS OF BULK AT MOST 1048576: true; the input reads as it did. -/
def cellCentresUptoRow : OpenClaim := { program := "ytajojnbpmbkghaa", sum := "98a7365b04c81179d168fa35279514990f301141e80fe43428961e5d05897bf0", func := "apiary/apiarylaw4.CellCentres", spec := "cellCentres", inPlace := ["math/bits.Add64", "math/bits.Sub64"], unfollowed := true, recurses := true, apart := false, narrowed := true }
def CellCentresUptoSaid : Prop := cellCentresUptoRow.holds Try.pinned (OpenSpec.upto cellCentresSpec)

/-- 'apiarylaw4.CellOf', WHERE WHAT IT READS IS OF BULK AT MOST 1048576: true; the input reads as it did. -/
def cellOfUptoRow : OpenClaim := { program := "ytajojnbpmbkghaa", sum := "98a7365b04c81179d168fa35279514990f301141e80fe43428961e5d05897bf0", func := "apiary/apiarylaw4.CellOf", spec := "cellOf", inPlace := ["math/bits.Add64", "math/bits.Sub64"], unfollowed := true, recurses := true, apart := false, narrowed := true }
def CellOfUptoSaid : Prop := cellOfUptoRow.holds Try.pinned (OpenSpec.upto cellOfSpec)

/-- 'apiarylaw4.CellSteps', WHERE WHAT IT READS IS OF BULK AT MOST 1048576: true; the input reads as it did. -/
def cellStepsUptoRow : OpenClaim := { program := "ytajojnbpmbkghaa", sum := "98a7365b04c81179d168fa35279514990f301141e80fe43428961e5d05897bf0", func := "apiary/apiarylaw4.CellSteps", spec := "cellSteps", inPlace := ["math/bits.Add64", "math/bits.Sub64"], unfollowed := true, recurses := true, apart := false, narrowed := true }
def CellStepsUptoSaid : Prop := cellStepsUptoRow.holds Try.pinned (OpenSpec.upto cellStepsSpec)

/-- 'apiarylaw4.CellWorld', WHERE WHAT IT READS IS OF BULK AT MOST 1048576: true; the input reads as it did. -/
def cellWorldUptoRow : OpenClaim := { program := "ytajojnbpmbkghaa", sum := "98a7365b04c81179d168fa35279514990f301141e80fe43428961e5d05897bf0", func := "apiary/apiarylaw4.CellWorld", spec := "cellWorld", inPlace := ["math/bits.Add64", "math/bits.Sub64"], unfollowed := true, recurses := true, apart := false, narrowed := true }
def CellWorldUptoSaid : Prop := cellWorldUptoRow.holds Try.pinned (OpenSpec.upto cellWorldSpec)

end Rows
end Go.Proofs.Ytajojnbpmbkghaa

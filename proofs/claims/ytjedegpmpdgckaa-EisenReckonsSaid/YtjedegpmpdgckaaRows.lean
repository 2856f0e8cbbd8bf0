/-
  No cell of these rows narrows 'for every input' (looked for: loops, veiled, ifaces, maps, wideKeys, modest, calm, conditions, laid).
  DERIVED. THE GIVEN ROWS OF THIS SEAT. 10 by the template 'for every input the law returns true; each argument reads behind the call as it read before'; 0 by the template 'total and deterministic' (their statements: YtjedegpmpdgckaaTotals.lean).
  GIVEN WITH THE SEED: the statements are not yours to turn. If you find one false, say at which input.
  Laid BY PROGRAM, IN A SANDBOX (cutbox-rows.mjs): the forced cells as the released guide's own fill.sh prints them over the translation 454daf39daec6c12… (all of the seat's roots in one cut). By AI agents, Wed Nov 11 2026. No macro, syntax, notation, axiom, sorry.
-/
import Derived.Test.YtjedegpmpdgckaaChecked
import GoSem.Claim
import GoSem.ClaimJoined
import GoSem.ClaimMapViews
import Derived.JoinedTies
import Derived.KernelRfl
namespace Go.Proofs.Ytjedegpmpdgckaa
/- THE CELL 'sum', in the pinned program and in every row, IS THE sha256 OF THE DUMP (.gsa) THAT YtjedegpmpdgckaaProg.lean LOADS. Nothing in Lean hashes anything: it is a label: what it is worth is what the hold of that sum in a sandbox is worth. -/
noncomputable def Try.pinned : Pinned := { name := "ytjedegpmpdgckaa", sum := "454daf39daec6c12b5a3e0ff69ee6807d8586dc7d064e611b16202c53b987252", checked := Try.checked }
namespace Rows
def none {H : Type} : Left H := { results := [], args := [] }

/-- 'apiarylaw2.EisenUnits': WHATEVER THE INPUT: true; the input reads as it did. -/
def eisenUnitsSpec : ChangeSpec := { name := "eisenUnits", fn := fun _ => fun
  | [d] => { results := [.lit (.bool true)], args := [d] }
  | _ => none }
def eisenUnitsRow : OpenClaim := { program := "ytjedegpmpdgckaa", sum := "454daf39daec6c12b5a3e0ff69ee6807d8586dc7d064e611b16202c53b987252", func := "apiary/apiarylaw2.EisenUnits", spec := "eisenUnits", inPlace := ["math/bits.Add64", "math/bits.Sub64"], unfollowed := true, recurses := true, apart := false }
def EisenUnitsSaid : Prop := eisenUnitsRow.holds Try.pinned (OpenSpec.ofChange eisenUnitsSpec)

/-- ITS FALSE NEIGHBOUR: 'it returns false'. Refute it at one input. -/
def eisenUnitsWrong : ChangeSpec := { name := "eisenUnits", fn := fun _ => fun
  | [d] => { results := [.lit (.bool false)], args := [d] }
  | _ => none }
def EisenUnitsWrongFalsely : Prop := eisenUnitsRow.holds Try.pinned (OpenSpec.ofChange eisenUnitsWrong)

/-- 'apiarylaw2.EisenTurn': WHATEVER THE INPUT: true; the input reads as it did. -/
def eisenTurnSpec : ChangeSpec := { name := "eisenTurn", fn := fun _ => fun
  | [d1, d2] => { results := [.lit (.bool true)], args := [d1, d2] }
  | _ => none }
def eisenTurnRow : OpenClaim := { program := "ytjedegpmpdgckaa", sum := "454daf39daec6c12b5a3e0ff69ee6807d8586dc7d064e611b16202c53b987252", func := "apiary/apiarylaw2.EisenTurn", spec := "eisenTurn", inPlace := ["math/bits.Add64", "math/bits.Sub64"], unfollowed := true, recurses := true, apart := false }
def EisenTurnSaid : Prop := eisenTurnRow.holds Try.pinned (OpenSpec.ofChange eisenTurnSpec)

/-- ITS FALSE NEIGHBOUR: 'it returns false'. Refute it at one input. -/
def eisenTurnWrong : ChangeSpec := { name := "eisenTurn", fn := fun _ => fun
  | [d1, d2] => { results := [.lit (.bool false)], args := [d1, d2] }
  | _ => none }
def EisenTurnWrongFalsely : Prop := eisenTurnRow.holds Try.pinned (OpenSpec.ofChange eisenTurnWrong)

/-- 'apiarylaw2.EisenMoved': WHATEVER THE INPUT: true; the input reads as it did. -/
def eisenMovedSpec : ChangeSpec := { name := "eisenMoved", fn := fun _ => fun
  | [d1, d2, d3] => { results := [.lit (.bool true)], args := [d1, d2, d3] }
  | _ => none }
def eisenMovedRow : OpenClaim := { program := "ytjedegpmpdgckaa", sum := "454daf39daec6c12b5a3e0ff69ee6807d8586dc7d064e611b16202c53b987252", func := "apiary/apiarylaw2.EisenMoved", spec := "eisenMoved", inPlace := ["math/bits.Add64", "math/bits.Sub64"], unfollowed := true, recurses := true, apart := false }
def EisenMovedSaid : Prop := eisenMovedRow.holds Try.pinned (OpenSpec.ofChange eisenMovedSpec)

/-- ITS FALSE NEIGHBOUR: 'it returns false'. Refute it at one input. -/
def eisenMovedWrong : ChangeSpec := { name := "eisenMoved", fn := fun _ => fun
  | [d1, d2, d3] => { results := [.lit (.bool false)], args := [d1, d2, d3] }
  | _ => none }
def EisenMovedWrongFalsely : Prop := eisenMovedRow.holds Try.pinned (OpenSpec.ofChange eisenMovedWrong)

/-- 'apiarylaw2.EisenWhole': WHATEVER THE INPUT: true; the input reads as it did. -/
def eisenWholeSpec : ChangeSpec := { name := "eisenWhole", fn := fun _ => fun
  | [d1, d2, d3] => { results := [.lit (.bool true)], args := [d1, d2, d3] }
  | _ => none }
def eisenWholeRow : OpenClaim := { program := "ytjedegpmpdgckaa", sum := "454daf39daec6c12b5a3e0ff69ee6807d8586dc7d064e611b16202c53b987252", func := "apiary/apiarylaw2.EisenWhole", spec := "eisenWhole", inPlace := ["math/bits.Add64", "math/bits.Sub64"], unfollowed := true, recurses := true, apart := false }
def EisenWholeSaid : Prop := eisenWholeRow.holds Try.pinned (OpenSpec.ofChange eisenWholeSpec)

/-- ITS FALSE NEIGHBOUR: 'it returns false'. Refute it at one input. -/
def eisenWholeWrong : ChangeSpec := { name := "eisenWhole", fn := fun _ => fun
  | [d1, d2, d3] => { results := [.lit (.bool false)], args := [d1, d2, d3] }
  | _ => none }
def EisenWholeWrongFalsely : Prop := eisenWholeRow.holds Try.pinned (OpenSpec.ofChange eisenWholeWrong)

/-- 'apiarylaw2.EisenRounds': WHATEVER THE INPUT: true; the input reads as it did. -/
def eisenRoundsSpec : ChangeSpec := { name := "eisenRounds", fn := fun _ => fun
  | [d1, d2] => { results := [.lit (.bool true)], args := [d1, d2] }
  | _ => none }
def eisenRoundsRow : OpenClaim := { program := "ytjedegpmpdgckaa", sum := "454daf39daec6c12b5a3e0ff69ee6807d8586dc7d064e611b16202c53b987252", func := "apiary/apiarylaw2.EisenRounds", spec := "eisenRounds", inPlace := ["math/bits.Add64", "math/bits.Sub64"], unfollowed := true, recurses := true, apart := false }
def EisenRoundsSaid : Prop := eisenRoundsRow.holds Try.pinned (OpenSpec.ofChange eisenRoundsSpec)

/-- ITS FALSE NEIGHBOUR: 'it returns false'. Refute it at one input. -/
def eisenRoundsWrong : ChangeSpec := { name := "eisenRounds", fn := fun _ => fun
  | [d1, d2] => { results := [.lit (.bool false)], args := [d1, d2] }
  | _ => none }
def EisenRoundsWrongFalsely : Prop := eisenRoundsRow.holds Try.pinned (OpenSpec.ofChange eisenRoundsWrong)

/-- 'apiarylaw2.EisenNear': WHATEVER THE INPUT: true; the input reads as it did. -/
def eisenNearSpec : ChangeSpec := { name := "eisenNear", fn := fun _ => fun
  | [d1, d2, d3] => { results := [.lit (.bool true)], args := [d1, d2, d3] }
  | _ => none }
def eisenNearRow : OpenClaim := { program := "ytjedegpmpdgckaa", sum := "454daf39daec6c12b5a3e0ff69ee6807d8586dc7d064e611b16202c53b987252", func := "apiary/apiarylaw2.EisenNear", spec := "eisenNear", inPlace := ["math/bits.Add64", "math/bits.Sub64"], unfollowed := true, recurses := true, apart := false }
def EisenNearSaid : Prop := eisenNearRow.holds Try.pinned (OpenSpec.ofChange eisenNearSpec)

/-- ITS FALSE NEIGHBOUR: 'it returns false'. Refute it at one input. -/
def eisenNearWrong : ChangeSpec := { name := "eisenNear", fn := fun _ => fun
  | [d1, d2, d3] => { results := [.lit (.bool false)], args := [d1, d2, d3] }
  | _ => none }
def EisenNearWrongFalsely : Prop := eisenNearRow.holds Try.pinned (OpenSpec.ofChange eisenNearWrong)

/-- 'apiarylaw2.EisenRing': WHATEVER THE INPUT: true; the input reads as it did. -/
def eisenRingSpec : ChangeSpec := { name := "eisenRing", fn := fun _ => fun
  | [d1, d2, d3] => { results := [.lit (.bool true)], args := [d1, d2, d3] }
  | _ => none }
def eisenRingRow : OpenClaim := { program := "ytjedegpmpdgckaa", sum := "454daf39daec6c12b5a3e0ff69ee6807d8586dc7d064e611b16202c53b987252", func := "apiary/apiarylaw2.EisenRing", spec := "eisenRing", inPlace := ["math/bits.Add64", "math/bits.Sub64"], unfollowed := true, recurses := true, apart := false }
def EisenRingSaid : Prop := eisenRingRow.holds Try.pinned (OpenSpec.ofChange eisenRingSpec)

/-- ITS FALSE NEIGHBOUR: 'it returns false'. Refute it at one input. -/
def eisenRingWrong : ChangeSpec := { name := "eisenRing", fn := fun _ => fun
  | [d1, d2, d3] => { results := [.lit (.bool false)], args := [d1, d2, d3] }
  | _ => none }
def EisenRingWrongFalsely : Prop := eisenRingRow.holds Try.pinned (OpenSpec.ofChange eisenRingWrong)

/-- 'apiarylaw2.EisenSteps': WHATEVER THE INPUT: true; the input reads as it did. -/
def eisenStepsSpec : ChangeSpec := { name := "eisenSteps", fn := fun _ => fun
  | [d1, d2, d3] => { results := [.lit (.bool true)], args := [d1, d2, d3] }
  | _ => none }
def eisenStepsRow : OpenClaim := { program := "ytjedegpmpdgckaa", sum := "454daf39daec6c12b5a3e0ff69ee6807d8586dc7d064e611b16202c53b987252", func := "apiary/apiarylaw2.EisenSteps", spec := "eisenSteps", inPlace := ["math/bits.Add64", "math/bits.Sub64"], unfollowed := true, recurses := true, apart := false }
def EisenStepsSaid : Prop := eisenStepsRow.holds Try.pinned (OpenSpec.ofChange eisenStepsSpec)

/-- ITS FALSE NEIGHBOUR: 'it returns false'. Refute it at one input. -/
def eisenStepsWrong : ChangeSpec := { name := "eisenSteps", fn := fun _ => fun
  | [d1, d2, d3] => { results := [.lit (.bool false)], args := [d1, d2, d3] }
  | _ => none }
def EisenStepsWrongFalsely : Prop := eisenStepsRow.holds Try.pinned (OpenSpec.ofChange eisenStepsWrong)

/-- 'apiarylaw2.EisenBounds': WHATEVER THE INPUT: true; the input reads as it did. -/
def eisenBoundsSpec : ChangeSpec := { name := "eisenBounds", fn := fun _ => fun
  | [d1, d2] => { results := [.lit (.bool true)], args := [d1, d2] }
  | _ => none }
def eisenBoundsRow : OpenClaim := { program := "ytjedegpmpdgckaa", sum := "454daf39daec6c12b5a3e0ff69ee6807d8586dc7d064e611b16202c53b987252", func := "apiary/apiarylaw2.EisenBounds", spec := "eisenBounds", inPlace := ["math/bits.Add64", "math/bits.Sub64"], unfollowed := true, recurses := true, apart := false }
def EisenBoundsSaid : Prop := eisenBoundsRow.holds Try.pinned (OpenSpec.ofChange eisenBoundsSpec)

/-- ITS FALSE NEIGHBOUR: 'it returns false'. Refute it at one input. -/
def eisenBoundsWrong : ChangeSpec := { name := "eisenBounds", fn := fun _ => fun
  | [d1, d2] => { results := [.lit (.bool false)], args := [d1, d2] }
  | _ => none }
def EisenBoundsWrongFalsely : Prop := eisenBoundsRow.holds Try.pinned (OpenSpec.ofChange eisenBoundsWrong)

/-- 'apiarylaw2.EisenReckons': WHATEVER THE INPUT: true; the input reads as it did. -/
def eisenReckonsSpec : ChangeSpec := { name := "eisenReckons", fn := fun _ => fun
  | [d1, d2] => { results := [.lit (.bool true)], args := [d1, d2] }
  | _ => none }
def eisenReckonsRow : OpenClaim := { program := "ytjedegpmpdgckaa", sum := "454daf39daec6c12b5a3e0ff69ee6807d8586dc7d064e611b16202c53b987252", func := "apiary/apiarylaw2.EisenReckons", spec := "eisenReckons", inPlace := ["math/bits.Add64", "math/bits.Sub64"], unfollowed := true, recurses := true, apart := false }
def EisenReckonsSaid : Prop := eisenReckonsRow.holds Try.pinned (OpenSpec.ofChange eisenReckonsSpec)

/-- ITS FALSE NEIGHBOUR: 'it returns false'. Refute it at one input. -/
def eisenReckonsWrong : ChangeSpec := { name := "eisenReckons", fn := fun _ => fun
  | [d1, d2] => { results := [.lit (.bool false)], args := [d1, d2] }
  | _ => none }
def EisenReckonsWrongFalsely : Prop := eisenReckonsRow.holds Try.pinned (OpenSpec.ofChange eisenReckonsWrong)

/- THE SECOND FORM. 'bulk': how many values and letters a reading holds, each counted each time it is reached (what is shared counts as often as it is met; a slice's spare places count too). A statement '..UptoSaid' is the law's where the arguments, and the package variables that the reading takes, are together of bulk at most 1048576: NARROWER than '..Said'. Prove '..Said' where nothing that the law and all that it calls make is longer than what came in: it says more and counts as full. Else prove '..UptoSaid'. A law counts once. -/
mutual
def uptoBulk {H : Type} : DataW H → Nat
  | .lit (.string bytes) => bytes.length + 1
  | .lit _ => 1
  | .nil => 1
  | .ptr d => uptoBulk d + 1
  | .slice elems spare => uptoBulkAll elems + uptoBulkAll spare + 1
  | .agg parts => uptoBulkAll parts + 1
  | .iface _ d => uptoBulk d + 1
  | .map entries => uptoBulkEntries entries + 1
  | .held _ => 1
def uptoBulkAll {H : Type} : List (DataW H) → Nat
  | [] => 0
  | d :: r => uptoBulk d + uptoBulkAll r
def uptoBulkEntries {H : Type} : List (Lit × DataW H) → Nat
  | [] => 0
  | x :: r => uptoBulkEntry x + uptoBulkEntries r
def uptoBulkEntry {H : Type} : Lit × DataW H → Nat
  | (.string bytes, d) => bytes.length + uptoBulk d + 1
  | (_, d) => uptoBulk d + 1
 end
def uptoSmall : (H : Type) → List (DataW H) → Bool := fun _ ds => decide (uptoBulkAll ds ≤ 1048576)
def OpenSpec.upto (s : _root_.Go.ChangeSpec) : _root_.Go.OpenSpec := { _root_.Go.OpenSpec.ofChange s with cond := some uptoSmall }

/-- 'apiarylaw2.EisenUnits', WHERE WHAT IT READS IS OF BULK AT MOST 1048576: true; the input reads as it did. -/
def eisenUnitsUptoRow : OpenClaim := { program := "ytjedegpmpdgckaa", sum := "454daf39daec6c12b5a3e0ff69ee6807d8586dc7d064e611b16202c53b987252", func := "apiary/apiarylaw2.EisenUnits", spec := "eisenUnits", inPlace := ["math/bits.Add64", "math/bits.Sub64"], unfollowed := true, recurses := true, apart := false, narrowed := true }
def EisenUnitsUptoSaid : Prop := eisenUnitsUptoRow.holds Try.pinned (OpenSpec.upto eisenUnitsSpec)

/-- 'apiarylaw2.EisenTurn', WHERE WHAT IT READS IS OF BULK AT MOST 1048576: true; the input reads as it did. -/
def eisenTurnUptoRow : OpenClaim := { program := "ytjedegpmpdgckaa", sum := "454daf39daec6c12b5a3e0ff69ee6807d8586dc7d064e611b16202c53b987252", func := "apiary/apiarylaw2.EisenTurn", spec := "eisenTurn", inPlace := ["math/bits.Add64", "math/bits.Sub64"], unfollowed := true, recurses := true, apart := false, narrowed := true }
def EisenTurnUptoSaid : Prop := eisenTurnUptoRow.holds Try.pinned (OpenSpec.upto eisenTurnSpec)

/-- 'apiarylaw2.EisenMoved', WHERE WHAT IT READS IS OF BULK AT MOST 1048576: true; the input reads as it did. -/
def eisenMovedUptoRow : OpenClaim := { program := "ytjedegpmpdgckaa", sum := "454daf39daec6c12b5a3e0ff69ee6807d8586dc7d064e611b16202c53b987252", func := "apiary/apiarylaw2.EisenMoved", spec := "eisenMoved", inPlace := ["math/bits.Add64", "math/bits.Sub64"], unfollowed := true, recurses := true, apart := false, narrowed := true }
def EisenMovedUptoSaid : Prop := eisenMovedUptoRow.holds Try.pinned (OpenSpec.upto eisenMovedSpec)

/-- 'apiarylaw2.EisenWhole', WHERE WHAT IT READS IS OF BULK AT MOST 1048576: true; the input reads as it did. -/
def eisenWholeUptoRow : OpenClaim := { program := "ytjedegpmpdgckaa", sum := "454daf39daec6c12b5a3e0ff69ee6807d8586dc7d064e611b16202c53b987252", func := "apiary/apiarylaw2.EisenWhole", spec := "eisenWhole", inPlace := ["math/bits.Add64", "math/bits.Sub64"], unfollowed := true, recurses := true, apart := false, narrowed := true }
def EisenWholeUptoSaid : Prop := eisenWholeUptoRow.holds Try.pinned (OpenSpec.upto eisenWholeSpec)

/-- 'apiarylaw2.EisenRounds', WHERE WHAT IT READS IS OF BULK AT MOST 1048576: true; the input reads as it did. -/
def eisenRoundsUptoRow : OpenClaim := { program := "ytjedegpmpdgckaa", sum := "454daf39daec6c12b5a3e0ff69ee6807d8586dc7d064e611b16202c53b987252", func := "apiary/apiarylaw2.EisenRounds", spec := "eisenRounds", inPlace := ["math/bits.Add64", "math/bits.Sub64"], unfollowed := true, recurses := true, apart := false, narrowed := true }
def EisenRoundsUptoSaid : Prop := eisenRoundsUptoRow.holds Try.pinned (OpenSpec.upto eisenRoundsSpec)

/-- 'apiarylaw2.EisenNear', WHERE WHAT IT READS IS OF BULK AT MOST 1048576: true; the input reads as it did. -/
def eisenNearUptoRow : OpenClaim := { program := "ytjedegpmpdgckaa", sum := "454daf39daec6c12b5a3e0ff69ee6807d8586dc7d064e611b16202c53b987252", func := "apiary/apiarylaw2.EisenNear", spec := "eisenNear", inPlace := ["math/bits.Add64", "math/bits.Sub64"], unfollowed := true, recurses := true, apart := false, narrowed := true }
def EisenNearUptoSaid : Prop := eisenNearUptoRow.holds Try.pinned (OpenSpec.upto eisenNearSpec)

/-- 'apiarylaw2.EisenRing', WHERE WHAT IT READS IS OF BULK AT MOST 1048576: true; the input reads as it did. -/
def eisenRingUptoRow : OpenClaim := { program := "ytjedegpmpdgckaa", sum := "454daf39daec6c12b5a3e0ff69ee6807d8586dc7d064e611b16202c53b987252", func := "apiary/apiarylaw2.EisenRing", spec := "eisenRing", inPlace := ["math/bits.Add64", "math/bits.Sub64"], unfollowed := true, recurses := true, apart := false, narrowed := true }
def EisenRingUptoSaid : Prop := eisenRingUptoRow.holds Try.pinned (OpenSpec.upto eisenRingSpec)

/-- 'apiarylaw2.EisenSteps', WHERE WHAT IT READS IS OF BULK AT MOST 1048576: true; the input reads as it did. -/
def eisenStepsUptoRow : OpenClaim := { program := "ytjedegpmpdgckaa", sum := "454daf39daec6c12b5a3e0ff69ee6807d8586dc7d064e611b16202c53b987252", func := "apiary/apiarylaw2.EisenSteps", spec := "eisenSteps", inPlace := ["math/bits.Add64", "math/bits.Sub64"], unfollowed := true, recurses := true, apart := false, narrowed := true }
def EisenStepsUptoSaid : Prop := eisenStepsUptoRow.holds Try.pinned (OpenSpec.upto eisenStepsSpec)

/-- 'apiarylaw2.EisenBounds', WHERE WHAT IT READS IS OF BULK AT MOST 1048576: true; the input reads as it did. -/
def eisenBoundsUptoRow : OpenClaim := { program := "ytjedegpmpdgckaa", sum := "454daf39daec6c12b5a3e0ff69ee6807d8586dc7d064e611b16202c53b987252", func := "apiary/apiarylaw2.EisenBounds", spec := "eisenBounds", inPlace := ["math/bits.Add64", "math/bits.Sub64"], unfollowed := true, recurses := true, apart := false, narrowed := true }
def EisenBoundsUptoSaid : Prop := eisenBoundsUptoRow.holds Try.pinned (OpenSpec.upto eisenBoundsSpec)

/-- 'apiarylaw2.EisenReckons', WHERE WHAT IT READS IS OF BULK AT MOST 1048576: true; the input reads as it did. -/
def eisenReckonsUptoRow : OpenClaim := { program := "ytjedegpmpdgckaa", sum := "454daf39daec6c12b5a3e0ff69ee6807d8586dc7d064e611b16202c53b987252", func := "apiary/apiarylaw2.EisenReckons", spec := "eisenReckons", inPlace := ["math/bits.Add64", "math/bits.Sub64"], unfollowed := true, recurses := true, apart := false, narrowed := true }
def EisenReckonsUptoSaid : Prop := eisenReckonsUptoRow.holds Try.pinned (OpenSpec.upto eisenReckonsSpec)

end Rows
end Go.Proofs.Ytjedegpmpdgckaa

/-
  No cell of these rows narrows 'for every input' (looked for: loops, veiled, ifaces, maps, wideKeys, modest, calm, conditions, laid).
  DERIVED. THE GIVEN ROWS OF THIS SEAT. 8 by the template 'for every input the law returns true; each argument reads behind the call as it read before'; 0 by the template 'total and deterministic' (their statements: YtmipkloleklnkaaTotals.lean).
  GIVEN WITH THE SEED: the statements are not yours to turn. If you find one false, say at which input.
  Laid BY PROGRAM, IN A SANDBOX (cutbox-rows.mjs): the forced cells as the released guide's own fill.sh prints them over the translation 6ef1c67a71cf0855… (all of the seat's roots in one cut). By AI agents, Wed Nov 11 2026. No macro, syntax, notation, axiom, sorry.
-/
import Derived.Test.YtmipkloleklnkaaChecked
import GoSem.Claim
import GoSem.ClaimJoined
import GoSem.ClaimMapViews
import Derived.JoinedTies
import Derived.KernelRfl
namespace Go.Proofs.Ytmipkloleklnkaa
/- THE CELL 'sum', in the pinned program and in every row, IS THE sha256 OF THE DUMP (.gsa) THAT YtmipkloleklnkaaProg.lean LOADS. Nothing in Lean hashes anything: it is a label: what it is worth is what the hold of that sum in a sandbox is worth. -/
noncomputable def Try.pinned : Pinned := { name := "ytmipkloleklnkaa", sum := "6ef1c67a71cf08557f49194dc61f3a1544998ab6e44a70d6ba48edde26bb4a79", checked := Try.checked }
namespace Rows
def none {H : Type} : Left H := { results := [], args := [] }

/-- 'apiarylaw5.IdentOne': WHATEVER THE INPUT: true; the input reads as it did. -/
def identOneSpec : ChangeSpec := { name := "identOne", fn := fun _ => fun
  | [d1, d2, d3, d4, d5, d6, d7, d8] => { results := [.lit (.bool true)], args := [d1, d2, d3, d4, d5, d6, d7, d8] }
  | _ => none }
def identOneRow : OpenClaim := { program := "ytmipkloleklnkaa", sum := "6ef1c67a71cf08557f49194dc61f3a1544998ab6e44a70d6ba48edde26bb4a79", func := "apiary/apiarylaw5.IdentOne", spec := "identOne", inPlace := ["math/bits.Add64", "math/bits.Sub64"], unfollowed := true, recurses := true, apart := false }
def IdentOneSaid : Prop := identOneRow.holds Try.pinned (OpenSpec.ofChange identOneSpec)

/-- ITS FALSE NEIGHBOUR: 'it returns false'. Refute it at one input. -/
def identOneWrong : ChangeSpec := { name := "identOne", fn := fun _ => fun
  | [d1, d2, d3, d4, d5, d6, d7, d8] => { results := [.lit (.bool false)], args := [d1, d2, d3, d4, d5, d6, d7, d8] }
  | _ => none }
def IdentOneWrongFalsely : Prop := identOneRow.holds Try.pinned (OpenSpec.ofChange identOneWrong)

/-- 'apiarylaw5.IdentBelow': WHATEVER THE INPUT: true; the input reads as it did. -/
def identBelowSpec : ChangeSpec := { name := "identBelow", fn := fun _ => fun
  | [d1, d2, d3, d4, d5, d6] => { results := [.lit (.bool true)], args := [d1, d2, d3, d4, d5, d6] }
  | _ => none }
def identBelowRow : OpenClaim := { program := "ytmipkloleklnkaa", sum := "6ef1c67a71cf08557f49194dc61f3a1544998ab6e44a70d6ba48edde26bb4a79", func := "apiary/apiarylaw5.IdentBelow", spec := "identBelow", inPlace := ["math/bits.Add64", "math/bits.Sub64"], unfollowed := true, recurses := true, apart := false }
def IdentBelowSaid : Prop := identBelowRow.holds Try.pinned (OpenSpec.ofChange identBelowSpec)

/-- ITS FALSE NEIGHBOUR: 'it returns false'. Refute it at one input. -/
def identBelowWrong : ChangeSpec := { name := "identBelow", fn := fun _ => fun
  | [d1, d2, d3, d4, d5, d6] => { results := [.lit (.bool false)], args := [d1, d2, d3, d4, d5, d6] }
  | _ => none }
def IdentBelowWrongFalsely : Prop := identBelowRow.holds Try.pinned (OpenSpec.ofChange identBelowWrong)

/-- 'apiarylaw5.IdentWords': WHATEVER THE INPUT: true; the input reads as it did. -/
def identWordsSpec : ChangeSpec := { name := "identWords", fn := fun _ => fun
  | [d1, d2, d3, d4] => { results := [.lit (.bool true)], args := [d1, d2, d3, d4] }
  | _ => none }
def identWordsRow : OpenClaim := { program := "ytmipkloleklnkaa", sum := "6ef1c67a71cf08557f49194dc61f3a1544998ab6e44a70d6ba48edde26bb4a79", func := "apiary/apiarylaw5.IdentWords", spec := "identWords", inPlace := ["math/bits.Add64", "math/bits.Sub64"], unfollowed := true, recurses := true, apart := false }
def IdentWordsSaid : Prop := identWordsRow.holds Try.pinned (OpenSpec.ofChange identWordsSpec)

/-- ITS FALSE NEIGHBOUR: 'it returns false'. Refute it at one input. -/
def identWordsWrong : ChangeSpec := { name := "identWords", fn := fun _ => fun
  | [d1, d2, d3, d4] => { results := [.lit (.bool false)], args := [d1, d2, d3, d4] }
  | _ => none }
def IdentWordsWrongFalsely : Prop := identWordsRow.holds Try.pinned (OpenSpec.ofChange identWordsWrong)

/-- 'apiarylaw5.IdentDigits': WHATEVER THE INPUT: true; the input reads as it did. -/
def identDigitsSpec : ChangeSpec := { name := "identDigits", fn := fun _ => fun
  | [d1, d2, d3] => { results := [.lit (.bool true)], args := [d1, d2, d3] }
  | _ => none }
def identDigitsRow : OpenClaim := { program := "ytmipkloleklnkaa", sum := "6ef1c67a71cf08557f49194dc61f3a1544998ab6e44a70d6ba48edde26bb4a79", func := "apiary/apiarylaw5.IdentDigits", spec := "identDigits", inPlace := ["math/bits.Add64", "math/bits.Sub64"], unfollowed := true, recurses := true, apart := false }
def IdentDigitsSaid : Prop := identDigitsRow.holds Try.pinned (OpenSpec.ofChange identDigitsSpec)

/-- ITS FALSE NEIGHBOUR: 'it returns false'. Refute it at one input. -/
def identDigitsWrong : ChangeSpec := { name := "identDigits", fn := fun _ => fun
  | [d1, d2, d3] => { results := [.lit (.bool false)], args := [d1, d2, d3] }
  | _ => none }
def IdentDigitsWrongFalsely : Prop := identDigitsRow.holds Try.pinned (OpenSpec.ofChange identDigitsWrong)

/-- 'apiarylaw5.IdentSizes': WHATEVER THE INPUT: true; the input reads as it did. -/
def identSizesSpec : ChangeSpec := { name := "identSizes", fn := fun _ => fun
  | [d1, d2, d3] => { results := [.lit (.bool true)], args := [d1, d2, d3] }
  | _ => none }
def identSizesRow : OpenClaim := { program := "ytmipkloleklnkaa", sum := "6ef1c67a71cf08557f49194dc61f3a1544998ab6e44a70d6ba48edde26bb4a79", func := "apiary/apiarylaw5.IdentSizes", spec := "identSizes", inPlace := ["math/bits.Add64", "math/bits.Sub64"], unfollowed := true, recurses := true, apart := false }
def IdentSizesSaid : Prop := identSizesRow.holds Try.pinned (OpenSpec.ofChange identSizesSpec)

/-- ITS FALSE NEIGHBOUR: 'it returns false'. Refute it at one input. -/
def identSizesWrong : ChangeSpec := { name := "identSizes", fn := fun _ => fun
  | [d1, d2, d3] => { results := [.lit (.bool false)], args := [d1, d2, d3] }
  | _ => none }
def IdentSizesWrongFalsely : Prop := identSizesRow.holds Try.pinned (OpenSpec.ofChange identSizesWrong)

/-- 'apiarylaw5.IdentReads': WHATEVER THE INPUT: true; the input reads as it did. -/
def identReadsSpec : ChangeSpec := { name := "identReads", fn := fun _ => fun
  | [d1, d2, d3, d4, d5] => { results := [.lit (.bool true)], args := [d1, d2, d3, d4, d5] }
  | _ => none }
def identReadsRow : OpenClaim := { program := "ytmipkloleklnkaa", sum := "6ef1c67a71cf08557f49194dc61f3a1544998ab6e44a70d6ba48edde26bb4a79", func := "apiary/apiarylaw5.IdentReads", spec := "identReads", inPlace := ["math/bits.Add64", "math/bits.Sub64"], unfollowed := true, recurses := true, apart := false }
def IdentReadsSaid : Prop := identReadsRow.holds Try.pinned (OpenSpec.ofChange identReadsSpec)

/-- ITS FALSE NEIGHBOUR: 'it returns false'. Refute it at one input. -/
def identReadsWrong : ChangeSpec := { name := "identReads", fn := fun _ => fun
  | [d1, d2, d3, d4, d5] => { results := [.lit (.bool false)], args := [d1, d2, d3, d4, d5] }
  | _ => none }
def IdentReadsWrongFalsely : Prop := identReadsRow.holds Try.pinned (OpenSpec.ofChange identReadsWrong)

/-- 'apiarylaw5.IdentTexts': WHATEVER THE INPUT: true; the input reads as it did. -/
def identTextsSpec : ChangeSpec := { name := "identTexts", fn := fun _ => fun
  | [d1, d2, d3, d4, d5] => { results := [.lit (.bool true)], args := [d1, d2, d3, d4, d5] }
  | _ => none }
def identTextsRow : OpenClaim := { program := "ytmipkloleklnkaa", sum := "6ef1c67a71cf08557f49194dc61f3a1544998ab6e44a70d6ba48edde26bb4a79", func := "apiary/apiarylaw5.IdentTexts", spec := "identTexts", inPlace := ["math/bits.Add64", "math/bits.Sub64"], unfollowed := true, recurses := true, apart := false }
def IdentTextsSaid : Prop := identTextsRow.holds Try.pinned (OpenSpec.ofChange identTextsSpec)

/-- ITS FALSE NEIGHBOUR: 'it returns false'. Refute it at one input. -/
def identTextsWrong : ChangeSpec := { name := "identTexts", fn := fun _ => fun
  | [d1, d2, d3, d4, d5] => { results := [.lit (.bool false)], args := [d1, d2, d3, d4, d5] }
  | _ => none }
def IdentTextsWrongFalsely : Prop := identTextsRow.holds Try.pinned (OpenSpec.ofChange identTextsWrong)

/-- 'apiarylaw5.IdentRises': WHATEVER THE INPUT: true; the input reads as it did. -/
def identRisesSpec : ChangeSpec := { name := "identRises", fn := fun _ => fun
  | [d1, d2, d3, d4, d5] => { results := [.lit (.bool true)], args := [d1, d2, d3, d4, d5] }
  | _ => none }
def identRisesRow : OpenClaim := { program := "ytmipkloleklnkaa", sum := "6ef1c67a71cf08557f49194dc61f3a1544998ab6e44a70d6ba48edde26bb4a79", func := "apiary/apiarylaw5.IdentRises", spec := "identRises", inPlace := ["math/bits.Add64", "math/bits.Sub64"], unfollowed := true, recurses := true, apart := false }
def IdentRisesSaid : Prop := identRisesRow.holds Try.pinned (OpenSpec.ofChange identRisesSpec)

/-- ITS FALSE NEIGHBOUR: 'it returns false'. Refute it at one input. -/
def identRisesWrong : ChangeSpec := { name := "identRises", fn := fun _ => fun
  | [d1, d2, d3, d4, d5] => { results := [.lit (.bool false)], args := [d1, d2, d3, d4, d5] }
  | _ => none }
def IdentRisesWrongFalsely : Prop := identRisesRow.holds Try.pinned (OpenSpec.ofChange identRisesWrong)

/- THE SECOND FORM. 'bulk': how many values and letters a reading holds, each counted each time it is reached (what is shared counts as often as it is met; a slice's spare places count too). A statement '..UptoSaid' is the law's where the arguments, and the package variables that the reading takes, are together of bulk at most 1048576: NARROWER than '..Said'. Prove '..Said' where nothing that the law and all that it calls make is longer than what came in: it says more and counts as full. Else prove '..UptoSaid'. A law counts once. -/
mutual
def uptoBulk {H : Type} : DataW H → Nat
  | .lit (.string bytes) => bytes.length + 1
  | .lit _ => 1
  | .nil => 1
  | .ptr d => uptoBulk d + 1
  | .slice elems spare => uptoBulkAll elems + uptoBulkAll spare + 1
  | .agg parts => uptoBulkAll parts + 1
  | .iface _ d => uptoBulk d + 1
  | .map entries => uptoBulkEntries entries + 1
  | .held _ => 1
def uptoBulkAll {H : Type} : List (DataW H) → Nat
  | [] => 0
  | d :: r => uptoBulk d + uptoBulkAll r
def uptoBulkEntries {H : Type} : List (Lit × DataW H) → Nat
  | [] => 0
  | x :: r => uptoBulkEntry x + uptoBulkEntries r
def uptoBulkEntry {H : Type} : Lit × DataW H → Nat
  | (.string bytes, d) => bytes.length + uptoBulk d + 1
  | (_, d) => uptoBulk d + 1
 end
def uptoSmall : (H : Type) → List (DataW H) → Bool := fun _ ds => decide (uptoBulkAll ds ≤ 1048576)
def OpenSpec.upto (s : _root_.Go.ChangeSpec) : _root_.Go.OpenSpec := { _root_.Go.OpenSpec.ofChange s with cond := some uptoSmall }

/-- 'apiarylaw5.IdentOne', WHERE WHAT IT READS IS OF BULK AT MOST 1048576: true; the input reads as it did. -/
def identOneUptoRow : OpenClaim := { program := "ytmipkloleklnkaa", sum := "6ef1c67a71cf08557f49194dc61f3a1544998ab6e44a70d6ba48edde26bb4a79", func := "apiary/apiarylaw5.IdentOne", spec := "identOne", inPlace := ["math/bits.Add64", "math/bits.Sub64"], unfollowed := true, recurses := true, apart := false, narrowed := true }
def IdentOneUptoSaid : Prop := identOneUptoRow.holds Try.pinned (OpenSpec.upto identOneSpec)

/-- 'apiarylaw5.IdentBelow', WHERE WHAT IT READS IS OF BULK AT MOST 1048576: true; the input reads as it did. -/
def identBelowUptoRow : OpenClaim := { program := "ytmipkloleklnkaa", sum := "6ef1c67a71cf08557f49194dc61f3a1544998ab6e44a70d6ba48edde26bb4a79", func := "apiary/apiarylaw5.IdentBelow", spec := "identBelow", inPlace := ["math/bits.Add64", "math/bits.Sub64"], unfollowed := true, recurses := true, apart := false, narrowed := true }
def IdentBelowUptoSaid : Prop := identBelowUptoRow.holds Try.pinned (OpenSpec.upto identBelowSpec)

/-- 'apiarylaw5.IdentWords', WHERE WHAT IT READS IS OF BULK AT MOST 1048576: true; the input reads as it did. -/
def identWordsUptoRow : OpenClaim := { program := "ytmipkloleklnkaa", sum := "6ef1c67a71cf08557f49194dc61f3a1544998ab6e44a70d6ba48edde26bb4a79", func := "apiary/apiarylaw5.IdentWords", spec := "identWords", inPlace := ["math/bits.Add64", "math/bits.Sub64"], unfollowed := true, recurses := true, apart := false, narrowed := true }
def IdentWordsUptoSaid : Prop := identWordsUptoRow.holds Try.pinned (OpenSpec.upto identWordsSpec)

/-- 'apiarylaw5.IdentDigits', WHERE WHAT IT READS IS OF BULK AT MOST 1048576: true; the input reads as it did. -/
def identDigitsUptoRow : OpenClaim := { program := "ytmipkloleklnkaa", sum := "6ef1c67a71cf08557f49194dc61f3a1544998ab6e44a70d6ba48edde26bb4a79", func := "apiary/apiarylaw5.IdentDigits", spec := "identDigits", inPlace := ["math/bits.Add64", "math/bits.Sub64"], unfollowed := true, recurses := true, apart := false, narrowed := true }
def IdentDigitsUptoSaid : Prop := identDigitsUptoRow.holds Try.pinned (OpenSpec.upto identDigitsSpec)

/-- 'apiarylaw5.IdentSizes', WHERE WHAT IT READS IS OF BULK AT MOST 1048576: true; the input reads as it did. -/
def identSizesUptoRow : OpenClaim := { program := "ytmipkloleklnkaa", sum := "6ef1c67a71cf08557f49194dc61f3a1544998ab6e44a70d6ba48edde26bb4a79", func := "apiary/apiarylaw5.IdentSizes", spec := "identSizes", inPlace := ["math/bits.Add64", "math/bits.Sub64"], unfollowed := true, recurses := true, apart := false, narrowed := true }
def IdentSizesUptoSaid : Prop := identSizesUptoRow.holds Try.pinned (OpenSpec.upto identSizesSpec)

/-- 'apiarylaw5.IdentReads', WHERE WHAT IT READS IS OF BULK AT MOST 1048576: true; the input reads as it did. -/
def identReadsUptoRow : OpenClaim := { program := "ytmipkloleklnkaa", sum := "6ef1c67a71cf08557f49194dc61f3a1544998ab6e44a70d6ba48edde26bb4a79", func := "apiary/apiarylaw5.IdentReads", spec := "identReads", inPlace := ["math/bits.Add64", "math/bits.Sub64"], unfollowed := true, recurses := true, apart := false, narrowed := true }
def IdentReadsUptoSaid : Prop := identReadsUptoRow.holds Try.pinned (OpenSpec.upto identReadsSpec)

/-- 'apiarylaw5.IdentTexts', WHERE WHAT IT READS IS OF BULK AT MOST 1048576: true; the input reads as it did. -/
def identTextsUptoRow : OpenClaim := { program := "ytmipkloleklnkaa", sum := "6ef1c67a71cf08557f49194dc61f3a1544998ab6e44a70d6ba48edde26bb4a79", func := "apiary/apiarylaw5.IdentTexts", spec := "identTexts", inPlace := ["math/bits.Add64", "math/bits.Sub64"], unfollowed := true, recurses := true, apart := false, narrowed := true }
def IdentTextsUptoSaid : Prop := identTextsUptoRow.holds Try.pinned (OpenSpec.upto identTextsSpec)

/-- 'apiarylaw5.IdentRises', WHERE WHAT IT READS IS OF BULK AT MOST 1048576: true; the input reads as it did. -/
def identRisesUptoRow : OpenClaim := { program := "ytmipkloleklnkaa", sum := "6ef1c67a71cf08557f49194dc61f3a1544998ab6e44a70d6ba48edde26bb4a79", func := "apiary/apiarylaw5.IdentRises", spec := "identRises", inPlace := ["math/bits.Add64", "math/bits.Sub64"], unfollowed := true, recurses := true, apart := false, narrowed := true }
def IdentRisesUptoSaid : Prop := identRisesUptoRow.holds Try.pinned (OpenSpec.upto identRisesSpec)

end Rows
end Go.Proofs.Ytmipkloleklnkaa

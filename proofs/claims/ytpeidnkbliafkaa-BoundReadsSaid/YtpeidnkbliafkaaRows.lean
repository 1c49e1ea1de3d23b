/-
  No cell of these rows narrows 'for every input' (looked for: loops, veiled, ifaces, maps, wideKeys, modest, calm, conditions, laid).
  DERIVED. THE GIVEN ROWS OF THIS SEAT. 6 by the template 'for every input the law returns true; each argument reads behind the call as it read before'; 0 by the template 'total and deterministic' (their statements: YtpeidnkbliafkaaTotals.lean).
  GIVEN WITH THE SEED: the statements are not yours to turn. If you find one false, say at which input.
  Laid BY PROGRAM, IN A SANDBOX (cutbox-rows.mjs): the forced cells as the released guide's own fill.sh prints them over the translation 28dc30545fd5b87d… (all of the seat's roots in one cut). By AI agents, Wed Nov 11 2026. No macro, syntax, notation, axiom, sorry.
-/
import Derived.Test.YtpeidnkbliafkaaChecked
import GoSem.Claim
import GoSem.ClaimJoined
import GoSem.ClaimMapViews
import Derived.JoinedTies
import Derived.KernelRfl
namespace Go.Proofs.Ytpeidnkbliafkaa
/- THE CELL 'sum', in the pinned program and in every row, IS THE sha256 OF THE DUMP (.gsa) THAT YtpeidnkbliafkaaProg.lean LOADS. Nothing in Lean hashes anything: it is a label: what it is worth is what the hold of that sum in a sandbox is worth. -/
noncomputable def Try.pinned : Pinned := { name := "ytpeidnkbliafkaa", sum := "28dc30545fd5b87d52a193d4f574e388e1b50a2b7a355b38a838cf3fe542bf1d", checked := Try.checked }
namespace Rows
def none {H : Type} : Left H := { results := [], args := [] }

/-- 'bocagelaw04.BoundNumbers': WHATEVER THE INPUT: true; the input reads as it did. -/
def boundNumbersSpec : ChangeSpec := { name := "boundNumbers", fn := fun _ => fun
  | [d1, d2, d3] => { results := [.lit (.bool true)], args := [d1, d2, d3] }
  | _ => none }
def boundNumbersRow : OpenClaim := { program := "ytpeidnkbliafkaa", sum := "28dc30545fd5b87d52a193d4f574e388e1b50a2b7a355b38a838cf3fe542bf1d", func := "bocage/bocagelaw04.BoundNumbers", spec := "boundNumbers", unfollowed := true, recurses := true, apart := false }
def BoundNumbersSaid : Prop := boundNumbersRow.holds Try.pinned (OpenSpec.ofChange boundNumbersSpec)

/-- ITS FALSE NEIGHBOUR: 'it returns false'. Refute it at one input. -/
def boundNumbersWrong : ChangeSpec := { name := "boundNumbers", fn := fun _ => fun
  | [d1, d2, d3] => { results := [.lit (.bool false)], args := [d1, d2, d3] }
  | _ => none }
def BoundNumbersWrongFalsely : Prop := boundNumbersRow.holds Try.pinned (OpenSpec.ofChange boundNumbersWrong)

/-- 'bocagelaw04.BoundReads': WHATEVER THE INPUT: true; the input reads as it did. -/
def boundReadsSpec : ChangeSpec := { name := "boundReads", fn := fun _ => fun
  | [d] => { results := [.lit (.bool true)], args := [d] }
  | _ => none }
def boundReadsRow : OpenClaim := { program := "ytpeidnkbliafkaa", sum := "28dc30545fd5b87d52a193d4f574e388e1b50a2b7a355b38a838cf3fe542bf1d", func := "bocage/bocagelaw04.BoundReads", spec := "boundReads", unfollowed := true, recurses := true, apart := false }
def BoundReadsSaid : Prop := boundReadsRow.holds Try.pinned (OpenSpec.ofChange boundReadsSpec)

/-- ITS FALSE NEIGHBOUR: 'it returns false'. Refute it at one input. -/
def boundReadsWrong : ChangeSpec := { name := "boundReads", fn := fun _ => fun
  | [d] => { results := [.lit (.bool false)], args := [d] }
  | _ => none }
def BoundReadsWrongFalsely : Prop := boundReadsRow.holds Try.pinned (OpenSpec.ofChange boundReadsWrong)

/-- 'bocagelaw04.BoundTexts': WHATEVER THE INPUT: true; the input reads as it did. -/
def boundTextsSpec : ChangeSpec := { name := "boundTexts", fn := fun _ => fun
  | [d1, d2] => { results := [.lit (.bool true)], args := [d1, d2] }
  | _ => none }
def boundTextsRow : OpenClaim := { program := "ytpeidnkbliafkaa", sum := "28dc30545fd5b87d52a193d4f574e388e1b50a2b7a355b38a838cf3fe542bf1d", func := "bocage/bocagelaw04.BoundTexts", spec := "boundTexts", unfollowed := true, recurses := true, apart := false }
def BoundTextsSaid : Prop := boundTextsRow.holds Try.pinned (OpenSpec.ofChange boundTextsSpec)

/-- ITS FALSE NEIGHBOUR: 'it returns false'. Refute it at one input. -/
def boundTextsWrong : ChangeSpec := { name := "boundTexts", fn := fun _ => fun
  | [d1, d2] => { results := [.lit (.bool false)], args := [d1, d2] }
  | _ => none }
def BoundTextsWrongFalsely : Prop := boundTextsRow.holds Try.pinned (OpenSpec.ofChange boundTextsWrong)

/-- 'bocagelaw04.BoundLoose': WHATEVER THE INPUT: true; the input reads as it did. -/
def boundLooseSpec : ChangeSpec := { name := "boundLoose", fn := fun _ => fun
  | [d1, d2, d3] => { results := [.lit (.bool true)], args := [d1, d2, d3] }
  | _ => none }
def boundLooseRow : OpenClaim := { program := "ytpeidnkbliafkaa", sum := "28dc30545fd5b87d52a193d4f574e388e1b50a2b7a355b38a838cf3fe542bf1d", func := "bocage/bocagelaw04.BoundLoose", spec := "boundLoose", unfollowed := true, recurses := true, apart := false }
def BoundLooseSaid : Prop := boundLooseRow.holds Try.pinned (OpenSpec.ofChange boundLooseSpec)

/-- ITS FALSE NEIGHBOUR: 'it returns false'. Refute it at one input. -/
def boundLooseWrong : ChangeSpec := { name := "boundLoose", fn := fun _ => fun
  | [d1, d2, d3] => { results := [.lit (.bool false)], args := [d1, d2, d3] }
  | _ => none }
def BoundLooseWrongFalsely : Prop := boundLooseRow.holds Try.pinned (OpenSpec.ofChange boundLooseWrong)

/-- 'bocagelaw04.BoundSpans': WHATEVER THE INPUT: true; the input reads as it did. -/
def boundSpansSpec : ChangeSpec := { name := "boundSpans", fn := fun _ => fun
  | [d1, d2, d3] => { results := [.lit (.bool true)], args := [d1, d2, d3] }
  | _ => none }
def boundSpansRow : OpenClaim := { program := "ytpeidnkbliafkaa", sum := "28dc30545fd5b87d52a193d4f574e388e1b50a2b7a355b38a838cf3fe542bf1d", func := "bocage/bocagelaw04.BoundSpans", spec := "boundSpans", unfollowed := true, recurses := true, apart := false }
def BoundSpansSaid : Prop := boundSpansRow.holds Try.pinned (OpenSpec.ofChange boundSpansSpec)

/-- ITS FALSE NEIGHBOUR: 'it returns false'. Refute it at one input. -/
def boundSpansWrong : ChangeSpec := { name := "boundSpans", fn := fun _ => fun
  | [d1, d2, d3] => { results := [.lit (.bool false)], args := [d1, d2, d3] }
  | _ => none }
def BoundSpansWrongFalsely : Prop := boundSpansRow.holds Try.pinned (OpenSpec.ofChange boundSpansWrong)

/-- 'bocagelaw04.BoundBack': WHATEVER THE INPUT: true; the input reads as it did. -/
def boundBackSpec : ChangeSpec := { name := "boundBack", fn := fun _ => fun
  | [d] => { results := [.lit (.bool true)], args := [d] }
  | _ => none }
def boundBackRow : OpenClaim := { program := "ytpeidnkbliafkaa", sum := "28dc30545fd5b87d52a193d4f574e388e1b50a2b7a355b38a838cf3fe542bf1d", func := "bocage/bocagelaw04.BoundBack", spec := "boundBack", unfollowed := true, recurses := true, apart := false }
def BoundBackSaid : Prop := boundBackRow.holds Try.pinned (OpenSpec.ofChange boundBackSpec)

/-- ITS FALSE NEIGHBOUR: 'it returns false'. Refute it at one input. -/
def boundBackWrong : ChangeSpec := { name := "boundBack", fn := fun _ => fun
  | [d] => { results := [.lit (.bool false)], args := [d] }
  | _ => none }
def BoundBackWrongFalsely : Prop := boundBackRow.holds Try.pinned (OpenSpec.ofChange boundBackWrong)

/- THE SECOND FORM. 'bulk': how many values and letters a reading holds, each counted each time it is reached (what is shared counts as often as it is met; a slice's spare places count too). A statement '..UptoSaid' is the law's where the arguments, and the package variables that the reading takes, are together of bulk at most 1048576: NARROWER than '..Said'. Prove '..Said' where nothing that the law and all that it calls make is longer than what came in: it says more and counts as full. Else prove '..UptoSaid'. A law counts once. -/
mutual
def uptoBulk {H : Type} : DataW H → Nat
  | .lit (.string bytes) => bytes.length + 1
  | .lit _ => 1
  | .nil => 1
  | .ptr d => uptoBulk d + 1
  | .slice elems spare => uptoBulkAll elems + uptoBulkAll spare + 1
  | .agg parts => uptoBulkAll parts + 1
  | .iface _ d => uptoBulk d + 1
  | .map entries => uptoBulkEntries entries + 1
  | .held _ => 1
def uptoBulkAll {H : Type} : List (DataW H) → Nat
  | [] => 0
  | d :: r => uptoBulk d + uptoBulkAll r
def uptoBulkEntries {H : Type} : List (Lit × DataW H) → Nat
  | [] => 0
  | x :: r => uptoBulkEntry x + uptoBulkEntries r
def uptoBulkEntry {H : Type} : Lit × DataW H → Nat
  | (.string bytes, d) => bytes.length + uptoBulk d + 1
  | (_, d) => uptoBulk d + 1
 end
def uptoSmall : (H : Type) → List (DataW H) → Bool := fun _ ds => decide (uptoBulkAll ds ≤ 1048576)
def OpenSpec.upto (s : _root_.Go.ChangeSpec) : _root_.Go.OpenSpec := { _root_.Go.OpenSpec.ofChange s with cond := some uptoSmall }

/-- 'bocagelaw04.BoundNumbers', WHERE WHAT IT READS IS OF BULK AT MOST 1048576: true; the input reads as it did. -/
def boundNumbersUptoRow : OpenClaim := { program := "ytpeidnkbliafkaa", sum := "28dc30545fd5b87d52a193d4f574e388e1b50a2b7a355b38a838cf3fe542bf1d", func := "bocage/bocagelaw04.BoundNumbers", spec := "boundNumbers", unfollowed := true, recurses := true, apart := false, narrowed := true }
def BoundNumbersUptoSaid : Prop := boundNumbersUptoRow.holds Try.pinned (OpenSpec.upto boundNumbersSpec)

/-- 'bocagelaw04.BoundReads', WHERE WHAT IT READS IS OF BULK AT MOST 1048576: true; the input reads as it did. -/
def boundReadsUptoRow : OpenClaim := { program := "ytpeidnkbliafkaa", sum := "28dc30545fd5b87d52a193d4f574e388e1b50a2b7a355b38a838cf3fe542bf1d", func := "bocage/bocagelaw04.BoundReads", spec := "boundReads", unfollowed := true, recurses := true, apart := false, narrowed := true }
def BoundReadsUptoSaid : Prop := boundReadsUptoRow.holds Try.pinned (OpenSpec.upto boundReadsSpec)

/-- 'bocagelaw04.BoundTexts', WHERE WHAT IT READS IS OF BULK AT MOST 1048576: true; the input reads as it did. -/
def boundTextsUptoRow : OpenClaim := { program := "ytpeidnkbliafkaa", sum := "28dc30545fd5b87d52a193d4f574e388e1b50a2b7a355b38a838cf3fe542bf1d", func := "bocage/bocagelaw04.BoundTexts", spec := "boundTexts", unfollowed := true, recurses := true, apart := false, narrowed := true }
def BoundTextsUptoSaid : Prop := boundTextsUptoRow.holds Try.pinned (OpenSpec.upto boundTextsSpec)

/-- 'bocagelaw04.BoundLoose', WHERE WHAT IT READS IS OF BULK AT MOST 1048576: true; the input reads as it did. -/
def boundLooseUptoRow : OpenClaim := { program := "ytpeidnkbliafkaa", sum := "28dc30545fd5b87d52a193d4f574e388e1b50a2b7a355b38a838cf3fe542bf1d", func := "bocage/bocagelaw04.BoundLoose", spec := "boundLoose", unfollowed := true, recurses := true, apart := false, narrowed := true }
def BoundLooseUptoSaid : Prop := boundLooseUptoRow.holds Try.pinned (OpenSpec.upto boundLooseSpec)

/-- 'bocagelaw04.BoundSpans', WHERE WHAT IT READS IS OF BULK AT MOST 1048576: true; the input reads as it did. -/
def boundSpansUptoRow : OpenClaim := { program := "ytpeidnkbliafkaa", sum := "28dc30545fd5b87d52a193d4f574e388e1b50a2b7a355b38a838cf3fe542bf1d", func := "bocage/bocagelaw04.BoundSpans", spec := "boundSpans", unfollowed := true, recurses := true, apart := false, narrowed := true }
def BoundSpansUptoSaid : Prop := boundSpansUptoRow.holds Try.pinned (OpenSpec.upto boundSpansSpec)

/-- 'bocagelaw04.BoundBack', WHERE WHAT IT READS IS OF BULK AT MOST 1048576: true; the input reads as it did. -/
def boundBackUptoRow : OpenClaim := { program := "ytpeidnkbliafkaa", sum := "28dc30545fd5b87d52a193d4f574e388e1b50a2b7a355b38a838cf3fe542bf1d", func := "bocage/bocagelaw04.BoundBack", spec := "boundBack", unfollowed := true, recurses := true, apart := false, narrowed := true }
def BoundBackUptoSaid : Prop := boundBackUptoRow.holds Try.pinned (OpenSpec.upto boundBackSpec)

end Rows
end Go.Proofs.Ytpeidnkbliafkaa

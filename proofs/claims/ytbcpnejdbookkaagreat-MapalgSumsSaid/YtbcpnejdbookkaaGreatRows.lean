/-
  No cell of these rows narrows 'for every input' (looked for: loops, veiled, ifaces, maps, wideKeys, modest, calm, conditions, laid).
  DERIVED. THE GIVEN ROWS OF THIS SEAT. 8 by the template 'for every input the law returns true; each argument reads behind the call as it read before'; 0 by the template 'total and deterministic' (their statements: YtbcpnejdbookkaaGreatTotals.lean).
  GIVEN WITH THE SEED: the statements are not yours to turn. If you find one false, say at which input.
  Laid BY PROGRAM, IN A SANDBOX (cutbox-rows.mjs): the forced cells as the released guide's own fill.sh prints them over the translation 7037ba9e7a0dbb51… (all of the seat's roots in one cut). By AI agents, Wed Nov 11 2026. No macro, syntax, notation, axiom, sorry.
-/
import Derived.Test.YtbcpnejdbookkaaGreatChecked
import GoSem.Claim
import GoSem.ClaimJoined
import GoSem.ClaimMapViews
import Derived.JoinedTies
import Derived.KernelRfl
namespace Go.Proofs.YtbcpnejdbookkaaGreat
/- THE CELL 'sum', in the pinned program and in every row, IS THE sha256 OF THE DUMP (.gsa) THAT YtbcpnejdbookkaaGreatProg.lean LOADS. Nothing in Lean hashes anything: it is a label: what it is worth is what the hold of that sum in a sandbox is worth. -/
noncomputable def Tryz.pinned : Pinned := { name := "ytbcpnejdbookkaagreat", sum := "7037ba9e7a0dbb51d706b191ab8ab8f5f9d90e038b55d70ef64facc1c8c570a4", checked := Tryz.checked }
namespace Rows
def none {H : Type} : Left H := { results := [], args := [] }

/-- 'bocagelaw16.MapalgBoth': WHATEVER THE INPUT: true; the input reads as it did. -/
def mapalgBothSpec : ChangeSpec := { name := "mapalgBoth", fn := fun _ => fun
  | [d1, d2, d3] => { results := [.lit (.bool true)], args := [d1, d2, d3] }
  | _ => none }
def mapalgBothRow : OpenClaim := { program := "ytbcpnejdbookkaagreat", sum := "7037ba9e7a0dbb51d706b191ab8ab8f5f9d90e038b55d70ef64facc1c8c570a4", func := "bocage/bocagelaw16.MapalgBoth", spec := "mapalgBoth", inPlace := ["math/bits.Sub64", "math/bits.Add64"], unfollowed := true, recurses := true, apart := false }
def MapalgBothSaid : Prop := mapalgBothRow.holds Tryz.pinned (OpenSpec.ofChange mapalgBothSpec)

/-- ITS FALSE NEIGHBOUR: 'it returns false'. Refute it at one input. -/
def mapalgBothWrong : ChangeSpec := { name := "mapalgBoth", fn := fun _ => fun
  | [d1, d2, d3] => { results := [.lit (.bool false)], args := [d1, d2, d3] }
  | _ => none }
def MapalgBothWrongFalsely : Prop := mapalgBothRow.holds Tryz.pinned (OpenSpec.ofChange mapalgBothWrong)

/-- 'bocagelaw16.MapalgDiffs': WHATEVER THE INPUT: true; the input reads as it did. -/
def mapalgDiffsSpec : ChangeSpec := { name := "mapalgDiffs", fn := fun _ => fun
  | [d1, d2] => { results := [.lit (.bool true)], args := [d1, d2] }
  | _ => none }
def mapalgDiffsRow : OpenClaim := { program := "ytbcpnejdbookkaagreat", sum := "7037ba9e7a0dbb51d706b191ab8ab8f5f9d90e038b55d70ef64facc1c8c570a4", func := "bocage/bocagelaw16.MapalgDiffs", spec := "mapalgDiffs", inPlace := ["math/bits.Sub64", "math/bits.Add64"], unfollowed := true, recurses := true, apart := false }
def MapalgDiffsSaid : Prop := mapalgDiffsRow.holds Tryz.pinned (OpenSpec.ofChange mapalgDiffsSpec)

/-- ITS FALSE NEIGHBOUR: 'it returns false'. Refute it at one input. -/
def mapalgDiffsWrong : ChangeSpec := { name := "mapalgDiffs", fn := fun _ => fun
  | [d1, d2] => { results := [.lit (.bool false)], args := [d1, d2] }
  | _ => none }
def MapalgDiffsWrongFalsely : Prop := mapalgDiffsRow.holds Tryz.pinned (OpenSpec.ofChange mapalgDiffsWrong)

/-- 'bocagelaw16.MapalgSums': WHATEVER THE INPUT: true; the input reads as it did. -/
def mapalgSumsSpec : ChangeSpec := { name := "mapalgSums", fn := fun _ => fun
  | [d1, d2] => { results := [.lit (.bool true)], args := [d1, d2] }
  | _ => none }
def mapalgSumsRow : OpenClaim := { program := "ytbcpnejdbookkaagreat", sum := "7037ba9e7a0dbb51d706b191ab8ab8f5f9d90e038b55d70ef64facc1c8c570a4", func := "bocage/bocagelaw16.MapalgSums", spec := "mapalgSums", inPlace := ["math/bits.Sub64", "math/bits.Add64"], unfollowed := true, recurses := true, apart := false }
def MapalgSumsSaid : Prop := mapalgSumsRow.holds Tryz.pinned (OpenSpec.ofChange mapalgSumsSpec)

/-- ITS FALSE NEIGHBOUR: 'it returns false'. Refute it at one input. -/
def mapalgSumsWrong : ChangeSpec := { name := "mapalgSums", fn := fun _ => fun
  | [d1, d2] => { results := [.lit (.bool false)], args := [d1, d2] }
  | _ => none }
def MapalgSumsWrongFalsely : Prop := mapalgSumsRow.holds Tryz.pinned (OpenSpec.ofChange mapalgSumsWrong)

/-- 'bocagelaw16.MapalgLaws': WHATEVER THE INPUT: true; the input reads as it did. -/
def mapalgLawsSpec : ChangeSpec := { name := "mapalgLaws", fn := fun _ => fun
  | [d1, d2] => { results := [.lit (.bool true)], args := [d1, d2] }
  | _ => none }
def mapalgLawsRow : OpenClaim := { program := "ytbcpnejdbookkaagreat", sum := "7037ba9e7a0dbb51d706b191ab8ab8f5f9d90e038b55d70ef64facc1c8c570a4", func := "bocage/bocagelaw16.MapalgLaws", spec := "mapalgLaws", inPlace := ["math/bits.Sub64", "math/bits.Add64"], unfollowed := true, recurses := true, apart := false }
def MapalgLawsSaid : Prop := mapalgLawsRow.holds Tryz.pinned (OpenSpec.ofChange mapalgLawsSpec)

/-- ITS FALSE NEIGHBOUR: 'it returns false'. Refute it at one input. -/
def mapalgLawsWrong : ChangeSpec := { name := "mapalgLaws", fn := fun _ => fun
  | [d1, d2] => { results := [.lit (.bool false)], args := [d1, d2] }
  | _ => none }
def MapalgLawsWrongFalsely : Prop := mapalgLawsRow.holds Tryz.pinned (OpenSpec.ofChange mapalgLawsWrong)

/-- 'bocagelaw16.MapalgParts': WHATEVER THE INPUT: true; the input reads as it did. -/
def mapalgPartsSpec : ChangeSpec := { name := "mapalgParts", fn := fun _ => fun
  | [d1, d2] => { results := [.lit (.bool true)], args := [d1, d2] }
  | _ => none }
def mapalgPartsRow : OpenClaim := { program := "ytbcpnejdbookkaagreat", sum := "7037ba9e7a0dbb51d706b191ab8ab8f5f9d90e038b55d70ef64facc1c8c570a4", func := "bocage/bocagelaw16.MapalgParts", spec := "mapalgParts", inPlace := ["math/bits.Sub64", "math/bits.Add64"], unfollowed := true, recurses := true, apart := false }
def MapalgPartsSaid : Prop := mapalgPartsRow.holds Tryz.pinned (OpenSpec.ofChange mapalgPartsSpec)

/-- ITS FALSE NEIGHBOUR: 'it returns false'. Refute it at one input. -/
def mapalgPartsWrong : ChangeSpec := { name := "mapalgParts", fn := fun _ => fun
  | [d1, d2] => { results := [.lit (.bool false)], args := [d1, d2] }
  | _ => none }
def MapalgPartsWrongFalsely : Prop := mapalgPartsRow.holds Tryz.pinned (OpenSpec.ofChange mapalgPartsWrong)

/-- 'bocagelaw16.MapalgPaints': WHATEVER THE INPUT: true; the input reads as it did. -/
def mapalgPaintsSpec : ChangeSpec := { name := "mapalgPaints", fn := fun _ => fun
  | [d1, d2, d3] => { results := [.lit (.bool true)], args := [d1, d2, d3] }
  | _ => none }
def mapalgPaintsRow : OpenClaim := { program := "ytbcpnejdbookkaagreat", sum := "7037ba9e7a0dbb51d706b191ab8ab8f5f9d90e038b55d70ef64facc1c8c570a4", func := "bocage/bocagelaw16.MapalgPaints", spec := "mapalgPaints", inPlace := ["math/bits.Sub64", "math/bits.Add64"], unfollowed := true, recurses := true, apart := false }
def MapalgPaintsSaid : Prop := mapalgPaintsRow.holds Tryz.pinned (OpenSpec.ofChange mapalgPaintsSpec)

/-- ITS FALSE NEIGHBOUR: 'it returns false'. Refute it at one input. -/
def mapalgPaintsWrong : ChangeSpec := { name := "mapalgPaints", fn := fun _ => fun
  | [d1, d2, d3] => { results := [.lit (.bool false)], args := [d1, d2, d3] }
  | _ => none }
def MapalgPaintsWrongFalsely : Prop := mapalgPaintsRow.holds Tryz.pinned (OpenSpec.ofChange mapalgPaintsWrong)

/-- 'bocagelaw16.MapalgTurns': WHATEVER THE INPUT: true; the input reads as it did. -/
def mapalgTurnsSpec : ChangeSpec := { name := "mapalgTurns", fn := fun _ => fun
  | [d1, d2, d3] => { results := [.lit (.bool true)], args := [d1, d2, d3] }
  | _ => none }
def mapalgTurnsRow : OpenClaim := { program := "ytbcpnejdbookkaagreat", sum := "7037ba9e7a0dbb51d706b191ab8ab8f5f9d90e038b55d70ef64facc1c8c570a4", func := "bocage/bocagelaw16.MapalgTurns", spec := "mapalgTurns", inPlace := ["math/bits.Sub64", "math/bits.Add64"], unfollowed := true, recurses := true, apart := false }
def MapalgTurnsSaid : Prop := mapalgTurnsRow.holds Tryz.pinned (OpenSpec.ofChange mapalgTurnsSpec)

/-- ITS FALSE NEIGHBOUR: 'it returns false'. Refute it at one input. -/
def mapalgTurnsWrong : ChangeSpec := { name := "mapalgTurns", fn := fun _ => fun
  | [d1, d2, d3] => { results := [.lit (.bool false)], args := [d1, d2, d3] }
  | _ => none }
def MapalgTurnsWrongFalsely : Prop := mapalgTurnsRow.holds Tryz.pinned (OpenSpec.ofChange mapalgTurnsWrong)

/-- 'bocagelaw16.MapalgGroups': WHATEVER THE INPUT: true; the input reads as it did. -/
def mapalgGroupsSpec : ChangeSpec := { name := "mapalgGroups", fn := fun _ => fun
  | [d1, d2] => { results := [.lit (.bool true)], args := [d1, d2] }
  | _ => none }
def mapalgGroupsRow : OpenClaim := { program := "ytbcpnejdbookkaagreat", sum := "7037ba9e7a0dbb51d706b191ab8ab8f5f9d90e038b55d70ef64facc1c8c570a4", func := "bocage/bocagelaw16.MapalgGroups", spec := "mapalgGroups", inPlace := ["math/bits.Sub64", "math/bits.Add64"], unfollowed := true, recurses := true, apart := false }
def MapalgGroupsSaid : Prop := mapalgGroupsRow.holds Tryz.pinned (OpenSpec.ofChange mapalgGroupsSpec)

/-- ITS FALSE NEIGHBOUR: 'it returns false'. Refute it at one input. -/
def mapalgGroupsWrong : ChangeSpec := { name := "mapalgGroups", fn := fun _ => fun
  | [d1, d2] => { results := [.lit (.bool false)], args := [d1, d2] }
  | _ => none }
def MapalgGroupsWrongFalsely : Prop := mapalgGroupsRow.holds Tryz.pinned (OpenSpec.ofChange mapalgGroupsWrong)

/- THE SECOND FORM. 'bulk': how many values and letters a reading holds, each counted each time it is reached (what is shared counts as often as it is met; a slice's spare places count too). A statement '..UptoSaid' is the law's where the arguments, and the package variables that the reading takes, are together of bulk at most 1048576: NARROWER than '..Said'. Prove '..Said' where nothing that the law and all that it calls make is longer than what came in: it says more and counts as full. Else prove '..UptoSaid'. A law counts once. -/
mutual
def uptoBulk {H : Type} : DataW H → Nat
  | .lit (.string bytes) => bytes.length + 1
  | .lit _ => 1
  | .nil => 1
  | .ptr d => uptoBulk d + 1
  | .slice elems spare => uptoBulkAll elems + uptoBulkAll spare + 1
  | .agg parts => uptoBulkAll parts + 1
  | .iface _ d => uptoBulk d + 1
  | .map entries => uptoBulkEntries entries + 1
  | .held _ => 1
def uptoBulkAll {H : Type} : List (DataW H) → Nat
  | [] => 0
  | d :: r => uptoBulk d + uptoBulkAll r
def uptoBulkEntries {H : Type} : List (Lit × DataW H) → Nat
  | [] => 0
  | x :: r => uptoBulkEntry x + uptoBulkEntries r
def uptoBulkEntry {H : Type} : Lit × DataW H → Nat
  | (.string bytes, d) => bytes.length + uptoBulk d + 1
  | (_, d) => uptoBulk d + 1
 end
def uptoSmall : (H : Type) → List (DataW H) → Bool := fun _ ds => decide (uptoBulkAll ds ≤ 1048576)
def OpenSpec.upto (s : _root_.Go.ChangeSpec) : _root_.Go.OpenSpec := { _root_.Go.OpenSpec.ofChange s with cond := some uptoSmall }

/-- 'bocagelaw16.MapalgBoth', WHERE WHAT IT READS IS OF BULK AT MOST 1048576: true; the input reads as it did. -/
def mapalgBothUptoRow : OpenClaim := { program := "ytbcpnejdbookkaagreat", sum := "7037ba9e7a0dbb51d706b191ab8ab8f5f9d90e038b55d70ef64facc1c8c570a4", func := "bocage/bocagelaw16.MapalgBoth", spec := "mapalgBoth", inPlace := ["math/bits.Sub64", "math/bits.Add64"], unfollowed := true, recurses := true, apart := false, narrowed := true }
def MapalgBothUptoSaid : Prop := mapalgBothUptoRow.holds Tryz.pinned (OpenSpec.upto mapalgBothSpec)

/-- 'bocagelaw16.MapalgDiffs', WHERE WHAT IT READS IS OF BULK AT MOST 1048576: true; the input reads as it did. -/
def mapalgDiffsUptoRow : OpenClaim := { program := "ytbcpnejdbookkaagreat", sum := "7037ba9e7a0dbb51d706b191ab8ab8f5f9d90e038b55d70ef64facc1c8c570a4", func := "bocage/bocagelaw16.MapalgDiffs", spec := "mapalgDiffs", inPlace := ["math/bits.Sub64", "math/bits.Add64"], unfollowed := true, recurses := true, apart := false, narrowed := true }
def MapalgDiffsUptoSaid : Prop := mapalgDiffsUptoRow.holds Tryz.pinned (OpenSpec.upto mapalgDiffsSpec)

/-- 'bocagelaw16.MapalgSums', WHERE WHAT IT READS IS OF BULK AT MOST 1048576: true; the input reads as it did. -/
def mapalgSumsUptoRow : OpenClaim := { program := "ytbcpnejdbookkaagreat", sum := "7037ba9e7a0dbb51d706b191ab8ab8f5f9d90e038b55d70ef64facc1c8c570a4", func := "bocage/bocagelaw16.MapalgSums", spec := "mapalgSums", inPlace := ["math/bits.Sub64", "math/bits.Add64"], unfollowed := true, recurses := true, apart := false, narrowed := true }
def MapalgSumsUptoSaid : Prop := mapalgSumsUptoRow.holds Tryz.pinned (OpenSpec.upto mapalgSumsSpec)

/-- 'bocagelaw16.MapalgLaws', WHERE WHAT IT READS IS OF BULK AT MOST 1048576: true; the input reads as it did. -/
def mapalgLawsUptoRow : OpenClaim := { program := "ytbcpnejdbookkaagreat", sum := "7037ba9e7a0dbb51d706b191ab8ab8f5f9d90e038b55d70ef64facc1c8c570a4", func := "bocage/bocagelaw16.MapalgLaws", spec := "mapalgLaws", inPlace := ["math/bits.Sub64", "math/bits.Add64"], unfollowed := true, recurses := true, apart := false, narrowed := true }
def MapalgLawsUptoSaid : Prop := mapalgLawsUptoRow.holds Tryz.pinned (OpenSpec.upto mapalgLawsSpec)

/-- 'bocagelaw16.MapalgParts', WHERE WHAT IT READS IS OF BULK AT MOST 1048576: true; the input reads as it did. -/
def mapalgPartsUptoRow : OpenClaim := { program := "ytbcpnejdbookkaagreat", sum := "7037ba9e7a0dbb51d706b191ab8ab8f5f9d90e038b55d70ef64facc1c8c570a4", func := "bocage/bocagelaw16.MapalgParts", spec := "mapalgParts", inPlace := ["math/bits.Sub64", "math/bits.Add64"], unfollowed := true, recurses := true, apart := false, narrowed := true }
def MapalgPartsUptoSaid : Prop := mapalgPartsUptoRow.holds Tryz.pinned (OpenSpec.upto mapalgPartsSpec)

/-- 'bocagelaw16.MapalgPaints', WHERE WHAT IT READS IS OF BULK AT MOST 1048576: true; the input reads as it did. -/
def mapalgPaintsUptoRow : OpenClaim := { program := "ytbcpnejdbookkaagreat", sum := "7037ba9e7a0dbb51d706b191ab8ab8f5f9d90e038b55d70ef64facc1c8c570a4", func := "bocage/bocagelaw16.MapalgPaints", spec := "mapalgPaints", inPlace := ["math/bits.Sub64", "math/bits.Add64"], unfollowed := true, recurses := true, apart := false, narrowed := true }
def MapalgPaintsUptoSaid : Prop := mapalgPaintsUptoRow.holds Tryz.pinned (OpenSpec.upto mapalgPaintsSpec)

/-- 'bocagelaw16.MapalgTurns', WHERE WHAT IT READS IS OF BULK AT MOST 1048576: true; the input reads as it did. -/
def mapalgTurnsUptoRow : OpenClaim := { program := "ytbcpnejdbookkaagreat", sum := "7037ba9e7a0dbb51d706b191ab8ab8f5f9d90e038b55d70ef64facc1c8c570a4", func := "bocage/bocagelaw16.MapalgTurns", spec := "mapalgTurns", inPlace := ["math/bits.Sub64", "math/bits.Add64"], unfollowed := true, recurses := true, apart := false, narrowed := true }
def MapalgTurnsUptoSaid : Prop := mapalgTurnsUptoRow.holds Tryz.pinned (OpenSpec.upto mapalgTurnsSpec)

/-- 'bocagelaw16.MapalgGroups', WHERE WHAT IT READS IS OF BULK AT MOST 1048576: true; the input reads as it did. -/
def mapalgGroupsUptoRow : OpenClaim := { program := "ytbcpnejdbookkaagreat", sum := "7037ba9e7a0dbb51d706b191ab8ab8f5f9d90e038b55d70ef64facc1c8c570a4", func := "bocage/bocagelaw16.MapalgGroups", spec := "mapalgGroups", inPlace := ["math/bits.Sub64", "math/bits.Add64"], unfollowed := true, recurses := true, apart := false, narrowed := true }
def MapalgGroupsUptoSaid : Prop := mapalgGroupsUptoRow.holds Tryz.pinned (OpenSpec.upto mapalgGroupsSpec)

end Rows
end Go.Proofs.YtbcpnejdbookkaaGreat

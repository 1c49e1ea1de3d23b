/-
  No cell of these rows narrows 'for every input' (looked for: loops, veiled, ifaces, maps, wideKeys, modest, calm, conditions, laid).
  DERIVED. THE GIVEN ROWS OF THIS SEAT. 6 by the template 'for every input the law returns true; each argument reads behind the call as it read before'; 0 by the template 'total and deterministic' (their statements: YtagcloidicnhhaaTotals.lean).
  GIVEN WITH THE SEED: the statements are not yours to turn. If you find one false, say at which input.
  Laid BY PROGRAM, IN A SANDBOX (cutbox-rows.mjs): the forced cells as the released guide's own fill.sh prints them over the translation d1e03364b577792b… (all of the seat's roots in one cut). By AI agents, Wed Nov 11 2026. No macro, syntax, notation, axiom, sorry.
-/
import Derived.Test.YtagcloidicnhhaaChecked
import GoSem.Claim
import GoSem.ClaimJoined
import GoSem.ClaimMapViews
import Derived.JoinedTies
import Derived.KernelRfl
namespace Go.Proofs.Ytagcloidicnhhaa
/- THE CELL 'sum', in the pinned program and in every row, IS THE sha256 OF THE DUMP (.gsa) THAT YtagcloidicnhhaaProg.lean LOADS. Nothing in Lean hashes anything: it is a label: what it is worth is what the hold of that sum in a sandbox is worth. -/
noncomputable def Try.pinned : Pinned := { name := "ytagcloidicnhhaa", sum := "d1e03364b577792b47cb063b5375bc66ba54ee64f05c923138921d4bd52ea4d7", checked := Try.checked }
namespace Rows
def none {H : Type} : Left H := { results := [], args := [] }

/-- 'bocagelaw13.CombNames': WHATEVER THE INPUT: true; the input reads as it did. -/
def combNamesSpec : ChangeSpec := { name := "combNames", fn := fun _ => fun
  | [d] => { results := [.lit (.bool true)], args := [d] }
  | _ => none }
def combNamesRow : OpenClaim := { program := "ytagcloidicnhhaa", sum := "d1e03364b577792b47cb063b5375bc66ba54ee64f05c923138921d4bd52ea4d7", func := "bocage/bocagelaw13.CombNames", spec := "combNames", unfollowed := true, recurses := true, apart := false }
def CombNamesSaid : Prop := combNamesRow.holds Try.pinned (OpenSpec.ofChange combNamesSpec)

/-- ITS FALSE NEIGHBOUR: 'it returns false'. Refute it at one input. -/
def combNamesWrong : ChangeSpec := { name := "combNames", fn := fun _ => fun
  | [d] => { results := [.lit (.bool false)], args := [d] }
  | _ => none }
def CombNamesWrongFalsely : Prop := combNamesRow.holds Try.pinned (OpenSpec.ofChange combNamesWrong)

/-- 'bocagelaw13.CombSame': WHATEVER THE INPUT: true; the input reads as it did. -/
def combSameSpec : ChangeSpec := { name := "combSame", fn := fun _ => fun
  | [d1, d2, d3] => { results := [.lit (.bool true)], args := [d1, d2, d3] }
  | _ => none }
def combSameRow : OpenClaim := { program := "ytagcloidicnhhaa", sum := "d1e03364b577792b47cb063b5375bc66ba54ee64f05c923138921d4bd52ea4d7", func := "bocage/bocagelaw13.CombSame", spec := "combSame", unfollowed := true, recurses := true, apart := false }
def CombSameSaid : Prop := combSameRow.holds Try.pinned (OpenSpec.ofChange combSameSpec)

/-- ITS FALSE NEIGHBOUR: 'it returns false'. Refute it at one input. -/
def combSameWrong : ChangeSpec := { name := "combSame", fn := fun _ => fun
  | [d1, d2, d3] => { results := [.lit (.bool false)], args := [d1, d2, d3] }
  | _ => none }
def CombSameWrongFalsely : Prop := combSameRow.holds Try.pinned (OpenSpec.ofChange combSameWrong)

/-- 'bocagelaw13.CombRows': WHATEVER THE INPUT: true; the input reads as it did. -/
def combRowsSpec : ChangeSpec := { name := "combRows", fn := fun _ => fun
  | [d1, d2, d3] => { results := [.lit (.bool true)], args := [d1, d2, d3] }
  | _ => none }
def combRowsRow : OpenClaim := { program := "ytagcloidicnhhaa", sum := "d1e03364b577792b47cb063b5375bc66ba54ee64f05c923138921d4bd52ea4d7", func := "bocage/bocagelaw13.CombRows", spec := "combRows", unfollowed := true, recurses := true, apart := false }
def CombRowsSaid : Prop := combRowsRow.holds Try.pinned (OpenSpec.ofChange combRowsSpec)

/-- ITS FALSE NEIGHBOUR: 'it returns false'. Refute it at one input. -/
def combRowsWrong : ChangeSpec := { name := "combRows", fn := fun _ => fun
  | [d1, d2, d3] => { results := [.lit (.bool false)], args := [d1, d2, d3] }
  | _ => none }
def CombRowsWrongFalsely : Prop := combRowsRow.holds Try.pinned (OpenSpec.ofChange combRowsWrong)

/-- 'bocagelaw13.CombRises': WHATEVER THE INPUT: true; the input reads as it did. -/
def combRisesSpec : ChangeSpec := { name := "combRises", fn := fun _ => fun
  | [d1, d2, d3] => { results := [.lit (.bool true)], args := [d1, d2, d3] }
  | _ => none }
def combRisesRow : OpenClaim := { program := "ytagcloidicnhhaa", sum := "d1e03364b577792b47cb063b5375bc66ba54ee64f05c923138921d4bd52ea4d7", func := "bocage/bocagelaw13.CombRises", spec := "combRises", unfollowed := true, recurses := true, apart := false }
def CombRisesSaid : Prop := combRisesRow.holds Try.pinned (OpenSpec.ofChange combRisesSpec)

/-- ITS FALSE NEIGHBOUR: 'it returns false'. Refute it at one input. -/
def combRisesWrong : ChangeSpec := { name := "combRises", fn := fun _ => fun
  | [d1, d2, d3] => { results := [.lit (.bool false)], args := [d1, d2, d3] }
  | _ => none }
def CombRisesWrongFalsely : Prop := combRisesRow.holds Try.pinned (OpenSpec.ofChange combRisesWrong)

/-- 'bocagelaw13.CombAll': WHATEVER THE INPUT: true; the input reads as it did. -/
def combAllSpec : ChangeSpec := { name := "combAll", fn := fun _ => fun
  | [d1, d2, d3] => { results := [.lit (.bool true)], args := [d1, d2, d3] }
  | _ => none }
def combAllRow : OpenClaim := { program := "ytagcloidicnhhaa", sum := "d1e03364b577792b47cb063b5375bc66ba54ee64f05c923138921d4bd52ea4d7", func := "bocage/bocagelaw13.CombAll", spec := "combAll", unfollowed := true, recurses := true, apart := false }
def CombAllSaid : Prop := combAllRow.holds Try.pinned (OpenSpec.ofChange combAllSpec)

/-- ITS FALSE NEIGHBOUR: 'it returns false'. Refute it at one input. -/
def combAllWrong : ChangeSpec := { name := "combAll", fn := fun _ => fun
  | [d1, d2, d3] => { results := [.lit (.bool false)], args := [d1, d2, d3] }
  | _ => none }
def CombAllWrongFalsely : Prop := combAllRow.holds Try.pinned (OpenSpec.ofChange combAllWrong)

/-- 'bocagelaw13.CombOrder': WHATEVER THE INPUT: true; the input reads as it did. -/
def combOrderSpec : ChangeSpec := { name := "combOrder", fn := fun _ => fun
  | [d1, d2, d3] => { results := [.lit (.bool true)], args := [d1, d2, d3] }
  | _ => none }
def combOrderRow : OpenClaim := { program := "ytagcloidicnhhaa", sum := "d1e03364b577792b47cb063b5375bc66ba54ee64f05c923138921d4bd52ea4d7", func := "bocage/bocagelaw13.CombOrder", spec := "combOrder", unfollowed := true, recurses := true, apart := false }
def CombOrderSaid : Prop := combOrderRow.holds Try.pinned (OpenSpec.ofChange combOrderSpec)

/-- ITS FALSE NEIGHBOUR: 'it returns false'. Refute it at one input. -/
def combOrderWrong : ChangeSpec := { name := "combOrder", fn := fun _ => fun
  | [d1, d2, d3] => { results := [.lit (.bool false)], args := [d1, d2, d3] }
  | _ => none }
def CombOrderWrongFalsely : Prop := combOrderRow.holds Try.pinned (OpenSpec.ofChange combOrderWrong)

/- THE SECOND FORM. 'bulk': how many values and letters a reading holds, each counted each time it is reached (what is shared counts as often as it is met; a slice's spare places count too). A statement '..UptoSaid' is the law's where the arguments, and the package variables that the reading takes, are together of bulk at most 1048576: NARROWER than '..Said'. Prove '..Said' where nothing that the law and all that it calls make is longer than what came in: it says more and counts as full. Else prove '..UptoSaid'. A law counts once. -/
mutual
def uptoBulk {H : Type} : DataW H → Nat
  | .lit (.string bytes) => bytes.length + 1
  | .lit _ => 1
  | .nil => 1
  | .ptr d => uptoBulk d + 1
  | .slice elems spare => uptoBulkAll elems + uptoBulkAll spare + 1
  | .agg parts => uptoBulkAll parts + 1
  | .iface _ d => uptoBulk d + 1
  | .map entries => uptoBulkEntries entries + 1
  | .held _ => 1
def uptoBulkAll {H : Type} : List (DataW H) → Nat
  | [] => 0
  | d :: r => uptoBulk d + uptoBulkAll r
def uptoBulkEntries {H : Type} : List (Lit × DataW H) → Nat
  | [] => 0
  | x :: r => uptoBulkEntry x + uptoBulkEntries r
def uptoBulkEntry {H : Type} : Lit × DataW H → Nat
  | (.string bytes, d) => bytes.length + uptoBulk d + 1
  | (_, d) => uptoBulk d + 1
 end
def uptoSmall : (H : Type) → List (DataW H) → Bool := fun _ ds => decide (uptoBulkAll ds ≤ 1048576)
def OpenSpec.upto (s : _root_.Go.ChangeSpec) : _root_.Go.OpenSpec := { _root_.Go.OpenSpec.ofChange s with cond := some uptoSmall }

/-- 'bocagelaw13.CombNames', WHERE WHAT IT READS IS OF BULK AT MOST 1048576: true; the input reads as it did. -/
def combNamesUptoRow : OpenClaim := { program := "ytagcloidicnhhaa", sum := "d1e03364b577792b47cb063b5375bc66ba54ee64f05c923138921d4bd52ea4d7", func := "bocage/bocagelaw13.CombNames", spec := "combNames", unfollowed := true, recurses := true, apart := false, narrowed := true }
def CombNamesUptoSaid : Prop := combNamesUptoRow.holds Try.pinned (OpenSpec.upto combNamesSpec)

/-- 'bocagelaw13.CombSame', WHERE WHAT IT READS IS OF BULK AT MOST 1048576: true; the input reads as it did. -/
def combSameUptoRow : OpenClaim := { program := "ytagcloidicnhhaa", sum := "d1e03364b577792b47cb063b5375bc66ba54ee64f05c923138921d4bd52ea4d7", func := "bocage/bocagelaw13.CombSame", spec := "combSame", unfollowed := true, recurses := true, apart := false, narrowed := true }
def CombSameUptoSaid : Prop := combSameUptoRow.holds Try.pinned (OpenSpec.upto combSameSpec)

/-- 'bocagelaw13.CombRows', WHERE WHAT IT READS IS OF BULK AT MOST 1048576: true; the input reads as it did. -/
def combRowsUptoRow : OpenClaim := { program := "ytagcloidicnhhaa", sum := "d1e03364b577792b47cb063b5375bc66ba54ee64f05c923138921d4bd52ea4d7", func := "bocage/bocagelaw13.CombRows", spec := "combRows", unfollowed := true, recurses := true, apart := false, narrowed := true }
def CombRowsUptoSaid : Prop := combRowsUptoRow.holds Try.pinned (OpenSpec.upto combRowsSpec)

/-- 'bocagelaw13.CombRises', WHERE WHAT IT READS IS OF BULK AT MOST 1048576: true; the input reads as it did. -/
def combRisesUptoRow : OpenClaim := { program := "ytagcloidicnhhaa", sum := "d1e03364b577792b47cb063b5375bc66ba54ee64f05c923138921d4bd52ea4d7", func := "bocage/bocagelaw13.CombRises", spec := "combRises", unfollowed := true, recurses := true, apart := false, narrowed := true }
def CombRisesUptoSaid : Prop := combRisesUptoRow.holds Try.pinned (OpenSpec.upto combRisesSpec)

/-- 'bocagelaw13.CombAll', WHERE WHAT IT READS IS OF BULK AT MOST 1048576: true; the input reads as it did. -/
def combAllUptoRow : OpenClaim := { program := "ytagcloidicnhhaa", sum := "d1e03364b577792b47cb063b5375bc66ba54ee64f05c923138921d4bd52ea4d7", func := "bocage/bocagelaw13.CombAll", spec := "combAll", unfollowed := true, recurses := true, apart := false, narrowed := true }
def CombAllUptoSaid : Prop := combAllUptoRow.holds Try.pinned (OpenSpec.upto combAllSpec)

/-- 'bocagelaw13.CombOrder', WHERE WHAT IT READS IS OF BULK AT MOST 1048576: true; the input reads as it did. -/
def combOrderUptoRow : OpenClaim := { program := "ytagcloidicnhhaa", sum := "d1e03364b577792b47cb063b5375bc66ba54ee64f05c923138921d4bd52ea4d7", func := "bocage/bocagelaw13.CombOrder", spec := "combOrder", unfollowed := true, recurses := true, apart := false, narrowed := true }
def CombOrderUptoSaid : Prop := combOrderUptoRow.holds Try.pinned (OpenSpec.upto combOrderSpec)

end Rows
end Go.Proofs.Ytagcloidicnhhaa

/-
  No cell of these rows narrows 'for every input' (looked for: loops, veiled, ifaces, maps, wideKeys, modest, calm, conditions, laid).
  DERIVED. THE GIVEN ROWS OF THIS SEAT. 6 by the template 'for every input the law returns true; each argument reads behind the call as it read before'; 0 by the template 'total and deterministic' (their statements: YtkkbmjfhpngalaaTotals.lean).
  GIVEN WITH THE SEED: the statements are not yours to turn. If you find one false, say at which input.
  Laid BY PROGRAM, IN A SANDBOX (cutbox-rows.mjs): the forced cells as the released guide's own fill.sh prints them over the translation 8afa539e65927867… (all of the seat's roots in one cut). By AI agents, Wed Nov 11 2026. No macro, syntax, notation, axiom, sorry.
-/
import Derived.Test.YtkkbmjfhpngalaaChecked
import GoSem.Claim
import GoSem.ClaimJoined
import GoSem.ClaimMapViews
import Derived.JoinedTies
import Derived.KernelRfl
namespace Go.Proofs.Ytkkbmjfhpngalaa
/- THE CELL 'sum', in the pinned program and in every row, IS THE sha256 OF THE DUMP (.gsa) THAT YtkkbmjfhpngalaaProg.lean LOADS. Nothing in Lean hashes anything: it is a label: what it is worth is what the hold of that sum in a sandbox is worth. -/
noncomputable def Try.pinned : Pinned := { name := "ytkkbmjfhpngalaa", sum := "8afa539e6592786792a033de3b370b409154f69b24863e11e644b80a81e9b67d", checked := Try.checked }
namespace Rows
def none {H : Type} : Left H := { results := [], args := [] }

/-- 'bocagelaw03.SpanTwo': WHATEVER THE INPUT: true; the input reads as it did. -/
def spanTwoSpec : ChangeSpec := { name := "spanTwo", fn := fun _ => fun
  | [d1, d2] => { results := [.lit (.bool true)], args := [d1, d2] }
  | _ => none }
def spanTwoRow : OpenClaim := { program := "ytkkbmjfhpngalaa", sum := "8afa539e6592786792a033de3b370b409154f69b24863e11e644b80a81e9b67d", func := "bocage/bocagelaw03.SpanTwo", spec := "spanTwo", unfollowed := true, recurses := true, apart := false }
def SpanTwoSaid : Prop := spanTwoRow.holds Try.pinned (OpenSpec.ofChange spanTwoSpec)

/-- ITS FALSE NEIGHBOUR: 'it returns false'. Refute it at one input. -/
def spanTwoWrong : ChangeSpec := { name := "spanTwo", fn := fun _ => fun
  | [d1, d2] => { results := [.lit (.bool false)], args := [d1, d2] }
  | _ => none }
def SpanTwoWrongFalsely : Prop := spanTwoRow.holds Try.pinned (OpenSpec.ofChange spanTwoWrong)

/-- 'bocagelaw03.SpanOne': WHATEVER THE INPUT: true; the input reads as it did. -/
def spanOneSpec : ChangeSpec := { name := "spanOne", fn := fun _ => fun
  | [d1, d2] => { results := [.lit (.bool true)], args := [d1, d2] }
  | _ => none }
def spanOneRow : OpenClaim := { program := "ytkkbmjfhpngalaa", sum := "8afa539e6592786792a033de3b370b409154f69b24863e11e644b80a81e9b67d", func := "bocage/bocagelaw03.SpanOne", spec := "spanOne", unfollowed := true, recurses := true, apart := false }
def SpanOneSaid : Prop := spanOneRow.holds Try.pinned (OpenSpec.ofChange spanOneSpec)

/-- ITS FALSE NEIGHBOUR: 'it returns false'. Refute it at one input. -/
def spanOneWrong : ChangeSpec := { name := "spanOne", fn := fun _ => fun
  | [d1, d2] => { results := [.lit (.bool false)], args := [d1, d2] }
  | _ => none }
def SpanOneWrongFalsely : Prop := spanOneRow.holds Try.pinned (OpenSpec.ofChange spanOneWrong)

/-- 'bocagelaw03.SpanParts': WHATEVER THE INPUT: true; the input reads as it did. -/
def spanPartsSpec : ChangeSpec := { name := "spanParts", fn := fun _ => fun
  | [d1, d2, d3] => { results := [.lit (.bool true)], args := [d1, d2, d3] }
  | _ => none }
def spanPartsRow : OpenClaim := { program := "ytkkbmjfhpngalaa", sum := "8afa539e6592786792a033de3b370b409154f69b24863e11e644b80a81e9b67d", func := "bocage/bocagelaw03.SpanParts", spec := "spanParts", unfollowed := true, recurses := true, apart := false }
def SpanPartsSaid : Prop := spanPartsRow.holds Try.pinned (OpenSpec.ofChange spanPartsSpec)

/-- ITS FALSE NEIGHBOUR: 'it returns false'. Refute it at one input. -/
def spanPartsWrong : ChangeSpec := { name := "spanParts", fn := fun _ => fun
  | [d1, d2, d3] => { results := [.lit (.bool false)], args := [d1, d2, d3] }
  | _ => none }
def SpanPartsWrongFalsely : Prop := spanPartsRow.holds Try.pinned (OpenSpec.ofChange spanPartsWrong)

/-- 'bocagelaw03.SpanOrder': WHATEVER THE INPUT: true; the input reads as it did. -/
def spanOrderSpec : ChangeSpec := { name := "spanOrder", fn := fun _ => fun
  | [d1, d2] => { results := [.lit (.bool true)], args := [d1, d2] }
  | _ => none }
def spanOrderRow : OpenClaim := { program := "ytkkbmjfhpngalaa", sum := "8afa539e6592786792a033de3b370b409154f69b24863e11e644b80a81e9b67d", func := "bocage/bocagelaw03.SpanOrder", spec := "spanOrder", unfollowed := true, recurses := true, apart := false }
def SpanOrderSaid : Prop := spanOrderRow.holds Try.pinned (OpenSpec.ofChange spanOrderSpec)

/-- ITS FALSE NEIGHBOUR: 'it returns false'. Refute it at one input. -/
def spanOrderWrong : ChangeSpec := { name := "spanOrder", fn := fun _ => fun
  | [d1, d2] => { results := [.lit (.bool false)], args := [d1, d2] }
  | _ => none }
def SpanOrderWrongFalsely : Prop := spanOrderRow.holds Try.pinned (OpenSpec.ofChange spanOrderWrong)

/-- 'bocagelaw03.SpanLists': WHATEVER THE INPUT: true; the input reads as it did. -/
def spanListsSpec : ChangeSpec := { name := "spanLists", fn := fun _ => fun
  | [d1, d2] => { results := [.lit (.bool true)], args := [d1, d2] }
  | _ => none }
def spanListsRow : OpenClaim := { program := "ytkkbmjfhpngalaa", sum := "8afa539e6592786792a033de3b370b409154f69b24863e11e644b80a81e9b67d", func := "bocage/bocagelaw03.SpanLists", spec := "spanLists", unfollowed := true, recurses := true, apart := false }
def SpanListsSaid : Prop := spanListsRow.holds Try.pinned (OpenSpec.ofChange spanListsSpec)

/-- ITS FALSE NEIGHBOUR: 'it returns false'. Refute it at one input. -/
def spanListsWrong : ChangeSpec := { name := "spanLists", fn := fun _ => fun
  | [d1, d2] => { results := [.lit (.bool false)], args := [d1, d2] }
  | _ => none }
def SpanListsWrongFalsely : Prop := spanListsRow.holds Try.pinned (OpenSpec.ofChange spanListsWrong)

/-- 'bocagelaw03.SpanShifts': WHATEVER THE INPUT: true; the input reads as it did. -/
def spanShiftsSpec : ChangeSpec := { name := "spanShifts", fn := fun _ => fun
  | [d1, d2] => { results := [.lit (.bool true)], args := [d1, d2] }
  | _ => none }
def spanShiftsRow : OpenClaim := { program := "ytkkbmjfhpngalaa", sum := "8afa539e6592786792a033de3b370b409154f69b24863e11e644b80a81e9b67d", func := "bocage/bocagelaw03.SpanShifts", spec := "spanShifts", unfollowed := true, recurses := true, apart := false }
def SpanShiftsSaid : Prop := spanShiftsRow.holds Try.pinned (OpenSpec.ofChange spanShiftsSpec)

/-- ITS FALSE NEIGHBOUR: 'it returns false'. Refute it at one input. -/
def spanShiftsWrong : ChangeSpec := { name := "spanShifts", fn := fun _ => fun
  | [d1, d2] => { results := [.lit (.bool false)], args := [d1, d2] }
  | _ => none }
def SpanShiftsWrongFalsely : Prop := spanShiftsRow.holds Try.pinned (OpenSpec.ofChange spanShiftsWrong)

/- THE SECOND FORM. 'bulk': how many values and letters a reading holds, each counted each time it is reached (what is shared counts as often as it is met; a slice's spare places count too). A statement '..UptoSaid' is the law's where the arguments, and the package variables that the reading takes, are together of bulk at most 1048576: NARROWER than '..Said'. Prove '..Said' where nothing that the law and all that it calls make is longer than what came in: it says more and counts as full. Else prove '..UptoSaid'. A law counts once. -/
mutual
def uptoBulk {H : Type} : DataW H → Nat
  | .lit (.string bytes) => bytes.length + 1
  | .lit _ => 1
  | .nil => 1
  | .ptr d => uptoBulk d + 1
  | .slice elems spare => uptoBulkAll elems + uptoBulkAll spare + 1
  | .agg parts => uptoBulkAll parts + 1
  | .iface _ d => uptoBulk d + 1
  | .map entries => uptoBulkEntries entries + 1
  | .held _ => 1
def uptoBulkAll {H : Type} : List (DataW H) → Nat
  | [] => 0
  | d :: r => uptoBulk d + uptoBulkAll r
def uptoBulkEntries {H : Type} : List (Lit × DataW H) → Nat
  | [] => 0
  | x :: r => uptoBulkEntry x + uptoBulkEntries r
def uptoBulkEntry {H : Type} : Lit × DataW H → Nat
  | (.string bytes, d) => bytes.length + uptoBulk d + 1
  | (_, d) => uptoBulk d + 1
 end
def uptoSmall : (H : Type) → List (DataW H) → Bool := fun _ ds => decide (uptoBulkAll ds ≤ 1048576)
def OpenSpec.upto (s : _root_.Go.ChangeSpec) : _root_.Go.OpenSpec := { _root_.Go.OpenSpec.ofChange s with cond := some uptoSmall }

/-- 'bocagelaw03.SpanTwo', WHERE WHAT IT READS IS OF BULK AT MOST 1048576: true; the input reads as it did. -/
def spanTwoUptoRow : OpenClaim := { program := "ytkkbmjfhpngalaa", sum := "8afa539e6592786792a033de3b370b409154f69b24863e11e644b80a81e9b67d", func := "bocage/bocagelaw03.SpanTwo", spec := "spanTwo", unfollowed := true, recurses := true, apart := false, narrowed := true }
def SpanTwoUptoSaid : Prop := spanTwoUptoRow.holds Try.pinned (OpenSpec.upto spanTwoSpec)

/-- 'bocagelaw03.SpanOne', WHERE WHAT IT READS IS OF BULK AT MOST 1048576: true; the input reads as it did. -/
def spanOneUptoRow : OpenClaim := { program := "ytkkbmjfhpngalaa", sum := "8afa539e6592786792a033de3b370b409154f69b24863e11e644b80a81e9b67d", func := "bocage/bocagelaw03.SpanOne", spec := "spanOne", unfollowed := true, recurses := true, apart := false, narrowed := true }
def SpanOneUptoSaid : Prop := spanOneUptoRow.holds Try.pinned (OpenSpec.upto spanOneSpec)

/-- 'bocagelaw03.SpanParts', WHERE WHAT IT READS IS OF BULK AT MOST 1048576: true; the input reads as it did. -/
def spanPartsUptoRow : OpenClaim := { program := "ytkkbmjfhpngalaa", sum := "8afa539e6592786792a033de3b370b409154f69b24863e11e644b80a81e9b67d", func := "bocage/bocagelaw03.SpanParts", spec := "spanParts", unfollowed := true, recurses := true, apart := false, narrowed := true }
def SpanPartsUptoSaid : Prop := spanPartsUptoRow.holds Try.pinned (OpenSpec.upto spanPartsSpec)

/-- 'bocagelaw03.SpanOrder', WHERE WHAT IT READS IS OF BULK AT MOST 1048576: true; the input reads as it did. -/
def spanOrderUptoRow : OpenClaim := { program := "ytkkbmjfhpngalaa", sum := "8afa539e6592786792a033de3b370b409154f69b24863e11e644b80a81e9b67d", func := "bocage/bocagelaw03.SpanOrder", spec := "spanOrder", unfollowed := true, recurses := true, apart := false, narrowed := true }
def SpanOrderUptoSaid : Prop := spanOrderUptoRow.holds Try.pinned (OpenSpec.upto spanOrderSpec)

/-- 'bocagelaw03.SpanLists', WHERE WHAT IT READS IS OF BULK AT MOST 1048576: true; the input reads as it did. -/
def spanListsUptoRow : OpenClaim := { program := "ytkkbmjfhpngalaa", sum := "8afa539e6592786792a033de3b370b409154f69b24863e11e644b80a81e9b67d", func := "bocage/bocagelaw03.SpanLists", spec := "spanLists", unfollowed := true, recurses := true, apart := false, narrowed := true }
def SpanListsUptoSaid : Prop := spanListsUptoRow.holds Try.pinned (OpenSpec.upto spanListsSpec)

/-- 'bocagelaw03.SpanShifts', WHERE WHAT IT READS IS OF BULK AT MOST 1048576: true; the input reads as it did. -/
def spanShiftsUptoRow : OpenClaim := { program := "ytkkbmjfhpngalaa", sum := "8afa539e6592786792a033de3b370b409154f69b24863e11e644b80a81e9b67d", func := "bocage/bocagelaw03.SpanShifts", spec := "spanShifts", unfollowed := true, recurses := true, apart := false, narrowed := true }
def SpanShiftsUptoSaid : Prop := spanShiftsUptoRow.holds Try.pinned (OpenSpec.upto spanShiftsSpec)

end Rows
end Go.Proofs.Ytkkbmjfhpngalaa

/-
  No cell of these rows narrows 'for every input' (looked for: loops, veiled, ifaces, maps, wideKeys, modest, calm, conditions, laid).
  DERIVED. THE GIVEN ROWS OF THIS SEAT. 7 by the template 'for every input the law returns true; each argument reads behind the call as it read before'; 0 by the template 'total and deterministic' (their statements: YtihhagfdfhojnaaTotals.lean).
  GIVEN WITH THE SEED: the statements are not yours to turn. If you find one false, say at which input.
  Laid BY PROGRAM, IN A SANDBOX (cutbox-rows.mjs): the forced cells as the released guide's own fill.sh prints them over the translation 7690eea59360329b… (all of the seat's roots in one cut). By AI agents, Wed Nov 11 2026. No macro, syntax, notation, axiom, sorry.
-/
import Derived.Test.YtihhagfdfhojnaaChecked
import GoSem.Claim
import GoSem.ClaimJoined
import GoSem.ClaimMapViews
import Derived.JoinedTies
import Derived.KernelRfl
namespace Go.Proofs.Ytihhagfdfhojnaa
/- THE CELL 'sum', in the pinned program and in every row, IS THE sha256 OF THE DUMP (.gsa) THAT YtihhagfdfhojnaaProg.lean LOADS. Nothing in Lean hashes anything: it is a label: what it is worth is what the hold of that sum in a sandbox is worth. -/
noncomputable def Try.pinned : Pinned := { name := "ytihhagfdfhojnaa", sum := "7690eea59360329b5b1ba34d63f527279afeae2b13d602305b14610657e07243", checked := Try.checked }
namespace Rows
def none {H : Type} : Left H := { results := [], args := [] }

/-- 'bocagelaw02.CutTexts': WHATEVER THE INPUT: true; the input reads as it did. -/
def cutTextsSpec : ChangeSpec := { name := "cutTexts", fn := fun _ => fun
  | [d1, d2] => { results := [.lit (.bool true)], args := [d1, d2] }
  | _ => none }
def cutTextsRow : OpenClaim := { program := "ytihhagfdfhojnaa", sum := "7690eea59360329b5b1ba34d63f527279afeae2b13d602305b14610657e07243", func := "bocage/bocagelaw02.CutTexts", spec := "cutTexts", unfollowed := true, recurses := true, apart := false }
def CutTextsSaid : Prop := cutTextsRow.holds Try.pinned (OpenSpec.ofChange cutTextsSpec)

/-- ITS FALSE NEIGHBOUR: 'it returns false'. Refute it at one input. -/
def cutTextsWrong : ChangeSpec := { name := "cutTexts", fn := fun _ => fun
  | [d1, d2] => { results := [.lit (.bool false)], args := [d1, d2] }
  | _ => none }
def CutTextsWrongFalsely : Prop := cutTextsRow.holds Try.pinned (OpenSpec.ofChange cutTextsWrong)

/-- 'bocagelaw02.CutOrder': WHATEVER THE INPUT: true; the input reads as it did. -/
def cutOrderSpec : ChangeSpec := { name := "cutOrder", fn := fun _ => fun
  | [d1, d2, d3] => { results := [.lit (.bool true)], args := [d1, d2, d3] }
  | _ => none }
def cutOrderRow : OpenClaim := { program := "ytihhagfdfhojnaa", sum := "7690eea59360329b5b1ba34d63f527279afeae2b13d602305b14610657e07243", func := "bocage/bocagelaw02.CutOrder", spec := "cutOrder", unfollowed := true, recurses := true, apart := false }
def CutOrderSaid : Prop := cutOrderRow.holds Try.pinned (OpenSpec.ofChange cutOrderSpec)

/-- ITS FALSE NEIGHBOUR: 'it returns false'. Refute it at one input. -/
def cutOrderWrong : ChangeSpec := { name := "cutOrder", fn := fun _ => fun
  | [d1, d2, d3] => { results := [.lit (.bool false)], args := [d1, d2, d3] }
  | _ => none }
def CutOrderWrongFalsely : Prop := cutOrderRow.holds Try.pinned (OpenSpec.ofChange cutOrderWrong)

/-- 'bocagelaw02.CutBetween': WHATEVER THE INPUT: true; the input reads as it did. -/
def cutBetweenSpec : ChangeSpec := { name := "cutBetween", fn := fun _ => fun
  | [d1, d2] => { results := [.lit (.bool true)], args := [d1, d2] }
  | _ => none }
def cutBetweenRow : OpenClaim := { program := "ytihhagfdfhojnaa", sum := "7690eea59360329b5b1ba34d63f527279afeae2b13d602305b14610657e07243", func := "bocage/bocagelaw02.CutBetween", spec := "cutBetween", unfollowed := true, recurses := true, apart := false }
def CutBetweenSaid : Prop := cutBetweenRow.holds Try.pinned (OpenSpec.ofChange cutBetweenSpec)

/-- ITS FALSE NEIGHBOUR: 'it returns false'. Refute it at one input. -/
def cutBetweenWrong : ChangeSpec := { name := "cutBetween", fn := fun _ => fun
  | [d1, d2] => { results := [.lit (.bool false)], args := [d1, d2] }
  | _ => none }
def CutBetweenWrongFalsely : Prop := cutBetweenRow.holds Try.pinned (OpenSpec.ofChange cutBetweenWrong)

/-- 'bocagelaw02.CutNumbers': WHATEVER THE INPUT: true; the input reads as it did. -/
def cutNumbersSpec : ChangeSpec := { name := "cutNumbers", fn := fun _ => fun
  | [d1, d2] => { results := [.lit (.bool true)], args := [d1, d2] }
  | _ => none }
def cutNumbersRow : OpenClaim := { program := "ytihhagfdfhojnaa", sum := "7690eea59360329b5b1ba34d63f527279afeae2b13d602305b14610657e07243", func := "bocage/bocagelaw02.CutNumbers", spec := "cutNumbers", unfollowed := true, recurses := true, apart := false }
def CutNumbersSaid : Prop := cutNumbersRow.holds Try.pinned (OpenSpec.ofChange cutNumbersSpec)

/-- ITS FALSE NEIGHBOUR: 'it returns false'. Refute it at one input. -/
def cutNumbersWrong : ChangeSpec := { name := "cutNumbers", fn := fun _ => fun
  | [d1, d2] => { results := [.lit (.bool false)], args := [d1, d2] }
  | _ => none }
def CutNumbersWrongFalsely : Prop := cutNumbersRow.holds Try.pinned (OpenSpec.ofChange cutNumbersWrong)

/-- 'bocagelaw02.CutPlaces': WHATEVER THE INPUT: true; the input reads as it did. -/
def cutPlacesSpec : ChangeSpec := { name := "cutPlaces", fn := fun _ => fun
  | [d1, d2] => { results := [.lit (.bool true)], args := [d1, d2] }
  | _ => none }
def cutPlacesRow : OpenClaim := { program := "ytihhagfdfhojnaa", sum := "7690eea59360329b5b1ba34d63f527279afeae2b13d602305b14610657e07243", func := "bocage/bocagelaw02.CutPlaces", spec := "cutPlaces", unfollowed := true, recurses := true, apart := false }
def CutPlacesSaid : Prop := cutPlacesRow.holds Try.pinned (OpenSpec.ofChange cutPlacesSpec)

/-- ITS FALSE NEIGHBOUR: 'it returns false'. Refute it at one input. -/
def cutPlacesWrong : ChangeSpec := { name := "cutPlaces", fn := fun _ => fun
  | [d1, d2] => { results := [.lit (.bool false)], args := [d1, d2] }
  | _ => none }
def CutPlacesWrongFalsely : Prop := cutPlacesRow.holds Try.pinned (OpenSpec.ofChange cutPlacesWrong)

/-- 'bocagelaw02.CutShifts': WHATEVER THE INPUT: true; the input reads as it did. -/
def cutShiftsSpec : ChangeSpec := { name := "cutShifts", fn := fun _ => fun
  | [d1, d2] => { results := [.lit (.bool true)], args := [d1, d2] }
  | _ => none }
def cutShiftsRow : OpenClaim := { program := "ytihhagfdfhojnaa", sum := "7690eea59360329b5b1ba34d63f527279afeae2b13d602305b14610657e07243", func := "bocage/bocagelaw02.CutShifts", spec := "cutShifts", unfollowed := true, recurses := true, apart := false }
def CutShiftsSaid : Prop := cutShiftsRow.holds Try.pinned (OpenSpec.ofChange cutShiftsSpec)

/-- ITS FALSE NEIGHBOUR: 'it returns false'. Refute it at one input. -/
def cutShiftsWrong : ChangeSpec := { name := "cutShifts", fn := fun _ => fun
  | [d1, d2] => { results := [.lit (.bool false)], args := [d1, d2] }
  | _ => none }
def CutShiftsWrongFalsely : Prop := cutShiftsRow.holds Try.pinned (OpenSpec.ofChange cutShiftsWrong)

/-- 'bocagelaw02.CutSorts': WHATEVER THE INPUT: true; the input reads as it did. -/
def cutSortsSpec : ChangeSpec := { name := "cutSorts", fn := fun _ => fun
  | [d] => { results := [.lit (.bool true)], args := [d] }
  | _ => none }
def cutSortsRow : OpenClaim := { program := "ytihhagfdfhojnaa", sum := "7690eea59360329b5b1ba34d63f527279afeae2b13d602305b14610657e07243", func := "bocage/bocagelaw02.CutSorts", spec := "cutSorts", unfollowed := true, recurses := true, apart := false }
def CutSortsSaid : Prop := cutSortsRow.holds Try.pinned (OpenSpec.ofChange cutSortsSpec)

/-- ITS FALSE NEIGHBOUR: 'it returns false'. Refute it at one input. -/
def cutSortsWrong : ChangeSpec := { name := "cutSorts", fn := fun _ => fun
  | [d] => { results := [.lit (.bool false)], args := [d] }
  | _ => none }
def CutSortsWrongFalsely : Prop := cutSortsRow.holds Try.pinned (OpenSpec.ofChange cutSortsWrong)

/- THE SECOND FORM. 'bulk': how many values and letters a reading holds, each counted each time it is reached (what is shared counts as often as it is met; a slice's spare places count too). A statement '..UptoSaid' is the law's where the arguments, and the package variables that the reading takes, are together of bulk at most 1048576: NARROWER than '..Said'. Prove '..Said' where nothing that the law and all that it calls make is longer than what came in: it says more and counts as full. Else prove '..UptoSaid'. A law counts once. -/
mutual
def uptoBulk {H : Type} : DataW H → Nat
  | .lit (.string bytes) => bytes.length + 1
  | .lit _ => 1
  | .nil => 1
  | .ptr d => uptoBulk d + 1
  | .slice elems spare => uptoBulkAll elems + uptoBulkAll spare + 1
  | .agg parts => uptoBulkAll parts + 1
  | .iface _ d => uptoBulk d + 1
  | .map entries => uptoBulkEntries entries + 1
  | .held _ => 1
def uptoBulkAll {H : Type} : List (DataW H) → Nat
  | [] => 0
  | d :: r => uptoBulk d + uptoBulkAll r
def uptoBulkEntries {H : Type} : List (Lit × DataW H) → Nat
  | [] => 0
  | x :: r => uptoBulkEntry x + uptoBulkEntries r
def uptoBulkEntry {H : Type} : Lit × DataW H → Nat
  | (.string bytes, d) => bytes.length + uptoBulk d + 1
  | (_, d) => uptoBulk d + 1
 end
def uptoSmall : (H : Type) → List (DataW H) → Bool := fun _ ds => decide (uptoBulkAll ds ≤ 1048576)
def OpenSpec.upto (s : _root_.Go.ChangeSpec) : _root_.Go.OpenSpec := { _root_.Go.OpenSpec.ofChange s with cond := some uptoSmall }

/-- 'bocagelaw02.CutTexts', WHERE WHAT IT READS IS OF BULK AT MOST 1048576: true; the input reads as it did. -/
def cutTextsUptoRow : OpenClaim := { program := "ytihhagfdfhojnaa", sum := "7690eea59360329b5b1ba34d63f527279afeae2b13d602305b14610657e07243", func := "bocage/bocagelaw02.CutTexts", spec := "cutTexts", unfollowed := true, recurses := true, apart := false, narrowed := true }
def CutTextsUptoSaid : Prop := cutTextsUptoRow.holds Try.pinned (OpenSpec.upto cutTextsSpec)

/-- 'bocagelaw02.CutOrder', WHERE WHAT IT READS IS OF BULK AT MOST 1048576: true; the input reads as it did. -/
def cutOrderUptoRow : OpenClaim := { program := "ytihhagfdfhojnaa", sum := "7690eea59360329b5b1ba34d63f527279afeae2b13d602305b14610657e07243", func := "bocage/bocagelaw02.CutOrder", spec := "cutOrder", unfollowed := true, recurses := true, apart := false, narrowed := true }
def CutOrderUptoSaid : Prop := cutOrderUptoRow.holds Try.pinned (OpenSpec.upto cutOrderSpec)

/-- 'bocagelaw02.CutBetween', WHERE WHAT IT READS IS OF BULK AT MOST 1048576: true; the input reads as it did. -/
def cutBetweenUptoRow : OpenClaim := { program := "ytihhagfdfhojnaa", sum := "7690eea59360329b5b1ba34d63f527279afeae2b13d602305b14610657e07243", func := "bocage/bocagelaw02.CutBetween", spec := "cutBetween", unfollowed := true, recurses := true, apart := false, narrowed := true }
def CutBetweenUptoSaid : Prop := cutBetweenUptoRow.holds Try.pinned (OpenSpec.upto cutBetweenSpec)

/-- 'bocagelaw02.CutNumbers', WHERE WHAT IT READS IS OF BULK AT MOST 1048576: true; the input reads as it did. -/
def cutNumbersUptoRow : OpenClaim := { program := "ytihhagfdfhojnaa", sum := "7690eea59360329b5b1ba34d63f527279afeae2b13d602305b14610657e07243", func := "bocage/bocagelaw02.CutNumbers", spec := "cutNumbers", unfollowed := true, recurses := true, apart := false, narrowed := true }
def CutNumbersUptoSaid : Prop := cutNumbersUptoRow.holds Try.pinned (OpenSpec.upto cutNumbersSpec)

/-- 'bocagelaw02.CutPlaces', WHERE WHAT IT READS IS OF BULK AT MOST 1048576: true; the input reads as it did. -/
def cutPlacesUptoRow : OpenClaim := { program := "ytihhagfdfhojnaa", sum := "7690eea59360329b5b1ba34d63f527279afeae2b13d602305b14610657e07243", func := "bocage/bocagelaw02.CutPlaces", spec := "cutPlaces", unfollowed := true, recurses := true, apart := false, narrowed := true }
def CutPlacesUptoSaid : Prop := cutPlacesUptoRow.holds Try.pinned (OpenSpec.upto cutPlacesSpec)

/-- 'bocagelaw02.CutShifts', WHERE WHAT IT READS IS OF BULK AT MOST 1048576: true; the input reads as it did. -/
def cutShiftsUptoRow : OpenClaim := { program := "ytihhagfdfhojnaa", sum := "7690eea59360329b5b1ba34d63f527279afeae2b13d602305b14610657e07243", func := "bocage/bocagelaw02.CutShifts", spec := "cutShifts", unfollowed := true, recurses := true, apart := false, narrowed := true }
def CutShiftsUptoSaid : Prop := cutShiftsUptoRow.holds Try.pinned (OpenSpec.upto cutShiftsSpec)

/-- 'bocagelaw02.CutSorts', WHERE WHAT IT READS IS OF BULK AT MOST 1048576: true; the input reads as it did. -/
def cutSortsUptoRow : OpenClaim := { program := "ytihhagfdfhojnaa", sum := "7690eea59360329b5b1ba34d63f527279afeae2b13d602305b14610657e07243", func := "bocage/bocagelaw02.CutSorts", spec := "cutSorts", unfollowed := true, recurses := true, apart := false, narrowed := true }
def CutSortsUptoSaid : Prop := cutSortsUptoRow.holds Try.pinned (OpenSpec.upto cutSortsSpec)

end Rows
end Go.Proofs.Ytihhagfdfhojnaa

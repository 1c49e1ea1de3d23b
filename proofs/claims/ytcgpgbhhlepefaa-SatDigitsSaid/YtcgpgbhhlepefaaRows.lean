/-
  No cell of these rows narrows 'for every input' (looked for: loops, veiled, ifaces, maps, wideKeys, modest, calm, conditions, laid).
  DERIVED. THE GIVEN ROWS OF THIS SEAT. 7 by the template 'for every input the law returns true; each argument reads behind the call as it read before'; 0 by the template 'total and deterministic' (their statements: YtcgpgbhhlepefaaTotals.lean).
  GIVEN WITH THE SEED: the statements are not yours to turn. If you find one false, say at which input.
  Laid BY PROGRAM, IN A SANDBOX (cutbox-rows.mjs): the forced cells as the released guide's own fill.sh prints them over the translation dc295025a0f9d5f8… (all of the seat's roots in one cut). By AI agents, Wed Nov 11 2026. No macro, syntax, notation, axiom, sorry.
-/
import Derived.Test.YtcgpgbhhlepefaaChecked
import GoSem.Claim
import GoSem.ClaimJoined
import GoSem.ClaimMapViews
import Derived.JoinedTies
import Derived.KernelRfl
namespace Go.Proofs.Ytcgpgbhhlepefaa
/- THE CELL 'sum', in the pinned program and in every row, IS THE sha256 OF THE DUMP (.gsa) THAT YtcgpgbhhlepefaaProg.lean LOADS. Nothing in Lean hashes anything: it is a label: what it is worth is what the hold of that sum in a sandbox is worth. -/
noncomputable def Try.pinned : Pinned := { name := "ytcgpgbhhlepefaa", sum := "dc295025a0f9d5f8bc7f0badcc5833b7f3925fbacb08aa7567640e3b473518e1", checked := Try.checked }
namespace Rows
def none {H : Type} : Left H := { results := [], args := [] }

/-- 'bocagelaw01.SatSums': WHATEVER THE INPUT: true; the input reads as it did. -/
def satSumsSpec : ChangeSpec := { name := "satSums", fn := fun _ => fun
  | [d1, d2] => { results := [.lit (.bool true)], args := [d1, d2] }
  | _ => none }
def satSumsRow : OpenClaim := { program := "ytcgpgbhhlepefaa", sum := "dc295025a0f9d5f8bc7f0badcc5833b7f3925fbacb08aa7567640e3b473518e1", func := "bocage/bocagelaw01.SatSums", spec := "satSums", unfollowed := true, recurses := true, apart := false }
def SatSumsSaid : Prop := satSumsRow.holds Try.pinned (OpenSpec.ofChange satSumsSpec)

/-- ITS FALSE NEIGHBOUR: 'it returns false'. Refute it at one input. -/
def satSumsWrong : ChangeSpec := { name := "satSums", fn := fun _ => fun
  | [d1, d2] => { results := [.lit (.bool false)], args := [d1, d2] }
  | _ => none }
def SatSumsWrongFalsely : Prop := satSumsRow.holds Try.pinned (OpenSpec.ofChange satSumsWrong)

/-- 'bocagelaw01.SatCeils': WHATEVER THE INPUT: true; the input reads as it did. -/
def satCeilsSpec : ChangeSpec := { name := "satCeils", fn := fun _ => fun
  | [d1, d2] => { results := [.lit (.bool true)], args := [d1, d2] }
  | _ => none }
def satCeilsRow : OpenClaim := { program := "ytcgpgbhhlepefaa", sum := "dc295025a0f9d5f8bc7f0badcc5833b7f3925fbacb08aa7567640e3b473518e1", func := "bocage/bocagelaw01.SatCeils", spec := "satCeils", unfollowed := true, recurses := true, apart := false }
def SatCeilsSaid : Prop := satCeilsRow.holds Try.pinned (OpenSpec.ofChange satCeilsSpec)

/-- ITS FALSE NEIGHBOUR: 'it returns false'. Refute it at one input. -/
def satCeilsWrong : ChangeSpec := { name := "satCeils", fn := fun _ => fun
  | [d1, d2] => { results := [.lit (.bool false)], args := [d1, d2] }
  | _ => none }
def SatCeilsWrongFalsely : Prop := satCeilsRow.holds Try.pinned (OpenSpec.ofChange satCeilsWrong)

/-- 'bocagelaw01.SatOrder': WHATEVER THE INPUT: true; the input reads as it did. -/
def satOrderSpec : ChangeSpec := { name := "satOrder", fn := fun _ => fun
  | [d1, d2, d3] => { results := [.lit (.bool true)], args := [d1, d2, d3] }
  | _ => none }
def satOrderRow : OpenClaim := { program := "ytcgpgbhhlepefaa", sum := "dc295025a0f9d5f8bc7f0badcc5833b7f3925fbacb08aa7567640e3b473518e1", func := "bocage/bocagelaw01.SatOrder", spec := "satOrder", unfollowed := true, recurses := true, apart := false }
def SatOrderSaid : Prop := satOrderRow.holds Try.pinned (OpenSpec.ofChange satOrderSpec)

/-- ITS FALSE NEIGHBOUR: 'it returns false'. Refute it at one input. -/
def satOrderWrong : ChangeSpec := { name := "satOrder", fn := fun _ => fun
  | [d1, d2, d3] => { results := [.lit (.bool false)], args := [d1, d2, d3] }
  | _ => none }
def SatOrderWrongFalsely : Prop := satOrderRow.holds Try.pinned (OpenSpec.ofChange satOrderWrong)

/-- 'bocagelaw01.SatDigits': WHATEVER THE INPUT: true; the input reads as it did. -/
def satDigitsSpec : ChangeSpec := { name := "satDigits", fn := fun _ => fun
  | [d] => { results := [.lit (.bool true)], args := [d] }
  | _ => none }
def satDigitsRow : OpenClaim := { program := "ytcgpgbhhlepefaa", sum := "dc295025a0f9d5f8bc7f0badcc5833b7f3925fbacb08aa7567640e3b473518e1", func := "bocage/bocagelaw01.SatDigits", spec := "satDigits", unfollowed := true, recurses := true, apart := false }
def SatDigitsSaid : Prop := satDigitsRow.holds Try.pinned (OpenSpec.ofChange satDigitsSpec)

/-- ITS FALSE NEIGHBOUR: 'it returns false'. Refute it at one input. -/
def satDigitsWrong : ChangeSpec := { name := "satDigits", fn := fun _ => fun
  | [d] => { results := [.lit (.bool false)], args := [d] }
  | _ => none }
def SatDigitsWrongFalsely : Prop := satDigitsRow.holds Try.pinned (OpenSpec.ofChange satDigitsWrong)

/-- 'bocagelaw01.SatTexts': WHATEVER THE INPUT: true; the input reads as it did. -/
def satTextsSpec : ChangeSpec := { name := "satTexts", fn := fun _ => fun
  | [d1, d2] => { results := [.lit (.bool true)], args := [d1, d2] }
  | _ => none }
def satTextsRow : OpenClaim := { program := "ytcgpgbhhlepefaa", sum := "dc295025a0f9d5f8bc7f0badcc5833b7f3925fbacb08aa7567640e3b473518e1", func := "bocage/bocagelaw01.SatTexts", spec := "satTexts", unfollowed := true, recurses := true, apart := false }
def SatTextsSaid : Prop := satTextsRow.holds Try.pinned (OpenSpec.ofChange satTextsSpec)

/-- ITS FALSE NEIGHBOUR: 'it returns false'. Refute it at one input. -/
def satTextsWrong : ChangeSpec := { name := "satTexts", fn := fun _ => fun
  | [d1, d2] => { results := [.lit (.bool false)], args := [d1, d2] }
  | _ => none }
def SatTextsWrongFalsely : Prop := satTextsRow.holds Try.pinned (OpenSpec.ofChange satTextsWrong)

/-- 'bocagelaw01.SatBack': WHATEVER THE INPUT: true; the input reads as it did. -/
def satBackSpec : ChangeSpec := { name := "satBack", fn := fun _ => fun
  | [d1, d2] => { results := [.lit (.bool true)], args := [d1, d2] }
  | _ => none }
def satBackRow : OpenClaim := { program := "ytcgpgbhhlepefaa", sum := "dc295025a0f9d5f8bc7f0badcc5833b7f3925fbacb08aa7567640e3b473518e1", func := "bocage/bocagelaw01.SatBack", spec := "satBack", unfollowed := true, recurses := true, apart := false }
def SatBackSaid : Prop := satBackRow.holds Try.pinned (OpenSpec.ofChange satBackSpec)

/-- ITS FALSE NEIGHBOUR: 'it returns false'. Refute it at one input. -/
def satBackWrong : ChangeSpec := { name := "satBack", fn := fun _ => fun
  | [d1, d2] => { results := [.lit (.bool false)], args := [d1, d2] }
  | _ => none }
def SatBackWrongFalsely : Prop := satBackRow.holds Try.pinned (OpenSpec.ofChange satBackWrong)

/-- 'bocagelaw01.SatRows': WHATEVER THE INPUT: true; the input reads as it did. -/
def satRowsSpec : ChangeSpec := { name := "satRows", fn := fun _ => fun
  | [d1, d2] => { results := [.lit (.bool true)], args := [d1, d2] }
  | _ => none }
def satRowsRow : OpenClaim := { program := "ytcgpgbhhlepefaa", sum := "dc295025a0f9d5f8bc7f0badcc5833b7f3925fbacb08aa7567640e3b473518e1", func := "bocage/bocagelaw01.SatRows", spec := "satRows", unfollowed := true, recurses := true, apart := false }
def SatRowsSaid : Prop := satRowsRow.holds Try.pinned (OpenSpec.ofChange satRowsSpec)

/-- ITS FALSE NEIGHBOUR: 'it returns false'. Refute it at one input. -/
def satRowsWrong : ChangeSpec := { name := "satRows", fn := fun _ => fun
  | [d1, d2] => { results := [.lit (.bool false)], args := [d1, d2] }
  | _ => none }
def SatRowsWrongFalsely : Prop := satRowsRow.holds Try.pinned (OpenSpec.ofChange satRowsWrong)

/- THE SECOND FORM. 'bulk': how many values and letters a reading holds, each counted each time it is reached (what is shared counts as often as it is met; a slice's spare places count too). A statement '..UptoSaid' is the law's where the arguments, and the package variables that the reading takes, are together of bulk at most 1048576: NARROWER than '..Said'. Prove '..Said' where nothing that the law and all that it calls make is longer than what came in: it says more and counts as full. Else prove '..UptoSaid'. A law counts once. -/
mutual
def uptoBulk {H : Type} : DataW H → Nat
  | .lit (.string bytes) => bytes.length + 1
  | .lit _ => 1
  | .nil => 1
  | .ptr d => uptoBulk d + 1
  | .slice elems spare => uptoBulkAll elems + uptoBulkAll spare + 1
  | .agg parts => uptoBulkAll parts + 1
  | .iface _ d => uptoBulk d + 1
  | .map entries => uptoBulkEntries entries + 1
  | .held _ => 1
def uptoBulkAll {H : Type} : List (DataW H) → Nat
  | [] => 0
  | d :: r => uptoBulk d + uptoBulkAll r
def uptoBulkEntries {H : Type} : List (Lit × DataW H) → Nat
  | [] => 0
  | x :: r => uptoBulkEntry x + uptoBulkEntries r
def uptoBulkEntry {H : Type} : Lit × DataW H → Nat
  | (.string bytes, d) => bytes.length + uptoBulk d + 1
  | (_, d) => uptoBulk d + 1
 end
def uptoSmall : (H : Type) → List (DataW H) → Bool := fun _ ds => decide (uptoBulkAll ds ≤ 1048576)
def OpenSpec.upto (s : _root_.Go.ChangeSpec) : _root_.Go.OpenSpec := { _root_.Go.OpenSpec.ofChange s with cond := some uptoSmall }

/-- 'bocagelaw01.SatSums', WHERE WHAT IT READS IS OF BULK AT MOST 1048576: true; the input reads as it did. -/
def satSumsUptoRow : OpenClaim := { program := "ytcgpgbhhlepefaa", sum := "dc295025a0f9d5f8bc7f0badcc5833b7f3925fbacb08aa7567640e3b473518e1", func := "bocage/bocagelaw01.SatSums", spec := "satSums", unfollowed := true, recurses := true, apart := false, narrowed := true }
def SatSumsUptoSaid : Prop := satSumsUptoRow.holds Try.pinned (OpenSpec.upto satSumsSpec)

/-- 'bocagelaw01.SatCeils', WHERE WHAT IT READS IS OF BULK AT MOST 1048576: true; the input reads as it did. -/
def satCeilsUptoRow : OpenClaim := { program := "ytcgpgbhhlepefaa", sum := "dc295025a0f9d5f8bc7f0badcc5833b7f3925fbacb08aa7567640e3b473518e1", func := "bocage/bocagelaw01.SatCeils", spec := "satCeils", unfollowed := true, recurses := true, apart := false, narrowed := true }
def SatCeilsUptoSaid : Prop := satCeilsUptoRow.holds Try.pinned (OpenSpec.upto satCeilsSpec)

/-- 'bocagelaw01.SatOrder', WHERE WHAT IT READS IS OF BULK AT MOST 1048576: true; the input reads as it did. -/
def satOrderUptoRow : OpenClaim := { program := "ytcgpgbhhlepefaa", sum := "dc295025a0f9d5f8bc7f0badcc5833b7f3925fbacb08aa7567640e3b473518e1", func := "bocage/bocagelaw01.SatOrder", spec := "satOrder", unfollowed := true, recurses := true, apart := false, narrowed := true }
def SatOrderUptoSaid : Prop := satOrderUptoRow.holds Try.pinned (OpenSpec.upto satOrderSpec)

/-- 'bocagelaw01.SatDigits', WHERE WHAT IT READS IS OF BULK AT MOST 1048576: true; the input reads as it did. -/
def satDigitsUptoRow : OpenClaim := { program := "ytcgpgbhhlepefaa", sum := "dc295025a0f9d5f8bc7f0badcc5833b7f3925fbacb08aa7567640e3b473518e1", func := "bocage/bocagelaw01.SatDigits", spec := "satDigits", unfollowed := true, recurses := true, apart := false, narrowed := true }
def SatDigitsUptoSaid : Prop := satDigitsUptoRow.holds Try.pinned (OpenSpec.upto satDigitsSpec)

/-- 'bocagelaw01.SatTexts', WHERE WHAT IT READS IS OF BULK AT MOST 1048576: true; the input reads as it did. -/
def satTextsUptoRow : OpenClaim := { program := "ytcgpgbhhlepefaa", sum := "dc295025a0f9d5f8bc7f0badcc5833b7f3925fbacb08aa7567640e3b473518e1", func := "bocage/bocagelaw01.SatTexts", spec := "satTexts", unfollowed := true, recurses := true, apart := false, narrowed := true }
def SatTextsUptoSaid : Prop := satTextsUptoRow.holds Try.pinned (OpenSpec.upto satTextsSpec)

/-- 'bocagelaw01.SatBack', WHERE WHAT IT READS IS OF BULK AT MOST 1048576: true; the input reads as it did. -/
def satBackUptoRow : OpenClaim := { program := "ytcgpgbhhlepefaa", sum := "dc295025a0f9d5f8bc7f0badcc5833b7f3925fbacb08aa7567640e3b473518e1", func := "bocage/bocagelaw01.SatBack", spec := "satBack", unfollowed := true, recurses := true, apart := false, narrowed := true }
def SatBackUptoSaid : Prop := satBackUptoRow.holds Try.pinned (OpenSpec.upto satBackSpec)

/-- 'bocagelaw01.SatRows', WHERE WHAT IT READS IS OF BULK AT MOST 1048576: true; the input reads as it did. -/
def satRowsUptoRow : OpenClaim := { program := "ytcgpgbhhlepefaa", sum := "dc295025a0f9d5f8bc7f0badcc5833b7f3925fbacb08aa7567640e3b473518e1", func := "bocage/bocagelaw01.SatRows", spec := "satRows", unfollowed := true, recurses := true, apart := false, narrowed := true }
def SatRowsUptoSaid : Prop := satRowsUptoRow.holds Try.pinned (OpenSpec.upto satRowsSpec)

end Rows
end Go.Proofs.Ytcgpgbhhlepefaa

import Derived.Test.YtagcloidicnhhaaPrint0
namespace Go.Proofs.Ytagcloidicnhhaa.Print
open Go.RowKit Go.Proofs.YtagcloidicnhhaaW.PrintWords Go.Proofs.YtagcloidicnhhaaW.PrintLast
set_option linter.unusedVariables false
set_option linter.unusedSimpArgs false
/-- a number of 64 bits -/
def I64 (x : Int) : Prop := -9223372036854775808 ≤ x ∧ x ≤ 9223372036854775807
/-- the number, or the end beyond which it is -/
def clamp (x : Int) : Int := if x < -9223372036854775808 then -9223372036854775808 else if x > 9223372036854775807 then 9223372036854775807 else x
theorem I64.of_wf {x : Int} (h : (Lit.int .i64 x).wf = true) : I64 x := by
  simpa [Lit.wf, IntKind.min, IntKind.max, IntKind.bits, IntKind.signed, I64] using h
theorem clamp_I64 (x : Int) : I64 (clamp x) := by unfold clamp I64; split <;> (try split) <;> omega
theorem clamp_of {x : Int} (h : I64 x) : clamp x = x := by unfold clamp; unfold I64 at h; rw [if_neg (by omega), if_neg (by omega)]
theorem clamp_mono {x y : Int} (h : x ≤ y) : clamp x ≤ clamp y := by unfold clamp; split <;> split <;> (try split) <;> (try split) <;> omega
theorem wrap64_of {x : Int} (h : I64 x) : wrap64 x = x := by unfold I64 at h; unfold wrap64; omega

end Go.Proofs.Ytagcloidicnhhaa.Print

import Derived.Test.YtagcloidicnhhaaPrint2
namespace Go.Proofs.Ytagcloidicnhhaa.Print
open Go.RowKit Go.Proofs.YtagcloidicnhhaaW.PrintWords Go.Proofs.YtagcloidicnhhaaW.PrintLast
set_option linter.unusedVariables false
set_option linter.unusedSimpArgs false
theorem bocagelaw13_alive.ge (k : Nat) (hk : 30 ≤ k) : bocagelaw13_alive.f k = some true := at_rounds (g := fun k => bocagelaw13_alive.f k) bocagelaw13_alive.mono hk (by decide +kernel)

end Go.Proofs.Ytagcloidicnhhaa.Print

import Derived.Test.YtihhagfdfhojnaaPrint11
namespace Go.Proofs.Ytihhagfdfhojnaa.Print
open Go.RowKit Go.Proofs.YtihhagfdfhojnaaW.PrintWords Go.Proofs.YtihhagfdfhojnaaW.PrintLast
set_option linter.unusedVariables false
set_option linter.unusedSimpArgs false
theorem bocagelaw02_alive.ge (k : Nat) (hk : 100 ≤ k) : bocagelaw02_alive.f k = some true := at_rounds (g := fun k => bocagelaw02_alive.f k) bocagelaw02_alive.mono hk (by decide +kernel)

end Go.Proofs.Ytihhagfdfhojnaa.Print

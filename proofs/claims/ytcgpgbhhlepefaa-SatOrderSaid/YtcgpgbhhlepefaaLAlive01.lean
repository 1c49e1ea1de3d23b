import Derived.Test.YtcgpgbhhlepefaaPrint3
namespace Go.Proofs.Ytcgpgbhhlepefaa.Print
open Go.RowKit Go.Proofs.YtcgpgbhhlepefaaW.PrintWords Go.Proofs.YtcgpgbhhlepefaaW.PrintLast
set_option linter.unusedVariables false
set_option linter.unusedSimpArgs false
theorem bocagelaw01_alive.true_ : ∃ k, bocagelaw01_alive.f k = some true := ⟨60, by decide +kernel⟩

end Go.Proofs.Ytcgpgbhhlepefaa.Print

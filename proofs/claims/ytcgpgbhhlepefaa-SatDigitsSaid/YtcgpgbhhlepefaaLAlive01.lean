import Derived.Test.YtcgpgbhhlepefaaPrint3
namespace Go.Proofs.Ytcgpgbhhlepefaa.Print
open Go.RowKit Go.Proofs.YtcgpgbhhlepefaaW.PrintWords Go.Proofs.YtcgpgbhhlepefaaW.PrintLast
set_option linter.unusedVariables false
set_option linter.unusedSimpArgs false
theorem bocagelaw01_alive.ge (k : Nat) (hk : 60 ≤ k) : bocagelaw01_alive.f k = some true := at_rounds (g := fun k => bocagelaw01_alive.f k) bocagelaw01_alive.mono hk (by decide +kernel)
theorem bocagelaw01_alive.true_ : ∃ k, bocagelaw01_alive.f k = some true := ⟨60, bocagelaw01_alive.ge 60 (Nat.le_refl _)⟩

end Go.Proofs.Ytcgpgbhhlepefaa.Print

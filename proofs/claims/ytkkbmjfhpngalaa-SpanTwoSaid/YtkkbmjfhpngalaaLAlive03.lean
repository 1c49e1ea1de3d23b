import Derived.Test.YtkkbmjfhpngalaaPrint3
namespace Go.Proofs.Ytkkbmjfhpngalaa.Print
open Go.RowKit Go.Proofs.YtkkbmjfhpngalaaW.PrintWords Go.Proofs.YtkkbmjfhpngalaaW.PrintLast
set_option linter.unusedVariables false
set_option linter.unusedSimpArgs false
theorem bocagelaw03_alive.ge (k : Nat) (hk : 100 ≤ k) : bocagelaw03_alive.f k = some true := at_rounds (g := fun k => bocagelaw03_alive.f k) bocagelaw03_alive.mono hk (by decide +kernel)
theorem bocagelaw03_alive.ev : Ev (fun k => bocagelaw03_alive.f k) true := ⟨100, fun k hk => bocagelaw03_alive.ge k hk⟩

end Go.Proofs.Ytkkbmjfhpngalaa.Print

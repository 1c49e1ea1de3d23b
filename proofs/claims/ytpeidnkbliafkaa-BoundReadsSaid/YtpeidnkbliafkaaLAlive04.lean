import Derived.Test.YtpeidnkbliafkaaPrint4
namespace Go.Proofs.Ytpeidnkbliafkaa.Print
open Go.RowKit Go.Proofs.YtpeidnkbliafkaaW.PrintWords Go.Proofs.YtpeidnkbliafkaaW.PrintLast
set_option linter.unusedVariables false
set_option linter.unusedSimpArgs false
theorem bocagelaw04_alive.ge (k : Nat) (hk : 100 ≤ k) : bocagelaw04_alive.f k = some true := at_rounds (g := fun k => bocagelaw04_alive.f k) bocagelaw04_alive.mono hk (by decide +kernel)
theorem bocagelaw04_alive.ev : Ev (fun k => bocagelaw04_alive.f k) true := ⟨100, fun k hk => bocagelaw04_alive.ge k hk⟩

end Go.Proofs.Ytpeidnkbliafkaa.Print

/- Any number's text, and what any text says, or begins with, is what the document says (law01 SatTexts), for every number and text; no conditions. -/
import Derived.Test.YtcgpgbhhlepefaaPrint3
import Derived.Test.YtcgpgbhhlepefaaPrint8
import Derived.Test.YtcgpgbhhlepefaaLSat
import Derived.Test.YtcgpgbhhlepefaaLBig
import Derived.Test.YtcgpgbhhlepefaaLAlive01
import Derived.Test.YtcgpgbhhlepefaaLText
import Derived.Test.YtcgpgbhhlepefaaLRead
namespace Go.Proofs.Ytcgpgbhhlepefaa.Pure
open Go.RowKit Go.Proofs.Ytcgpgbhhlepefaa.Print Go.Proofs.YtcgpgbhhlepefaaW.PrintWords Go.Proofs.YtcgpgbhhlepefaaW.PrintLast
set_option linter.unusedVariables false
set_option linter.unusedSimpArgs false
theorem SatTexts : bocagelaw01_SatTexts.Pure := by
  intro n s hn hs
  have hn := I64.of_wf hn
  refine ⟨20000, ?_⟩
  unfold bocagelaw01_SatTexts.f
  by_cases h : (s.size : Int) > 10000
  · rw [if_pos h, bocagelaw01_alive.ge 20000 (by omega)]; rfl
  · rw [if_neg h]
    obtain ⟨m, hl, hr⟩ := sat_Read.eq hs 20000 (by omega)
    rw [sat_Parse.eq hl hs 20000 hr, Option.bind_some, bocageref01_Parse.eq (by omega) 20000 (by omega), Option.bind_some, hr, Option.bind_some, bocageref01_Read.eq hl hs 20000 (by omega), Option.bind_some,
      bocagelaw01_alive.ge 20000 (by omega), Option.bind_some, if_pos rfl, sat_Text.eq hn, Option.bind_some, bocageref01_Text.eq hn 20000 (by omega), Option.bind_some, if_pos rfl, if_pos rfl, if_pos rfl, if_pos rfl]
    simp

end Go.Proofs.Ytcgpgbhhlepefaa.Pure

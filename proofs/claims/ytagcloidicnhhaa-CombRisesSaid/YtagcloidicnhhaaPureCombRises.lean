/- By Add, Sub, Min and Max a number that is not less becomes one that is not less, whatever comes (law13 CombRises), for every kind and 64-bit numbers; no conditions. -/
import Derived.Test.YtagcloidicnhhaaRCombRises
import Derived.Test.YtagcloidicnhhaaLComb
import Derived.Test.YtagcloidicnhhaaLAlive13
namespace Go.Proofs.Ytagcloidicnhhaa.Pure
open Go.RowKit Go.Proofs.Ytagcloidicnhhaa.Print Go.Proofs.YtagcloidicnhhaaW.PrintWords Go.Proofs.YtagcloidicnhhaaW.PrintLast
set_option linter.unusedVariables false
set_option linter.unusedSimpArgs false
theorem CombRises : bocagelaw13_CombRises.Pure := by
  intro kind a b v hk ha hb hv
  have ha := I64.of_wf ha
  have hb := I64.of_wf hb
  have hv := I64.of_wf hv
  refine ⟨30, doOf kind a v, doOf kind b v, bocagelaw13_alive.ge 30 (by omega), comb_Do.eq kind ha hv, comb_Do.eq kind hb hv, fun h => ⟨?_, ?_, ?_⟩⟩
  · unfold doOf
    by_cases h1 : kind = 1
    · rw [if_pos h1, if_pos h1]; exact clamp_mono (by omega)
    · rw [if_neg h1, if_neg h1]
      by_cases h2 : kind = 2
      · rw [if_pos h2, if_pos h2]; exact clamp_mono (by omega)
      · rw [if_neg h2, if_neg h2]
        repeat' split
        all_goals omega
  · rintro rfl
    show (if v < a then v else a) ≤ v
    split <;> omega
  · rintro rfl
    show v ≤ (if a < v then v else a)
    split <;> omega

end Go.Proofs.Ytagcloidicnhhaa.Pure

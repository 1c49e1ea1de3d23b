/- Any text is the name that the document says, or none's (law13 CombNames), for every text; no conditions. -/
import Derived.Test.YtagcloidicnhhaaPrint2
import Derived.Test.YtagcloidicnhhaaLComb
import Derived.Test.YtagcloidicnhhaaLAlive13
namespace Go.Proofs.Ytagcloidicnhhaa.Pure
open Go.RowKit Go.Proofs.Ytagcloidicnhhaa.Print Go.Proofs.YtagcloidicnhhaaW.PrintWords Go.Proofs.YtagcloidicnhhaaW.PrintLast
set_option linter.unusedVariables false
set_option linter.unusedSimpArgs false
theorem CombNames : bocagelaw13_CombNames.Pure := by
  intro s hs
  refine ⟨100, ?_⟩
  unfold bocagelaw13_CombNames.f
  rw [comb_Find.eq, Option.bind_some, bocagelaw13_alive.ge 100 (by omega), Option.bind_some, if_pos rfl, bocageref13_Find.eq s 100 (by omega), Option.bind_some, if_pos rfl]
  obtain ⟨t, e1, e2⟩ := comb_Name.eq (findOf s)
  by_cases h : findOf s = 0
  · rw [if_pos h]
  · rw [if_neg h, e1, Option.bind_some, e2, (findOf_name s).resolve_left h]; simp

end Go.Proofs.Ytagcloidicnhhaa.Pure

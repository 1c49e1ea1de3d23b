/- What any number becomes by any kind, and where there is nothing, and names, are what the document says (law13 CombAll), for every kind and 64-bit numbers; no conditions. -/
import Derived.Test.YtagcloidicnhhaaPrint6
import Derived.Test.YtagcloidicnhhaaLComb
import Derived.Test.YtagcloidicnhhaaLAlive13
namespace Go.Proofs.Ytagcloidicnhhaa.Pure
open Go.RowKit Go.Proofs.Ytagcloidicnhhaa.Print Go.Proofs.YtagcloidicnhhaaW.PrintWords Go.Proofs.YtagcloidicnhhaaW.PrintLast
set_option linter.unusedVariables false
set_option linter.unusedSimpArgs false
theorem CombAll : bocagelaw13_CombAll.Pure := by
  intro kind old v hk ho hv
  have ho := I64.of_wf ho
  have hv := I64.of_wf hv
  refine ⟨301, ?_⟩
  unfold bocagelaw13_CombAll.f
  rw [comb_Same.eq kind 301 (by omega), Option.bind_some, bocageref13_Same.eq, Option.bind_some, comb_Do.eq kind ho hv, Option.bind_some, bocageref13_Do.eq kind ho hv 301 (by omega), Option.bind_some, if_pos rfl,
    comb_First.eq kind hv, Option.bind_some, bocageref13_First.eq kind hv 301 (by omega), Option.bind_some, if_pos rfl, if_pos rfl, bne_self_eq_false, bocagelaw13_CombAll.j0, if_neg Bool.false_ne_true, bocagelaw13_alive.ge 300 (by omega), Option.bind_some, if_pos rfl]
  obtain ⟨s, s1, s2⟩ := comb_Name.eq kind
  obtain ⟨t, t1, t2⟩ := bocageref13_Name.eq kind
  have hf : findOf s = findOf t := by unfold findOf; rw [s2, t2]
  have hc : comb_Commutes.f kind = some (decide (kind = 3 ∨ kind = 4)) := by
    unfold comb_Commutes.f
    by_cases h3 : kind = 3
    · subst h3; rfl
    · rw [if_neg h3]
      by_cases h4 : kind = 4
      · subst h4; rfl
      · rw [show (kind == 4) = false from beq_eq_false_iff_ne.2 h4, decide_eq_false (by omega)]
  have tail : (if kind = 3 then (some (decide (kind = 3 ∨ kind = 4) == true)) else (some (decide (kind = 3 ∨ kind = 4) == (kind == 4)))) = some true := by
    by_cases h3 : kind = 3
    · subst h3; rfl
    · rw [if_neg h3]
      by_cases h4 : kind = 4
      · subst h4; rfl
      · rw [show (kind == 4) = false from beq_eq_false_iff_ne.2 h4, decide_eq_false (by omega)]; rfl
  rw [s1, Option.bind_some, t1, Option.bind_some, if_pos (by rw [s2, t2])]
  by_cases h1 : kind ≥ 1
  · rw [show comb_Right.f kind = some (decide (kind ≤ 6)) by unfold comb_Right.f; rw [if_pos h1], Option.bind_some, if_pos h1, beq_self_eq_true, if_pos rfl, Option.bind_some, comb_Find.eq, Option.bind_some, Option.bind_some, bocageref13_Find.eq t 300 (by omega), Option.bind_some, if_pos hf, hc, Option.bind_some]
    exact tail
  · rw [show comb_Right.f kind = some false by unfold comb_Right.f; rw [if_neg h1], Option.bind_some, if_neg h1, beq_self_eq_true, if_pos rfl, Option.bind_some, comb_Find.eq, Option.bind_some, Option.bind_some, bocageref13_Find.eq t 300 (by omega), Option.bind_some, if_pos hf, hc, Option.bind_some]
    exact tail

end Go.Proofs.Ytagcloidicnhhaa.Pure

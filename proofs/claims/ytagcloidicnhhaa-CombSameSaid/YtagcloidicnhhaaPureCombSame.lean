/- What changes nothing changes nothing; a number that came already changes nothing more, by Min and Max (law13 CombSame), for every kind and 64-bit numbers; no conditions. -/
import Derived.Test.YtagcloidicnhhaaPrint2
import Derived.Test.YtagcloidicnhhaaLComb
import Derived.Test.YtagcloidicnhhaaLAlive13
namespace Go.Proofs.Ytagcloidicnhhaa.Pure
open Go.RowKit Go.Proofs.Ytagcloidicnhhaa.Print Go.Proofs.YtagcloidicnhhaaW.PrintWords Go.Proofs.YtagcloidicnhhaaW.PrintLast
set_option linter.unusedVariables false
set_option linter.unusedSimpArgs false
theorem CombSame : bocagelaw13_CombSame.Pure := by
  intro kind old v hk ho hv
  have ho := I64.of_wf ho
  have hv := I64.of_wf hv
  refine ⟨101, ?_⟩
  have hd := doOf_I64 kind ho hv
  have fin : bocagelaw13_CombSame.j0 101 kind old v (sameOf kind).2 false = some true := by
    rw [bocagelaw13_CombSame.j0, if_neg Bool.false_ne_true, comb_Do.eq kind ho hv, Option.bind_some, comb_Do.eq kind hd hv, Option.bind_some, bocagelaw13_alive.ge 100 (by omega), Option.bind_some, if_pos rfl]
    have hs : (if (sameOf kind).2 = true then (some true) else (if kind < 1 then (some true) else (some (decide (kind > 4))))) = some true := by
      unfold sameOf
      by_cases h3 : kind = 3
      · rw [if_pos h3]; rfl
      · rw [if_neg h3]
        by_cases h4 : kind = 4
        · rw [if_pos h4]; rfl
        · rw [if_neg h4]
          by_cases h5 : kind = 1 ∨ kind = 2
          · rw [if_pos (decide_eq_true h5)]
          · simp only [decide_eq_false h5, Bool.false_eq_true, if_false]
            by_cases h6 : kind < 1
            · rw [if_pos h6]
            · rw [if_neg h6, decide_eq_true (by omega)]
    by_cases h1 : kind = 1
    · rw [if_pos h1]; exact hs
    · rw [if_neg h1]
      by_cases h2 : kind = 2
      · rw [if_pos h2]; exact hs
      · rw [if_neg h2, if_pos]
        · exact hs
        · unfold doOf
          simp only [if_neg h1, if_neg h2]
          by_cases h3 : kind = 3
          · simp only [if_pos h3]
            by_cases h : v < old
            · simp only [if_pos h, if_neg (show ¬ v < v by omega)]
            · simp only [if_neg h]
          · simp only [if_neg h3]
            by_cases h4 : kind = 4
            · simp only [if_pos h4]
              by_cases h : old < v
              · simp only [if_pos h, if_neg (show ¬ v < v by omega)]
              · simp only [if_neg h]
            · simp only [if_neg h4]
              by_cases h5 : kind = 5
              · simp only [if_pos h5]
              · simp only [if_neg h5]
  unfold bocagelaw13_CombSame.f
  rw [comb_Same.eq kind 101 (by omega), Option.bind_some]
  by_cases hs : (sameOf kind).2 = true
  · have hn : I64 (sameOf kind).1 := by unfold sameOf I64; repeat' split
                                        all_goals omega
    rw [if_pos hs, comb_Do.eq kind ho hn, Option.bind_some]
    have : doOf kind old (sameOf kind).1 = old := by
      unfold I64 at ho
      unfold sameOf at hs ⊢
      by_cases h3 : kind = 3
      · subst h3; show (if (9223372036854775807 : Int) < old then 9223372036854775807 else old) = old; split <;> omega
      · rw [if_neg h3] at hs ⊢
        by_cases h4 : kind = 4
        · subst h4; show (if old < (-9223372036854775808 : Int) then -9223372036854775808 else old) = old; split <;> omega
        · rw [if_neg h4] at hs ⊢
          have h12 : kind = 1 ∨ kind = 2 := of_decide_eq_true hs
          rcases h12 with rfl | rfl
          · simp only [doOf, if_true, Int.add_zero]; exact clamp_of ho
          · show clamp (old - 0) = old; rw [Int.sub_zero]; exact clamp_of ho
    rw [this, bne_self_eq_false]
    exact fin
  · rw [if_neg hs]; exact fin

end Go.Proofs.Ytagcloidicnhhaa.Pure

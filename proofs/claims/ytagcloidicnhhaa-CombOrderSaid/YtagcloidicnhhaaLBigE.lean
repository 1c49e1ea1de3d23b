import Derived.Test.YtagcloidicnhhaaPrint2
import Derived.Test.YtagcloidicnhhaaLBigP
namespace Go.Proofs.Ytagcloidicnhhaa.Print
open Go.RowKit Go.Proofs.YtagcloidicnhhaaW.PrintWords Go.Proofs.YtagcloidicnhhaaW.PrintLast
set_option linter.unusedVariables false
set_option linter.unusedSimpArgs false
theorem bocageref01_ends.eq (s : Int) : ∃ d, bocageref01_ends.f s = some d ∧ DOK d ∧ d.length = 19 ∧ dv d = if s < 0 then 9223372036854775808 else 9223372036854775807 := by
  unfold bocageref01_ends.f
  simp only [Option.bind_some]
  by_cases h : s < 0
  · rw [if_pos h, if_pos h, if_pos (by decide)]
    exact ⟨_, rfl, by intro e he; revert e; decide, by decide, by decide⟩
  · rw [if_neg h, if_neg h]
    exact ⟨_, rfl, by intro e he; revert e; decide, by decide, by decide⟩
theorem bocageref01_Is.eq {s v : Int} {d : List Int} (h : Big s d v) (k : Nat) (hk : d.length + 25 ≤ k) (hl : d.length ≤ 2000000) : bocageref01_Is.f k s d = some (decide (-9223372036854775808 ≤ v ∧ v ≤ 9223372036854775807)) := by
  unfold bocageref01_Is.f
  obtain ⟨e, e1, e2, e3, e4⟩ := bocageref01_ends.eq s
  rw [e1, Option.bind_some, bocageref01_more.eq h.ok e2 k (by omega) (by omega), Option.bind_some, e4]
  have hp := h.pos
  have hn := dv_nonneg h.ok
  congr 1
  rw [Bool.eq_iff_iff]
  simp only [Bool.not_eq_true', decide_eq_false_iff_not, decide_eq_true_eq]
  rcases h.val with ⟨rfl, rfl, rfl⟩ | ⟨rfl, _, rfl⟩ | ⟨rfl, _, rfl⟩
  · simp [dv]
  · rw [if_neg (by omega)]; omega
  · rw [if_pos (by omega)]; omega

end Go.Proofs.Ytagcloidicnhhaa.Print

/- What is added to a number that is not less is not less; an end stays one (law01 SatOrder), for all 64-bit numbers; no conditions. -/
import Derived.Test.YtcgpgbhhlepefaaPrint3
import Derived.Test.YtcgpgbhhlepefaaPrint6
import Derived.Test.YtcgpgbhhlepefaaLSat
import Derived.Test.YtcgpgbhhlepefaaLAlive01
namespace Go.Proofs.Ytcgpgbhhlepefaa.Pure
open Go.RowKit Go.Proofs.Ytcgpgbhhlepefaa.Print Go.Proofs.YtcgpgbhhlepefaaW.PrintWords Go.Proofs.YtcgpgbhhlepefaaW.PrintLast
set_option linter.unusedVariables false
set_option linter.unusedSimpArgs false
theorem SatOrder : bocagelaw01_SatOrder.Pure := by
  intro a b c ha hb hc
  have ha := I64.of_wf ha
  have hb := I64.of_wf hb
  have hc := I64.of_wf hc
  obtain ⟨k, hk⟩ := bocagelaw01_alive.true_
  refine ⟨k, ?_⟩
  unfold bocagelaw01_SatOrder.f
  simp only [hk, Option.bind_some, if_true]
  by_cases h : a > b
  · rw [if_pos h]
  · rw [if_neg h]
    have hl : I64 (-9223372036854775808) := by unfold I64; omega
    have hg : I64 9223372036854775807 := by unfold I64; omega
    have l1 : clamp (a + c) ≤ clamp (b + c) := clamp_mono (by omega)
    have l2 : clamp (a - c) ≤ clamp (b - c) := clamp_mono (by omega)
    have l3 : clamp (c - a) ≥ clamp (c - b) := clamp_mono (by omega)
    simp only [sat_Add.eq ha hc, sat_Add.eq hb hc, sat_Sub.eq ha hc, sat_Sub.eq hb hc, sat_Sub.eq hc ha, sat_Sub.eq hc hb, sat_Add.eq hl hc, sat_Add.eq hg hc, Option.bind_some, if_pos l1, if_pos l2, if_pos l3]
    unfold I64 at hc
    by_cases h1 : c < 0
    · rw [if_pos h1, if_neg (by omega)]
      have : clamp (-9223372036854775808 + c) = -9223372036854775808 := by unfold clamp; rw [if_pos (by omega)]
      rw [this]; rfl
    · have e1 : clamp (9223372036854775807 + c) = 9223372036854775807 := by unfold clamp; rw [if_neg (by omega)]; split <;> omega
      rw [if_neg h1, if_pos e1]
      by_cases h2 : c > 0
      · rw [if_pos h2]
      · rw [if_neg h2]
        have : clamp (-9223372036854775808 + c) = -9223372036854775808 := by unfold clamp; rw [if_neg (by omega), if_neg (by omega)]; omega
        rw [this]; rfl

end Go.Proofs.Ytcgpgbhhlepefaa.Pure

/- The next multiple of any number is what the document says: a multiple, not below, less than a step away (law01 SatCeils), for all 64-bit numbers; no conditions. -/
import Derived.Test.YtcgpgbhhlepefaaPrint3
import Derived.Test.YtcgpgbhhlepefaaPrint6
import Derived.Test.YtcgpgbhhlepefaaLSat
import Derived.Test.YtcgpgbhhlepefaaLBig
import Derived.Test.YtcgpgbhhlepefaaLAlive01
import Derived.Test.YtcgpgbhhlepefaaLCeil
namespace Go.Proofs.Ytcgpgbhhlepefaa.Pure
open Go.RowKit Go.Proofs.Ytcgpgbhhlepefaa.Print Go.Proofs.YtcgpgbhhlepefaaW.PrintWords Go.Proofs.YtcgpgbhhlepefaaW.PrintLast
set_option linter.unusedVariables false
set_option linter.unusedSimpArgs false
theorem SatCeils : bocagelaw01_SatCeils.Pure := by
  intro n step hn hs
  have hn := I64.of_wf hn
  have hs := I64.of_wf hs
  refine ⟨201, ?_⟩
  unfold bocagelaw01_SatCeils.f
  rw [bocageref01_Ceil.eq hn hs 201 (by omega), sat_Ceil.eq hn hs]
  simp only [Option.bind_some, if_true, bne_self_eq_false]
  rw [bocagelaw01_SatCeils.j0, if_neg (by simp), bocagelaw01_alive.ge 200 (by omega), Option.bind_some, if_pos rfl]
  by_cases h1 : step < 1
  · simp only [ceilOf, if_pos h1]
    rfl
  · by_cases h2 : ceilUp n step ≤ 9223372036854775807
    · simp only [ceilOf, if_neg h1, if_pos h2, if_true]
      obtain ⟨c1, c2, c3, c4⟩ := ceilUp_spec n step (by omega)
      unfold I64 at hn hs
      rw [if_neg (by omega), if_pos (Int.tmod_eq_zero_of_dvd c1), if_pos (by omega), sat_Sub.eq (by unfold I64; omega) hn, clamp_of (by unfold I64; omega), Option.bind_some]
      simp; omega
    · simp only [ceilOf, if_neg h1, if_neg h2]
      rfl

end Go.Proofs.Ytcgpgbhhlepefaa.Pure

/- A number's text is read as it, whatever other sign stands behind (law01 SatBack), for every number and text behind; no conditions. -/
import Derived.Test.YtcgpgbhhlepefaaPrint3
import Derived.Test.YtcgpgbhhlepefaaPrint9
import Derived.Test.YtcgpgbhhlepefaaLSat
import Derived.Test.YtcgpgbhhlepefaaLBig
import Derived.Test.YtcgpgbhhlepefaaLAlive01
import Derived.Test.YtcgpgbhhlepefaaLText
import Derived.Test.YtcgpgbhhlepefaaLRead
import Derived.Test.YtcgpgbhhlepefaaLTextRead
namespace Go.Proofs.Ytcgpgbhhlepefaa.Pure
open Go.RowKit Go.Proofs.Ytcgpgbhhlepefaa.Print Go.Proofs.YtcgpgbhhlepefaaW.PrintWords Go.Proofs.YtcgpgbhhlepefaaW.PrintLast
set_option linter.unusedVariables false
set_option linter.unusedSimpArgs false
theorem SatBack : bocagelaw01_SatBack.Pure := by
  intro n b hn hs
  have hn := I64.of_wf hn
  have htrue : ∀ k, 60 ≤ k → bocagelaw01_SatBack.j0 (k + 1) n b true = some true := by
    intro k hk
    rw [bocagelaw01_SatBack.j0, if_pos rfl, bocagelaw01_alive.ge k hk]; rfl
  have hfalse : ∀ k, 300 ≤ k → b.size ≤ 1000 → ¬ isD b 0 → bocagelaw01_SatBack.j0 (k + 1) n b false = some true := by
    intro k hk hb hd
    have hts := textOf_size hn
    obtain ⟨m, l1, l2, l3, l4⟩ := textOf_read hn b hd
    obtain ⟨m', l1', l2', l3', l4'⟩ := textOf_read hn ByteArray.empty (fun h => by have := h.1; simp at this)
    rw [ByteArray.append_empty] at l1' l2' l3' l4'
    have hsz : (textOf n ++ b).size = (textOf n).size + b.size := ByteArray.size_append ..
    obtain ⟨q, q1, q2⟩ := sat_Read.eq (s := textOf n ++ b) (by omega) k (by omega)
    obtain ⟨q', q1', q2'⟩ := sat_Read.eq (s := textOf n) (by omega) k (by omega)
    have e1 : q = m := by
      have := ParseOK.longest q1 l2
      by_cases h : q ≤ m
      · omega
      · exact absurd (q1.good.le_of (show m + 1 ≤ q by omega)) l1.no
    have e2 : q' = m' := by
      have := ParseOK.longest q1' l2'
      by_cases h : q' ≤ m'
      · omega
      · exact absurd (q1'.good.le_of (show m' + 1 ≤ q' by omega)) l1'.no
    subst e1
    subst e2
    have ep := sat_Parse.eq q1' (by omega) k q2'
    unfold parseOf at ep
    rw [show (textOf n).size - fromOf (textOf n) = q' by omega, if_pos l2', l4'] at ep
    rw [readOf_ok l1 l2, l4, l3] at q2
    rw [bocagelaw01_SatBack.j0, if_neg Bool.false_ne_true, sat_Text.eq hn, Option.bind_some, ep, Option.bind_some, if_pos (by omega), q2, Option.bind_some, bocagelaw01_alive.ge k (by omega), Option.bind_some, if_pos rfl, if_pos rfl, if_pos rfl, if_pos rfl]
    simp
  refine ⟨1000, ?_⟩
  unfold bocagelaw01_SatBack.f
  by_cases h : (b.size : Int) > 1000
  · rw [if_pos h]; exact htrue 999 (by omega)
  · rw [if_neg h]
    by_cases h0 : (b.size : Int) > 0
    · rw [if_pos h0, if_pos (by omega)]
      by_cases h1 : bt b 0 ≥ 48
      · rw [if_pos h1]
        by_cases h2 : bt b 0 ≤ 57
        · rw [decide_eq_true h2]; exact htrue 999 (by omega)
        · rw [decide_eq_false h2]; exact hfalse 999 (by omega) (by omega) (fun hd => h2 hd.2.2)
      · rw [if_neg h1]; exact hfalse 999 (by omega) (by omega) (fun hd => h1 hd.2.1)
    · rw [if_neg h0]; exact hfalse 999 (by omega) (by omega) (fun hd => by have := hd.1; omega)

end Go.Proofs.Ytcgpgbhhlepefaa.Pure

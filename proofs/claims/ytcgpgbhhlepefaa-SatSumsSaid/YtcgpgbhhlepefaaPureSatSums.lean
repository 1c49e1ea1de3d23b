/- Any two numbers, added, and taken away, and a number turned round, are what the document says (law01 SatSums), for all 64-bit numbers; no conditions. -/
import Derived.Test.YtcgpgbhhlepefaaPrint3
import Derived.Test.YtcgpgbhhlepefaaPrint5
import Derived.Test.YtcgpgbhhlepefaaLSat
import Derived.Test.YtcgpgbhhlepefaaLBig
import Derived.Test.YtcgpgbhhlepefaaLAlive01
namespace Go.Proofs.Ytcgpgbhhlepefaa.Pure
open Go.RowKit Go.Proofs.Ytcgpgbhhlepefaa.Print Go.Proofs.YtcgpgbhhlepefaaW.PrintWords Go.Proofs.YtcgpgbhhlepefaaW.PrintLast
set_option linter.unusedVariables false
set_option linter.unusedSimpArgs false
theorem SatSums : bocagelaw01_SatSums.Pure := by
  intro a b ha hb
  have ha := I64.of_wf ha
  have hb := I64.of_wf hb
  refine ⟨200, ?_⟩
  unfold bocagelaw01_SatSums.f
  obtain ⟨s, d, h1, h2, h3⟩ := bocageref01_Of.eq ha 200 (by omega)
  obtain ⟨t, e, g1, g2, g3⟩ := bocageref01_Of.eq hb 200 (by omega)
  obtain ⟨m1, m2⟩ := bocageref01_Minus.eq g2
  obtain ⟨n1, n2⟩ := bocageref01_Minus.eq h2
  obtain ⟨p, q, p1, p2, p3⟩ := bocageref01_Plus.eq h2 g2 200 (by omega) (by omega) (by omega) (by omega)
  obtain ⟨p', q', p1', p2', p3'⟩ := bocageref01_Plus.eq h2 m2 200 (by omega) (by omega) (by omega) (by omega)
  have e1 := bocageref01_End.eq p2 200 (by omega) (by omega)
  have e2 := bocageref01_End.eq p2' 200 (by omega) (by omega)
  have e3 := bocageref01_End.eq n2 200 (by omega) (by omega)
  have l1 : a + -b = a - b := by omega
  simp only [h1, g1, m1, n1, p1, p1', e1, e2, e3, l1, Option.bind_some, bocagelaw01_alive.ge 200 (by omega), if_true, sat_Add.eq ha hb, sat_Sub.eq ha hb, sat_Neg.eq ha, beq_self_eq_true]

end Go.Proofs.Ytcgpgbhhlepefaa.Pure

/- A span is written as the document says, and read as it was, whatever stands behind, loosely, too (law04 BoundTexts), for every span and text behind it; no conditions. -/
import Derived.Test.YtpeidnkbliafkaaPrint4
import Derived.Test.YtpeidnkbliafkaaRBoundTexts
import Derived.Test.YtpeidnkbliafkaaLBndXR
import Derived.Test.YtpeidnkbliafkaaLBndL
import Derived.Test.YtpeidnkbliafkaaLAlive04
namespace Go.Proofs.Ytpeidnkbliafkaa.Pure
open Go.RowKit Go.Proofs.Ytpeidnkbliafkaa.Print Go.Proofs.YtpeidnkbliafkaaW.PrintWords Go.Proofs.YtpeidnkbliafkaaW.PrintLast
set_option linter.unusedVariables false
set_option linter.unusedSimpArgs false
theorem BoundTexts : bocagelaw04_BoundTexts.Pure := by
  intro s a t b beh _ ha _ hb hbs
  have ha := I64.of_wf ha
  have hb := I64.of_wf hb
  refine ⟨3000, ?_⟩
  have hA := bocagelaw04_alive.ge 3000 (by omega)
  unfold bocagelaw04_BoundTexts.f
  by_cases hz : (beh.size : Int) > 1000
  · rw [if_pos hz, hA]; rfl
  rw [if_neg hz, bound_Text.eq ha hb 3000 (by omega), Option.bind_some, bocageref04_Text.eq ha hb 3000 (by omega), Option.bind_some, if_pos rfl, bocageref03_Right.eq s a t b 3000 (by omega), Option.bind_some]
  by_cases h : RS (s, a) (t, b)
  · obtain ⟨hp, hq⟩ := h.cc ha hb
    have hsz := spanText_size hp hq
    have hsz2 : (spanText (s, a) (t, b) ++ beh).size ≤ 1043 := by rw [ByteArray.size_append]; omega
    have r1 := texts_rd false hp hq h.2.2 (⟨#[]⟩ : ByteArray) (by decide)
    rw [show spanText (s, a) (t, b) ++ (⟨#[]⟩ : ByteArray) = spanText (s, a) (t, b) from by apply ext_eq; rw [ByteArray.data_append]; simp] at r1
    have r2 := texts_rd false hp hq h.2.2 beh (by omega)
    have r3 := texts_rd true hp hq h.2.2 beh (by omega)
    have hP : bound_Parse.f 3000 (spanText (s, a) (t, b)) = some (s, a, t, b, 0) := by
      unfold bound_Parse.f
      rw [bound_Read.eq (by omega) 3000 (by omega), r1, Option.bind_some, if_pos rfl, if_neg (show ¬ (((spanText (s, a) (t, b)).size : Int) < ((spanText (s, a) (t, b)).size : Int)) by omega)]
    simp only [if_pos h]
    rw [decide_eq_true h, if_pos rfl, hP, Option.bind_some, if_pos (by omega), bound_Read.eq (by omega) 3000 (by omega), r2, Option.bind_some, bound_Loose.eq (by omega) 3000 (by omega), r3, Option.bind_some, hA, Option.bind_some]
    simp
  · simp only [if_neg h]
    rw [decide_eq_false h, if_neg Bool.false_ne_true, hA, Option.bind_some, if_pos rfl, show ((⟨#[]⟩ : ByteArray).toList == ([] : List UInt8)) = true from by rw [ByteArray.toList_eq]; rfl]

end Go.Proofs.Ytpeidnkbliafkaa.Pure

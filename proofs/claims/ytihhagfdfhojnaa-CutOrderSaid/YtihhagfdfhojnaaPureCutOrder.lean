/- Of any three cuts the order goes through; the other way round it is the other one (law02 CutOrder), for every three cuts; no conditions. -/
import Derived.Test.YtihhagfdfhojnaaRCutOrder
import Derived.Test.YtihhagfdfhojnaaLCutA
import Derived.Test.YtihhagfdfhojnaaLAlive02
namespace Go.Proofs.Ytihhagfdfhojnaa.Pure
open Go.RowKit Go.Proofs.Ytihhagfdfhojnaa.Print Go.Proofs.YtihhagfdfhojnaaW.PrintWords Go.Proofs.YtihhagfdfhojnaaW.PrintLast
set_option linter.unusedVariables false
set_option linter.unusedSimpArgs false
theorem CutOrder : bocagelaw02_CutOrder.Pure := by
  intro s a t b u c hs ha ht hb hu hc
  refine ⟨200, ?_⟩
  unfold bocagelaw02_CutOrder.f
  simp only [cut_Compare.eq _ _ _ _ 200 (by omega), cut_Canon.eq _ _ 200 (by omega), bocagelaw02_alive.ge 200 (by omega), Option.bind_some, if_true]
  have hsw := cmp2_swap (canon s a) (canon t b)
  have h1 := cmp2_cases (canon s a) (canon t b)
  have h2 := cmp2_cases (canon t b) (canon u c)
  have h3 := cmp2_cases (canon s a) (canon u c)
  rw [wrap64_of (by unfold I64; omega), if_pos hsw]
  rcases h1 with ⟨e1, g1⟩ | ⟨e1, g1⟩ | ⟨e1, g1⟩
  · rw [e1, if_neg (by omega)]
    rcases h2 with ⟨e2, g2⟩ | ⟨e2, g2⟩ | ⟨e2, g2⟩
    · rw [e2, if_neg (by omega)]
      rcases h3 with ⟨e3, g3⟩ | ⟨e3, g3⟩ | ⟨e3, g3⟩
      · rw [e3]; rfl
      · omega
      · rw [e3]; rfl
    · rw [e2]; rfl
    · rw [e2, if_neg (by omega)]
      rw [← g2, e1]; rfl
  · rw [e1]; rfl
  · rw [e1, if_neg (by omega)]
    have hcan : (some ((canon s a).1 == (canon t b).1 && ((canon s a).2 == (canon t b).2)) : Option Bool) = some true := by rw [g1]; simp
    simp only [if_pos trivial, if_true, hcan]
    rcases h2 with ⟨e2, g2⟩ | ⟨e2, g2⟩ | ⟨e2, g2⟩
    · rw [e2, if_neg (by omega), if_pos (by rw [g1, e2]; omega)]
    · rw [e2, if_pos (by omega)]
    · rw [e2, if_neg (by omega), if_pos (by rw [g1, e2]; omega)]

end Go.Proofs.Ytihhagfdfhojnaa.Pure

/- The bounds of a span's cuts are those of the span (law04 BoundBack), for every span; no conditions. -/
import Derived.Test.YtpeidnkbliafkaaRBoundBack
import Derived.Test.YtpeidnkbliafkaaLBndR
import Derived.Test.YtpeidnkbliafkaaLBndLH
import Derived.Test.YtpeidnkbliafkaaLAlive04
namespace Go.Proofs.Ytpeidnkbliafkaa.Pure
open Go.RowKit Go.Proofs.Ytpeidnkbliafkaa.Print Go.Proofs.YtpeidnkbliafkaaW.PrintWords Go.Proofs.YtpeidnkbliafkaaW.PrintLast
set_option linter.unusedVariables false
set_option linter.unusedSimpArgs false
theorem BoundBack : bocagelaw04_BoundBack.Pure := by
  intro s a t b _ ha _ hb
  have ha := I64.of_wf ha
  have hb := I64.of_wf hb
  suffices h : Ev (fun k => bocagelaw04_BoundBack.f k s a t b) true from h.rounds
  unfold bocagelaw04_BoundBack.f
  have hp := canon_CC (s := s) ha
  have hq := canon_CC (s := t) hb
  refine Ev.bind ⟨1, fun k hk1 => bound_Low.eq s ha k hk1⟩ (Ev.bind ⟨1, fun k hk1 => bound_High.eq t hb k hk1⟩ ?_)
  refine Ev.bind (a := spanOf (canon s a) (canon t b)) ⟨5, fun k hk5 => (bound_Span.eq (lowOf_I64 hp) (highOf_I64 hq) _ _ k hk5).trans (congrArg some (span_back hp hq))⟩ ?_
  refine Ev.bind (a := spanOf (canon s a) (canon t b)) ⟨1, fun k hk1 => (bocageref03_Of.eq s a t b k hk1).trans rfl⟩ (Ev.bind bocagelaw04_alive.ev ?_)
  simp only [beq_self_eq_true, Bool.and_self, if_true]
  exact Ev.now _

end Go.Proofs.Ytpeidnkbliafkaa.Pure

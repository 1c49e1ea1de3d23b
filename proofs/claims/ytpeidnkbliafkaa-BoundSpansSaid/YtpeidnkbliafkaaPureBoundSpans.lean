/- Of any two bounds the span, and of any cut its bounds, is what the document says (law04 BoundSpans), for every bound and cut; no conditions. -/
import Derived.Test.YtpeidnkbliafkaaRBoundSpans
import Derived.Test.YtpeidnkbliafkaaLBndR
import Derived.Test.YtpeidnkbliafkaaLBndLHR
import Derived.Test.YtpeidnkbliafkaaLAlive04
namespace Go.Proofs.Ytpeidnkbliafkaa.Pure
open Go.RowKit Go.Proofs.Ytpeidnkbliafkaa.Print Go.Proofs.YtpeidnkbliafkaaW.PrintWords Go.Proofs.YtpeidnkbliafkaaW.PrintLast
set_option linter.unusedVariables false
set_option linter.unusedSimpArgs false
theorem BoundSpans : bocagelaw04_BoundSpans.Pure := by
  intro lk la hk ha s a _ hla _ hha _ hsa
  have hla := I64.of_wf hla
  have hha := I64.of_wf hha
  have hsa := I64.of_wf hsa
  suffices h : Ev (fun k => bocagelaw04_BoundSpans.f k lk la hk ha s a) true from h.rounds
  unfold bocagelaw04_BoundSpans.f
  refine Ev.bind ⟨5, fun k hk5 => bound_Span.eq hla hha lk hk k hk5⟩ (Ev.bind ⟨8, fun k hk8 => bocageref04_Span.eq hla hha lk hk k hk8⟩ (Ev.bind bocagelaw04_alive.ev ?_))
  generalize spanB lk la hk ha = r
  simp only [beq_self_eq_true, Bool.and_self, if_true]
  refine Ev.bind ⟨1, fun k hk1 => bound_Low.eq s hsa k hk1⟩ (Ev.bind ⟨1, fun k hk1 => bocageref04_Low.eq s hsa k hk1⟩ ?_)
  simp only [beq_self_eq_true, Bool.and_self, if_true]
  refine Ev.bind ⟨1, fun k hk1 => bound_High.eq s hsa k hk1⟩ (Ev.bind ⟨1, fun k hk1 => bocageref04_High.eq s hsa k hk1⟩ ?_)
  simp only [beq_self_eq_true, Bool.and_self]
  exact Ev.now _

end Go.Proofs.Ytpeidnkbliafkaa.Pure

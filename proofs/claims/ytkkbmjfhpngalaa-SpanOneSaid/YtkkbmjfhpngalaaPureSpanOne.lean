/- Of any span, and of any two cuts: whether it is right, how many numbers it has, which are at its ends, is what the document says (law03 SpanOne), for every span and number; no conditions. -/
import Derived.Test.YtkkbmjfhpngalaaRSpanOne
import Derived.Test.YtkkbmjfhpngalaaLSpanRC
import Derived.Test.YtkkbmjfhpngalaaLSpanH
import Derived.Test.YtkkbmjfhpngalaaLAlive03
namespace Go.Proofs.Ytkkbmjfhpngalaa.Pure
open Go.RowKit Go.Proofs.Ytkkbmjfhpngalaa.Print Go.Proofs.YtkkbmjfhpngalaaW.PrintWords Go.Proofs.YtkkbmjfhpngalaaW.PrintLast
set_option linter.unusedVariables false
set_option linter.unusedSimpArgs false
theorem SpanOne : bocagelaw03_SpanOne.Pure := by
  intro s a t b n hs ha ht hb hn
  have w : WS (sp (s, a) (t, b)) := ⟨I64.of_wf ha, I64.of_wf hb⟩
  have hn := I64.of_wf hn
  suffices h : Ev (fun k => bocagelaw03_SpanOne.f k s a t b n) true from h.rounds
  unfold bocagelaw03_SpanOne.f
  refine Ev.bind ⟨3, fun k hk => span_Of.eq s a t b k hk⟩ (Ev.bind ⟨1, fun k hk => bocageref03_Of.eq s a t b k hk⟩ ?_)
  refine Ev.bind (a := cntS (sp (s, a) (t, b))) ⟨3, fun k hk => span_Count.eq (sp (s, a) (t, b)) w k hk⟩ (Ev.bind (bocageref03_Count.ev (sp (s, a) (t, b)) w) ?_)
  generalize (if cmp2 (canon s a) (canon t b) < 0 then ((canon s a).1, (canon s a).2, (canon t b).1, (canon t b).2, (0 : Int)) else (0, 0, 0, 0, 30)) = r
  simp only [beq_self_eq_true, Bool.not_true, Bool.or_self, Bool.false_eq_true, if_false, if_true, bne_self_eq_false]
  refine Ev.bind ⟨3, fun k hk => span_Right.eq s a t b k hk⟩ (Ev.bind ⟨1, fun k hk => bocageref03_Right.eq s a t b k hk⟩ ?_)
  simp only [bne_self_eq_false, Bool.false_eq_true, if_false]
  refine Ev.bind (a := hasB (sp (s, a) (t, b)) n) ⟨3, fun k hk => span_Has.eq (sp (s, a) (t, b)) w hn k hk⟩ (Ev.bind (a := hasB (sp (s, a) (t, b)) n) ⟨1, fun k hk => bocageref03_Has.eq (sp (s, a) (t, b)) w hn k hk⟩ ?_)
  simp only [bne_self_eq_false]
  refine Ev.step (f := fun k => _) (fun k => by rw [bocagelaw03_SpanOne.j0, if_neg Bool.false_ne_true]) ?_
  refine Ev.bind ⟨3, fun k hk => span_Ends.eq (sp (s, a) (t, b)) w k hk⟩ (Ev.bind ⟨1, fun k hk => bocageref03_Right.eq s a t b k hk⟩ ?_)
  by_cases h : RS (s, a) (t, b)
  · have h' : RS (lo (sp (s, a) (t, b))) (hi (sp (s, a) (t, b))) := h
    have rr := (RS_iff w).1 h'
    have r1 := rr.1.range
    have r2 := rr.2.1.range
    have r3 := rr.2.2
    have e1 : canon s a = lo (sp (s, a) (t, b)) := h.1
    have e2 : canon t b = hi (sp (s, a) (t, b)) := h.2.1
    have ilo : I64 (pos (lo (sp (s, a) (t, b)))) := by unfold I64; omega
    have ihi : I64 (pos (hi (sp (s, a) (t, b))) - 1) := by unfold I64; omega
    simp only [h, decide_true, if_true, if_pos h']
    refine Ev.bind (a := (pos (lo (sp (s, a) (t, b))), true)) ⟨1, fun k hk => (bocageref02_Next.eq s w.1 k hk).trans (congrArg some ((congrArg nextOf e1).trans rr.next))⟩ ?_
    refine Ev.bind (a := (pos (hi (sp (s, a) (t, b))) - 1, true)) ⟨1, fun k hk => (bocageref02_Prev.eq t w.2 k hk).trans (congrArg some ((congrArg prevOf e2).trans rr.prev))⟩ ?_
    refine Ev.bind bocagelaw03_alive.ev ?_
    simp only [if_true]
    have b1 : hasB (sp (s, a) (t, b)) (pos (lo (sp (s, a) (t, b)))) = true := (hasB_iff w).2 ⟨rr, Int.le_refl _, r3⟩
    have b2 : hasB (sp (s, a) (t, b)) (pos (hi (sp (s, a) (t, b))) - 1) = true := (hasB_iff w).2 ⟨rr, by omega, by omega⟩
    refine Ev.bind (a := true) ⟨3, fun k hk => (span_Has.eq (sp (s, a) (t, b)) w ilo k hk).trans (by rw [b1])⟩ ?_
    simp only [if_true]
    refine Ev.bind (a := true) ⟨3, fun k hk => (span_Has.eq (sp (s, a) (t, b)) w ihi k hk).trans (by rw [b2])⟩ ?_
    simp only [if_true]
    refine Ev.bind ⟨1, fun k hk => span_Point.eq hn k hk⟩ (Ev.bind ⟨1, fun k hk => bocageref02_Ahead.eq n k hk⟩ (Ev.bind ⟨0, fun k _ => bocageref02_Behind.eq hn⟩ ?_))
    simp only [beq_self_eq_true, Bool.and_self]
    exact Ev.now _
  · have h' : ¬ RS (lo (sp (s, a) (t, b))) (hi (sp (s, a) (t, b))) := h
    simp only [h, decide_false, Bool.false_eq_true, if_false, if_neg h']
    refine Ev.bind bocagelaw03_alive.ev ?_
    simp only [if_true, beq_self_eq_true]
    exact Ev.now _

end Go.Proofs.Ytkkbmjfhpngalaa.Pure

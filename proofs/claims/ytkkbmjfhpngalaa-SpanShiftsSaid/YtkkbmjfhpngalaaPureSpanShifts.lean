/- Any span taken elsewhere is what the document says, and has as many numbers (law03 SpanShifts), for every span and number; no conditions. -/
import Derived.Test.YtkkbmjfhpngalaaPrint17
import Derived.Test.YtkkbmjfhpngalaaRSpanShifts
import Derived.Test.YtkkbmjfhpngalaaLCutSh
import Derived.Test.YtkkbmjfhpngalaaLSpanC
import Derived.Test.YtkkbmjfhpngalaaLAlive03
namespace Go.Proofs.Ytkkbmjfhpngalaa.Pure
open Go.RowKit Go.Proofs.Ytkkbmjfhpngalaa.Print Go.Proofs.YtkkbmjfhpngalaaW.PrintWords Go.Proofs.YtkkbmjfhpngalaaW.PrintLast
set_option linter.unusedVariables false
set_option linter.unusedSimpArgs false
theorem SpanShifts : bocagelaw03_SpanShifts.Pure := by
  intro s a t b n hs ha ht hb hn
  have ha := I64.of_wf ha
  have hb := I64.of_wf hb
  have hn := I64.of_wf hn
  refine ⟨500, ?_⟩
  unfold bocagelaw03_SpanShifts.f
  have e1 : span_Shift.f 500 s a t b n = some (if RS (s, a) (t, b) ∧ (shiftOf (canon s a) n).2.2 = true ∧ (shiftOf (canon t b) n).2.2 = true then ((shiftOf (canon s a) n).1, (shiftOf (canon s a) n).2.1, (shiftOf (canon t b) n).1, (shiftOf (canon t b) n).2.1, true) else (0, 0, 0, 0, false)) := by
    unfold span_Shift.f
    rw [cut_Shift.eq s ha hn 500 (by omega), Option.bind_some, cut_Shift.eq t hb hn 500 (by omega), Option.bind_some, span_Right.eq _ _ _ _ 500 (by omega), Option.bind_some]
    by_cases h1 : RS (s, a) (t, b)
    · rw [decide_eq_true h1, if_pos rfl]
      by_cases h2 : (shiftOf (canon s a) n).2.2 = true
      · rw [if_pos h2]
        by_cases h3 : (shiftOf (canon t b) n).2.2 = true
        · rw [if_pos h3, if_pos ⟨h1, h2, h3⟩]
        · rw [if_neg h3, if_neg (fun g => h3 g.2.2)]
      · rw [if_neg h2, if_neg (fun g => h2 g.2.1)]
    · rw [decide_eq_false h1, if_neg Bool.false_ne_true, if_neg (fun g => h1 g.1)]
  have e2 : bocageref03_Shift.f 500 s a t b n = span_Shift.f 500 s a t b n := by
    rw [e1]
    unfold bocageref03_Shift.f
    rw [bocageref02_Shift.eq s ha hn 500 (by omega), Option.bind_some, bocageref02_Shift.eq t hb hn 500 (by omega), Option.bind_some, bocageref03_Right.eq _ _ _ _ 500 (by omega), Option.bind_some]
    by_cases h1 : RS (s, a) (t, b)
    · rw [decide_eq_true h1, if_pos rfl]
      by_cases h2 : (shiftOf (canon s a) n).2.2 = true
      · rw [if_pos h2]
        by_cases h3 : (shiftOf (canon t b) n).2.2 = true
        · rw [if_pos h3, if_pos ⟨h1, h2, h3⟩]
        · rw [if_neg h3, if_neg (fun g => h3 g.2.2)]
      · rw [if_neg h2, if_neg (fun g => h2 g.2.1)]
    · rw [decide_eq_false h1, if_neg Bool.false_ne_true, if_neg (fun g => h1 g.1)]
  have al : ∀ p q u v : Int, bocagelaw03_SpanShifts.j1 499 true s a t b p q u v = some true := by
    intro p q u v
    rw [bocagelaw03_SpanShifts.j1, if_pos rfl, bocagelaw03_alive.ge 498 (by omega)]; rfl
  rw [e2, e1, Option.bind_some, Option.bind_some]
  by_cases c : RS (s, a) (t, b) ∧ (shiftOf (canon s a) n).2.2 = true ∧ (shiftOf (canon t b) n).2.2 = true
  · rw [if_pos c]
    obtain ⟨c1, c2, c3⟩ := c
    rw [if_neg (by simp), bne_self_eq_false, bocagelaw03_SpanShifts.j0, if_neg Bool.false_ne_true, if_pos rfl]
    by_cases z1 : s = 0
    · rw [if_pos z1]
      by_cases z2 : t = 0
      · subst z1 z2
        have k1 : canon 0 a = (0, a) := c1.1
        have k2 : canon 0 b = (0, b) := c1.2.1
        have k3 : a < b := by
          have := c1.2.2
          rw [lex_lt] at this
          dsimp only at this; omega
        rw [k1] at c2
        rw [k2] at c3
        rw [k1, k2]
        unfold shiftOf at c2 c3 ⊢
        rw [if_pos rfl] at c2 c3 ⊢
        rw [if_pos rfl]
        by_cases d1 : -9223372036854775808 < a + n ∧ a + n ≤ 9223372036854775807
        · by_cases d2 : -9223372036854775808 < b + n ∧ b + n ≤ 9223372036854775807
          · rw [if_pos d1, if_pos d2]
            dsimp only
            have w1 : WS (sp (0, a) (0, b)) := ⟨ha, hb⟩
            have w2 : WS (sp (0, a + n) (0, b + n)) := ⟨⟨by show -9223372036854775808 ≤ a + n; omega, d1.2⟩, ⟨by show -9223372036854775808 ≤ b + n; omega, d2.2⟩⟩
            have rr1 := (RS_iff w1).1 c1
            have p0 : ∀ z : Int, pos (0, z) = z := fun z => by unfold pos; rw [if_neg (by show ¬ (0 : Int) < 0; omega), if_neg (by show ¬ (0 : Int) > 0; omega)]
            have q1 : RR (sp (0, a + n) (0, b + n)) := ⟨.inr (.inr ⟨a + n, rfl, d1.1, d1.2⟩), .inr (.inr ⟨b + n, rfl, d2.1, d2.2⟩), by show pos (0, a + n) < pos (0, b + n); rw [p0, p0]; omega⟩
            have f1 := span_Count.eq (sp (0, a) (0, b)) w1 498 (by omega)
            have f2 := span_Count.eq (sp (0, a + n) (0, b + n)) w2 498 (by omega)
            have f3 := span_Right.eq 0 (a + n) 0 (b + n) 498 (by omega)
            have g1 : cntS (sp (0, a) (0, b)) = (b - a, true) := by
              unfold cntS
              have x1 : pos (lo (sp (0, a) (0, b))) = a := p0 a
              have x2 : pos (hi (sp (0, a) (0, b))) = b := p0 b
              rw [x1, x2, if_pos ⟨c1, by unfold I64 at ha hb; omega⟩]
            have g2 : cntS (sp (0, a + n) (0, b + n)) = (b - a, true) := by
              unfold cntS
              have x1 : pos (lo (sp (0, a + n) (0, b + n))) = a + n := p0 _
              have x2 : pos (hi (sp (0, a + n) (0, b + n))) = b + n := p0 _
              rw [x1, x2, if_pos ⟨q1.RS, by unfold I64 at ha hb; omega⟩]
              congr 1; omega
            have f1' : span_Count.f 498 0 a 0 b = some (b - a, true) := f1.trans (by rw [g1])
            have f2' : span_Count.f 498 0 (a + n) 0 (b + n) = some (b - a, true) := f2.trans (by rw [g2])
            have q1' : RS (0, a + n) (0, b + n) := q1.RS
            rw [bne_self_eq_false, bocagelaw03_SpanShifts.j1, if_neg Bool.false_ne_true, f1', Option.bind_some, f2', Option.bind_some, bocagelaw03_alive.ge 498 (by omega), Option.bind_some, if_pos rfl, if_pos rfl, f3, Option.bind_some, decide_eq_true q1']
          · rw [if_neg d2] at c3; cases c3
        · rw [if_neg d1] at c2; cases c2
      · rw [show (t != 0) = true from bne_iff_ne.2 z2]
        exact al _ _ _ _
    · rw [if_neg z1]
      exact al _ _ _ _
  · rw [if_neg c, if_neg (by simp), bne_self_eq_false, bocagelaw03_SpanShifts.j0, if_neg Bool.false_ne_true, if_neg Bool.false_ne_true]
    exact al _ _ _ _

end Go.Proofs.Ytkkbmjfhpngalaa.Pure

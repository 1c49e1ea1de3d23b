/- Just behind a cut stands the number next to the one just ahead of it; ahead of a number's own cut are lesser ones alone (law02 CutBetween), for every cut and number; no conditions. -/
import Derived.Test.YtihhagfdfhojnaaRCutBetween
import Derived.Test.YtihhagfdfhojnaaLCutA
import Derived.Test.YtihhagfdfhojnaaLCutN
import Derived.Test.YtihhagfdfhojnaaLCutP
import Derived.Test.YtihhagfdfhojnaaLAlive02
namespace Go.Proofs.Ytihhagfdfhojnaa.Pure
open Go.RowKit Go.Proofs.Ytihhagfdfhojnaa.Print Go.Proofs.YtihhagfdfhojnaaW.PrintWords Go.Proofs.YtihhagfdfhojnaaW.PrintLast
set_option linter.unusedVariables false
set_option linter.unusedSimpArgs false
theorem CutBetween : bocagelaw02_CutBetween.Pure := by
  intro s a n hs ha hn
  have ha := I64.of_wf ha
  have hn := I64.of_wf hn
  have hc := canon_CC (s := s) ha
  refine ⟨201, ?_⟩
  have hab : cmp2 (canon 0 n) (canon (behindOf n).1 (behindOf n).2) = -1 := by
    rw [(behindOf_CC hn).canon]
    unfold I64 at hn
    by_cases h1 : n = -9223372036854775808
    · subst h1; rfl
    · rw [canon_zero (by omega)]
      unfold behindOf
      by_cases h2 : n = 9223372036854775807
      · subst h2; rfl
      · rw [if_neg h2]; unfold cmp2; rw [if_neg (by simp), if_neg (by simp), if_pos (by simp; omega)]
  have fin : ∀ (x : Int) (is has : Bool), (is = false → has = true) → decide (cmp2 (canon 0 n) (canon s a) < 0) = (if is then decide (n < x) else true) → bocagelaw02_CutBetween.j0 201 n x is has false s a = some true := by
    intro x is has h1 h2
    rw [bocagelaw02_CutBetween.j0, if_neg Bool.false_ne_true]
    simp only [cut_Ahead.eq _ 200 (by omega), Option.bind_some, cut_Compare.eq _ _ _ _ 200 (by omega), bocagelaw02_alive.ge 200 (by omega), if_true, cut_Behind.eq hn, (canon_CC (s := 0) hn).canon, hab, h2]
    cases is
    · rw [h1 rfl]; simp
    · simp
  unfold bocagelaw02_CutBetween.f
  rw [cut_Next.eq s ha 201 (by omega), Option.bind_some, cut_Prev.eq s ha 201 (by omega), Option.bind_some]
  have h0 := canon_CC (s := 0) hn
  rcases hc with h | h | ⟨x, h, h1, h2⟩
  · rw [h]
    show bocagelaw02_CutBetween.j0 201 n (-9223372036854775808) true false false s a = some true
    refine fin _ _ _ (by simp) ?_
    rw [h, if_pos rfl]
    unfold I64 at hn
    by_cases h1 : n = -9223372036854775808
    · subst h1; rfl
    · rw [canon_zero (by omega), decide_eq_false (show ¬ n < -9223372036854775808 by omega)]
      unfold cmp2; rw [if_neg (by simp), if_pos (by simp)]; rfl
  · rw [h]
    show bocagelaw02_CutBetween.j0 201 n 0 false true false s a = some true
    refine fin _ _ _ (by simp) ?_
    rw [h]
    unfold I64 at hn
    by_cases h1 : n = -9223372036854775808
    · subst h1; rfl
    · rw [canon_zero (by omega)]
      unfold cmp2; rw [if_pos (by simp)]; rfl
  · rw [h]
    show (if x - 1 ≥ x then bocagelaw02_CutBetween.j0 201 n x true true true s a else bocagelaw02_CutBetween.j0 201 n x true true ((wrap64 (x - 1 + 1)) != x) s a) = some true
    rw [if_neg (by omega), wrap64_of (by unfold I64; omega), show x - 1 + 1 = x by omega, bne_self_eq_false]
    refine fin _ _ _ (by simp) ?_
    rw [h, if_pos rfl]
    unfold I64 at hn
    by_cases h1 : n = -9223372036854775808
    · subst h1
      rw [decide_eq_true (show (-9223372036854775808 : Int) < x by omega)]
      show decide (cmp2 (-1, 0) (0, x) < 0) = true
      unfold cmp2; rw [if_pos (by simp)]; rfl
    · rw [canon_zero (by omega)]
      unfold cmp2
      rw [if_neg (by simp), if_neg (by simp)]
      by_cases h3 : n < x
      · rw [if_pos h3, decide_eq_true h3]; rfl
      · rw [if_neg h3, decide_eq_false h3]
        split <;> rfl

end Go.Proofs.Ytihhagfdfhojnaa.Pure

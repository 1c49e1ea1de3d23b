import Derived.Test.YtagcloidicnhhaaPrint1
import Derived.Test.YtagcloidicnhhaaLNum
namespace Go.Proofs.Ytagcloidicnhhaa.Print
open Go.RowKit Go.Proofs.YtagcloidicnhhaaW.PrintWords Go.Proofs.YtagcloidicnhhaaW.PrintLast
set_option linter.unusedVariables false
set_option linter.unusedSimpArgs false
theorem sat_Add.eq {a b : Int} (ha : I64 a) (hb : I64 b) : sat_Add.f a b = some (clamp (a + b)) := by
  unfold I64 at ha hb
  unfold sat_Add.f sat_end.f clamp
  by_cases h1 : a < 0 <;> by_cases h2 : b < 0 <;> simp only [h1, h2, decide_true, decide_false, beq_self_eq_true, if_true, Bool.false_eq_true, if_false, Option.bind_some, reduceCtorEq, beq_iff_eq]
  · by_cases h3 : wrap64 (a + b) < 0
    · simp only [h3, decide_true, bne_self_eq_false, Bool.false_eq_true, if_false]
      unfold wrap64 at *
      split <;> (try split) <;> first | omega | (congr 1; omega)
    · simp only [h3, decide_false]
      unfold wrap64 at *
      rw [if_pos (by decide), if_pos (by omega)]
  · unfold wrap64
    rw [if_neg (by omega), if_neg (by omega)]; congr 1; omega
  · unfold wrap64
    rw [if_neg (by omega), if_neg (by omega)]; congr 1; omega
  · by_cases h3 : wrap64 (a + b) < 0
    · simp only [h3, decide_true]
      unfold wrap64 at *
      rw [if_pos (by decide), if_neg (by omega), if_pos (by omega)]
    · simp only [h3, decide_false, bne_self_eq_false, Bool.false_eq_true, if_false]
      unfold wrap64 at *
      rw [if_neg (by omega), if_neg (by omega)]; congr 1; omega
theorem sat_Sub.eq {a b : Int} (ha : I64 a) (hb : I64 b) : sat_Sub.f a b = some (clamp (a - b)) := by
  unfold I64 at ha hb
  unfold sat_Sub.f sat_end.f clamp
  by_cases h1 : a < 0 <;> by_cases h2 : b < 0 <;> simp only [h1, h2, decide_true, decide_false, bne_self_eq_false, if_true, Bool.false_eq_true, if_false, Option.bind_some, reduceCtorEq, beq_iff_eq]
  · unfold wrap64
    rw [if_neg (by omega), if_neg (by omega)]; congr 1; omega
  · rw [if_pos (by decide)]
    by_cases h3 : wrap64 (a - b) < 0
    · simp only [h3, decide_true, bne_self_eq_false, Bool.false_eq_true, if_false]
      unfold wrap64 at *
      rw [if_neg (by omega), if_neg (by omega)]; congr 1; omega
    · simp only [h3, decide_false]
      unfold wrap64 at *
      rw [if_pos (by decide), if_pos (by omega)]
  · rw [if_pos (by decide)]
    by_cases h3 : wrap64 (a - b) < 0
    · simp only [h3, decide_true]
      unfold wrap64 at *
      rw [if_pos (by decide), if_neg (by omega), if_pos (by omega)]
    · simp only [h3, decide_false, bne_self_eq_false, Bool.false_eq_true, if_false]
      unfold wrap64 at *
      rw [if_neg (by omega), if_neg (by omega)]; congr 1; omega
  · unfold wrap64
    rw [if_neg (by omega), if_neg (by omega)]; congr 1; omega
theorem sat_Neg.eq {a : Int} (ha : I64 a) : sat_Neg.f a = some (clamp (-a)) := by
  unfold sat_Neg.f
  rw [sat_Sub.eq (by unfold I64; omega) ha]
  simp

end Go.Proofs.Ytagcloidicnhhaa.Print

import Derived.Test.YtagcloidicnhhaaPrint1
namespace Go.Proofs.Ytagcloidicnhhaa.Print
open Go.RowKit Go.Proofs.YtagcloidicnhhaaW.PrintWords Go.Proofs.YtagcloidicnhhaaW.PrintLast
set_option linter.unusedVariables false
set_option linter.unusedSimpArgs false
/-- a number of 64 bits -/
def I64 (x : Int) : Prop := -9223372036854775808 ≤ x ∧ x ≤ 9223372036854775807
/-- the number, or the end beyond which it is -/
def clamp (x : Int) : Int := if x < -9223372036854775808 then -9223372036854775808 else if x > 9223372036854775807 then 9223372036854775807 else x
theorem I64.of_wf {x : Int} (h : (Lit.int .i64 x).wf = true) : I64 x := by
  simpa [Lit.wf, IntKind.min, IntKind.max, IntKind.bits, IntKind.signed, I64] using h
theorem clamp_I64 (x : Int) : I64 (clamp x) := by unfold clamp I64; split <;> (try split) <;> omega
theorem clamp_of {x : Int} (h : I64 x) : clamp x = x := by unfold clamp; unfold I64 at h; rw [if_neg (by omega), if_neg (by omega)]
theorem clamp_mono {x y : Int} (h : x ≤ y) : clamp x ≤ clamp y := by unfold clamp; split <;> split <;> (try split) <;> (try split) <;> omega
theorem wrap64_of {x : Int} (h : I64 x) : wrap64 x = x := by unfold I64 at h; unfold wrap64; omega
theorem sat_Add.eq {a b : Int} (ha : I64 a) (hb : I64 b) : sat_Add.f a b = some (clamp (a + b)) := by
  unfold I64 at ha hb
  unfold sat_Add.f sat_end.f clamp
  by_cases h1 : a < 0 <;> by_cases h2 : b < 0 <;> simp only [h1, h2, decide_true, decide_false, beq_self_eq_true, if_true, Bool.false_eq_true, if_false, Option.bind_some, reduceCtorEq, beq_iff_eq]
  · by_cases h3 : wrap64 (a + b) < 0
    · simp only [h3, decide_true, bne_self_eq_false, Bool.false_eq_true, if_false]
      unfold wrap64 at *
      split <;> (try split) <;> first | omega | (congr 1; omega)
    · simp only [h3, decide_false]
      unfold wrap64 at *
      rw [if_pos (by decide), if_pos (by omega)]
  · unfold wrap64
    rw [if_neg (by omega), if_neg (by omega)]; congr 1; omega
  · unfold wrap64
    rw [if_neg (by omega), if_neg (by omega)]; congr 1; omega
  · by_cases h3 : wrap64 (a + b) < 0
    · simp only [h3, decide_true]
      unfold wrap64 at *
      rw [if_pos (by decide), if_neg (by omega), if_pos (by omega)]
    · simp only [h3, decide_false, bne_self_eq_false, Bool.false_eq_true, if_false]
      unfold wrap64 at *
      rw [if_neg (by omega), if_neg (by omega)]; congr 1; omega
theorem sat_Sub.eq {a b : Int} (ha : I64 a) (hb : I64 b) : sat_Sub.f a b = some (clamp (a - b)) := by
  unfold I64 at ha hb
  unfold sat_Sub.f sat_end.f clamp
  by_cases h1 : a < 0 <;> by_cases h2 : b < 0 <;> simp only [h1, h2, decide_true, decide_false, bne_self_eq_false, if_true, Bool.false_eq_true, if_false, Option.bind_some, reduceCtorEq, beq_iff_eq]
  · unfold wrap64
    rw [if_neg (by omega), if_neg (by omega)]; congr 1; omega
  · rw [if_pos (by decide)]
    by_cases h3 : wrap64 (a - b) < 0
    · simp only [h3, decide_true, bne_self_eq_false, Bool.false_eq_true, if_false]
      unfold wrap64 at *
      rw [if_neg (by omega), if_neg (by omega)]; congr 1; omega
    · simp only [h3, decide_false]
      unfold wrap64 at *
      rw [if_pos (by decide), if_pos (by omega)]
  · rw [if_pos (by decide)]
    by_cases h3 : wrap64 (a - b) < 0
    · simp only [h3, decide_true]
      unfold wrap64 at *
      rw [if_pos (by decide), if_neg (by omega), if_pos (by omega)]
    · simp only [h3, decide_false, bne_self_eq_false, Bool.false_eq_true, if_false]
      unfold wrap64 at *
      rw [if_neg (by omega), if_neg (by omega)]; congr 1; omega
  · unfold wrap64
    rw [if_neg (by omega), if_neg (by omega)]; congr 1; omega
theorem sat_Neg.eq {a : Int} (ha : I64 a) : sat_Neg.f a = some (clamp (-a)) := by
  unfold sat_Neg.f
  rw [sat_Sub.eq (by unfold I64; omega) ha]
  simp

end Go.Proofs.Ytagcloidicnhhaa.Print

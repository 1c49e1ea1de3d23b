/- A number is in a span of two bounds just if it is on the right side of both (law04 BoundNumbers), for every bound and number; no conditions. -/
import Derived.Test.YtpeidnkbliafkaaPrint7
import Derived.Test.YtpeidnkbliafkaaRBoundNumbers
import Derived.Test.YtpeidnkbliafkaaLBndR
import Derived.Test.YtpeidnkbliafkaaLAlive04
import Derived.Test.YtpeidnkbliafkaaLCutPos
namespace Go.Proofs.Ytpeidnkbliafkaa.Pure
open Go.RowKit Go.Proofs.Ytpeidnkbliafkaa.Print Go.Proofs.YtpeidnkbliafkaaW.PrintWords Go.Proofs.YtpeidnkbliafkaaW.PrintLast
set_option linter.unusedVariables false
set_option linter.unusedSimpArgs false
theorem canon_pos0 {n : Int} (hn : I64 n) : pos (canon 0 n) = n := by
  unfold I64 at hn
  by_cases h : n = -9223372036854775808
  · subst h; rfl
  · rw [canon_zero (by omega)]; unfold pos; rw [if_neg (by show ¬ (0 : Int) < 0; omega), if_neg (by show ¬ (0 : Int) > 0; omega)]
theorem behind_pos {n : Int} (hn : I64 n) : pos (behindOf n) = n + 1 := by
  unfold behindOf
  by_cases h : n = 9223372036854775807
  · subst h; rfl
  · rw [if_neg h]; unfold pos; rw [if_neg (by show ¬ (0 : Int) < 0; omega), if_neg (by show ¬ (0 : Int) > 0; omega)]
theorem has_spanOf {p q : Int × Int} (hp : CC p) (hq : CC q) {n : Int} (hn : I64 n) (k : Nat) (hk : 1 ≤ k) :
    bocageref03_Has.f k (spanOf p q).1 (spanOf p q).2.1 (spanOf p q).2.2.1 (spanOf p q).2.2.2.1 n = some (decide (pos p ≤ n ∧ n < pos q)) := by
  unfold bocageref03_Has.f
  have c1 : CC (canon 0 n) := canon_CC hn
  have c2 := canon_pos0 hn
  rw [bocageref02_Ahead.eq n k hk, Option.bind_some, bocageref03_Right.eq _ _ _ _ k hk, Option.bind_some]
  unfold spanOf
  by_cases h : cmp2 p q < 0
  · rw [if_pos h]
    have hr : RS (p.1, p.2) (q.1, q.2) := ⟨hp.canon, hq.canon, h⟩
    show (if decide (RS (p.1, p.2) (q.1, q.2)) = true then _ else _) = _
    rw [decide_eq_true hr, if_pos rfl, bocageref02_Less.eq _ _ _ _ k hk, Option.bind_some, bocageref02_Less.eq _ _ _ _ k hk, Option.bind_some, c1.canon, hp.canon, hq.canon]
    by_cases h2 : cmp2 (canon 0 n) p < 0
    · have := (cmp2_pos c1 hp).1 h2
      rw [decide_eq_true h2, if_pos rfl, decide_eq_false (by omega)]
    · have h3 : ¬ pos (canon 0 n) < pos p := fun g => h2 ((cmp2_pos c1 hp).2 g)
      rw [decide_eq_false h2, if_neg Bool.false_ne_true]
      congr 1
      rw [Bool.eq_iff_iff, decide_eq_true_eq, decide_eq_true_eq, cmp2_pos c1 hq]
      omega
  · rw [if_neg h]
    have h3 : ¬ pos p < pos q := fun g => h ((cmp2_pos hp hq).2 g)
    rw [decide_eq_false (p := pos p ≤ n ∧ n < pos q) (by omega)]
    rfl
theorem BoundNumbers : bocagelaw04_BoundNumbers.Pure := by
  intro lk la hk ha n _ hla _ hha hn
  have hla := I64.of_wf hla
  have hha := I64.of_wf hha
  have hn := I64.of_wf hn
  refine ⟨100, ?_⟩
  have hA := bocagelaw04_alive.ge 100 (Nat.le_refl _)
  unfold bocagelaw04_BoundNumbers.f
  rw [bound_Span.eq hla hha lk hk 100 (by omega), Option.bind_some]
  by_cases hv : lk < 0 ∨ lk > 2 ∨ hk < 0 ∨ hk > 2
  · rw [show spanB lk la hk ha = (0, 0, 0, 0, 40) from if_pos hv, if_pos rfl, hA, Option.bind_some, if_pos rfl]; rfl
  · have e : spanB lk la hk ha = spanOf (lowC lk la) (highC hk ha) := if_neg hv
    have e5 : (spanOf (lowC lk la) (highC hk ha)).2.2.2.2 ≠ 40 := by
      unfold spanOf
      split
      · show (0 : Int) ≠ 40; decide
      · decide
    have hH : bocageref03_Has.f 100 (spanOf (lowC lk la) (highC hk ha)).1 (spanOf (lowC lk la) (highC hk ha)).2.1 (spanOf (lowC lk la) (highC hk ha)).2.2.1 (spanOf (lowC lk la) (highC hk ha)).2.2.2.1 n = some (decide ((lk = 0 ∨ n > la ∨ (n = la ∧ lk = 2)) ∧ (hk = 0 ∨ n < ha ∨ (n = ha ∧ hk = 2)))) := by
      rw [has_spanOf (lowC_CC hla lk) (highC_CC hha hk) hn 100 (by omega)]
      congr 1
      rw [Bool.eq_iff_iff, decide_eq_true_eq, decide_eq_true_eq]
      have k1 : pos (lowC lk la) ≤ n ↔ (lk = 0 ∨ n > la ∨ (n = la ∧ lk = 2)) := by
        unfold lowC
        by_cases h1 : lk = 1
        · rw [if_pos h1, behind_pos hla]; omega
        · rw [if_neg h1]
          by_cases h2 : lk = 2
          · rw [if_pos h2, canon_pos0 hla]; omega
          · rw [if_neg h2, show pos (-1, 0) = -9223372036854775808 from rfl]; unfold I64 at hn; omega
      have k2 : n < pos (highC hk ha) ↔ (hk = 0 ∨ n < ha ∨ (n = ha ∧ hk = 2)) := by
        unfold highC
        by_cases h1 : hk = 1
        · rw [if_pos h1, canon_pos0 hha]; omega
        · rw [if_neg h1]
          by_cases h2 : hk = 2
          · rw [if_pos h2, behind_pos hha]; omega
          · rw [if_neg h2, show pos (1, 0) = 9223372036854775808 from rfl]; unfold I64 at hn; omega
      rw [k1, k2]
    rw [e, if_neg e5]
    simp only [hA, hH, Option.bind_some, if_true]
    clear hA hH e e5
    repeat' split
    all_goals first
      | (rw [decide_eq_true (by omega)]; rfl)
      | (rw [decide_eq_false (by omega)]; rfl)
      | (by_cases h2 : hk = 2
         · rw [decide_eq_true (by omega), h2]; rfl
         · rw [decide_eq_false (by omega), beq_eq_false_iff_ne.2 h2]; rfl)

end Go.Proofs.Ytpeidnkbliafkaa.Pure

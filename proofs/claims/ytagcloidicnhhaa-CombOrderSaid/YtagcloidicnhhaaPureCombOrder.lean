/- Where no order matters two that come, come as well the other way round; where sums are numbers those of Add and Sub do, too (law13 CombOrder), for every kind and 64-bit numbers; no conditions. -/
import Derived.Test.YtagcloidicnhhaaPrint2
import Derived.Test.YtagcloidicnhhaaRCombOrder
import Derived.Test.YtagcloidicnhhaaLCombD
import Derived.Test.YtagcloidicnhhaaLBigP
import Derived.Test.YtagcloidicnhhaaLBigE
import Derived.Test.YtagcloidicnhhaaLAlive13
namespace Go.Proofs.Ytagcloidicnhhaa.Pure
open Go.RowKit Go.Proofs.Ytagcloidicnhhaa.Print Go.Proofs.YtagcloidicnhhaaW.PrintWords Go.Proofs.YtagcloidicnhhaaW.PrintLast
set_option linter.unusedVariables false
set_option linter.unusedSimpArgs false
theorem order_j3 (x y : Int) (e : Bool) (h : e = false → x = y) (k : Nat) (hk : 1200 ≤ k) : bocagelaw13_CombOrder.j3 k x y e = some true := by
  obtain ⟨k, rfl⟩ : ∃ j, k = j + 1 := ⟨k - 1, by omega⟩
  rw [bocagelaw13_CombOrder.j3]
  by_cases he : e = true
  · rw [if_pos he, bocagelaw13_alive.ge k (by omega)]; rfl
  · rw [if_neg he, bocagelaw13_alive.ge k (by omega), Option.bind_some, if_pos rfl, h (Bool.eq_false_iff.2 he)]
    simp
theorem order_j2 {old u v : Int} (ho : I64 old) {s t : Int} {a b : List Int} (ha : Big s a u) (hb : Big t b v) (la : a.length ≤ 19) (lb : b.length ≤ 19) (x y : Int)
    (h : I64 (old + u) → I64 (old + v) → I64 (old + u + v) → x = y) (k : Nat) (hk : 1300 ≤ k) : bocagelaw13_CombOrder.j2 k old x y s a t b = some true := by
  obtain ⟨k, rfl⟩ : ∃ j, k = j + 1 := ⟨k - 1, by omega⟩
  rw [bocagelaw13_CombOrder.j2]
  obtain ⟨so, d, e1, hd, ld⟩ := bocageref01_Of.eq ho k (by omega)
  obtain ⟨s1, d1, e2, h1, l1⟩ := bocageref01_Plus.eq hd ha k (by omega) (by omega) (by omega) (by omega)
  obtain ⟨s2, d2, e3, h2, l2⟩ := bocageref01_Plus.eq hd hb k (by omega) (by omega) (by omega) (by omega)
  obtain ⟨s3, d3, e4, h3, l3⟩ := bocageref01_Plus.eq h1 hb k (by omega) (by omega) (by omega) (by omega)
  have i1 := bocageref01_Is.eq h1 k (by omega) (by omega)
  have i2 := bocageref01_Is.eq h2 k (by omega) (by omega)
  have i3 := bocageref01_Is.eq h3 k (by omega) (by omega)
  rw [e1, Option.bind_some]
  dsimp only
  rw [e2, Option.bind_some]
  dsimp only
  rw [i1, Option.bind_some]
  by_cases c1 : -9223372036854775808 ≤ old + u ∧ old + u ≤ 9223372036854775807
  · rw [decide_eq_true c1, if_pos rfl, e3, Option.bind_some]
    dsimp only
    rw [i2, Option.bind_some]
    by_cases c2 : -9223372036854775808 ≤ old + v ∧ old + v ≤ 9223372036854775807
    · rw [decide_eq_true c2, if_pos rfl, Option.bind_some, e4, Option.bind_some]
      dsimp only
      rw [i3, Option.bind_some]
      refine order_j3 x y _ (fun g => ?_) k (by omega)
      have g2 : -9223372036854775808 ≤ old + u + v ∧ old + u + v ≤ 9223372036854775807 := by simpa using g
      exact h c1 c2 g2
    · rw [decide_eq_false c2, if_neg Bool.false_ne_true]
      exact order_j3 x y true (fun g => absurd g (by decide)) k (by omega)
  · rw [decide_eq_false c1, if_neg Bool.false_ne_true]
    exact order_j3 x y true (fun g => absurd g (by decide)) k (by omega)
theorem CombOrder : bocagelaw13_CombOrder.Pure := by
  intro kind old a b hkd ho ha hb
  have ho := I64.of_wf ho
  have ha := I64.of_wf ha
  have hb := I64.of_wf hb
  refine ⟨2000, ?_⟩
  unfold bocagelaw13_CombOrder.f
  rw [comb_All.eq kind ho (l := [a, b]) (by intro x hx; simp at hx; rcases hx with rfl | rfl <;> assumption) (by simp) 2000 (by simp), Option.bind_some,
    comb_All.eq kind ho (l := [b, a]) (by intro x hx; simp at hx; rcases hx with rfl | rfl <;> assumption) (by simp) 2000 (by simp), Option.bind_some]
  rw [show allOf kind old [a, b] = doOf kind (doOf kind old a) b from rfl, show allOf kind old [b, a] = doOf kind (doOf kind old b) a from rfl]
  have hj : ∀ x y : Int, ((kind = 1 ∨ kind = 2) → x = doOf kind (doOf kind old a) b ∧ y = doOf kind (doOf kind old b) a) → bocagelaw13_CombOrder.j0 2000 kind old x y false a b = some true := by
    intro x y hxy
    rw [bocagelaw13_CombOrder.j0, if_neg Bool.false_ne_true]
    have hbig : kind = 1 ∨ kind = 2 → bocagelaw13_CombOrder.j1 1999 kind old x y false a b = some true := by
      intro hk
      obtain ⟨rfl, rfl⟩ := hxy hk
      rw [bocagelaw13_CombOrder.j1, if_neg Bool.false_ne_true]
      obtain ⟨s1, d1, e1, h1, l1⟩ := bocageref01_Of.eq ha 1998 (by omega)
      obtain ⟨s2, d2, e2, h2, l2⟩ := bocageref01_Of.eq hb 1998 (by omega)
      rw [e1, Option.bind_some, e2, Option.bind_some]
      dsimp only
      by_cases h : kind = 2
      · obtain ⟨m1, n1⟩ := bocageref01_Minus.eq h1
        obtain ⟨m2, n2⟩ := bocageref01_Minus.eq h2
        rw [if_pos h, m1, Option.bind_some, m2, Option.bind_some]
        dsimp only
        refine order_j2 ho n1 n2 l1 l2 _ _ (fun g1 g2 g3 => ?_) 1998 (by omega)
        unfold doOf
        rw [if_neg (by omega), if_pos h, if_neg (by omega), if_pos h, if_neg (by omega), if_pos h, if_neg (by omega), if_pos h]
        rw [show old - a = old + -a by omega, show old - b = old + -b by omega, clamp_of g1, clamp_of g2]
        congr 1
        omega
      · have h : kind = 1 := by omega
        rw [if_neg (by omega)]
        refine order_j2 ho h1 h2 l1 l2 _ _ (fun g1 g2 g3 => ?_) 1998 (by omega)
        unfold doOf
        rw [if_pos h, if_pos h, if_pos h, if_pos h, clamp_of g1, clamp_of g2]
        congr 1
        omega
    by_cases h : kind = 1
    · rw [if_pos h]; exact hbig (.inl h)
    · rw [if_neg h]
      by_cases h2 : kind = 2
      · rw [show (kind != 2) = false from bne_eq_false_iff_eq.2 h2]; exact hbig (.inr h2)
      · rw [show (kind != 2) = true from bne_iff_ne.2 h2, bocagelaw13_CombOrder.j1, if_pos rfl, bocagelaw13_alive.ge 1998 (by omega)]; rfl
  have hmm : kind = 3 ∨ kind = 4 → doOf kind (doOf kind old a) b = doOf kind (doOf kind old b) a := by
    intro h
    unfold doOf
    rcases h with h | h
    · simp only [h, show ¬ ((3 : Int) = 1) by decide, show ¬ ((3 : Int) = 2) by decide, if_false, if_true]
      repeat' split
      all_goals omega
    · simp only [h, show ¬ ((4 : Int) = 1) by decide, show ¬ ((4 : Int) = 2) by decide, show ¬ ((4 : Int) = 3) by decide, if_false, if_true]
      repeat' split
      all_goals omega
  have hC : comb_Commutes.f kind = some (decide (kind = 3 ∨ kind = 4)) := by
    unfold comb_Commutes.f
    by_cases h3 : kind = 3
    · simp [h3]
    · simp only [h3, if_false, false_or]
      first | (congr 1; done) | (by_cases h4 : kind = 4 <;> simp [h4])
  rw [hC, Option.bind_some]
  by_cases h : kind = 3 ∨ kind = 4
  · rw [decide_eq_true h, if_pos rfl, hmm h, bne_self_eq_false]
    exact hj _ _ (fun g => by omega)
  · rw [decide_eq_false h, if_neg Bool.false_ne_true]
    exact hj _ _ (fun _ => ⟨rfl, rfl⟩)

end Go.Proofs.Ytagcloidicnhhaa.Pure

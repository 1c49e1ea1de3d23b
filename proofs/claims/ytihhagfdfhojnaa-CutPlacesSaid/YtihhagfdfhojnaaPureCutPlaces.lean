/- Of any cut, and any two, which place it is, and which stands ahead, is what the document says (law02 CutPlaces), for every two cuts; no conditions. -/
import Derived.Test.YtihhagfdfhojnaaPrint29
import Derived.Test.YtihhagfdfhojnaaPrint30
import Derived.Test.YtihhagfdfhojnaaRCutPlaces
import Derived.Test.YtihhagfdfhojnaaLCutA
import Derived.Test.YtihhagfdfhojnaaLCutR
import Derived.Test.YtihhagfdfhojnaaLCutQ
import Derived.Test.YtihhagfdfhojnaaLAlive02
namespace Go.Proofs.Ytihhagfdfhojnaa.Pure
open Go.RowKit Go.Proofs.Ytihhagfdfhojnaa.Print Go.Proofs.YtihhagfdfhojnaaW.PrintWords Go.Proofs.YtihhagfdfhojnaaW.PrintLast
set_option linter.unusedVariables false
set_option linter.unusedSimpArgs false
theorem w1 : wrap64 (0 + 1) = 1 := by decide +kernel
theorem w2 : wrap64 (1 + 1) = 2 := by decide +kernel
theorem cut_Least.two {s a t b : Int} (ha : I64 a) (hb : I64 b) (k : Nat) (hk : 20 ≤ k) : cut_Least.f k [(⟨s, a⟩ : S23), (⟨t, b⟩ : S23)] = some (if cmp2 (canon t b) (canon s a) < 0 then canon t b else canon s a) := by
  obtain ⟨k, rfl⟩ : ∃ j, k = j + 10 := ⟨k - 10, by omega⟩
  have hA := canon_CC (s := s) ha
  have hB := canon_CC (s := t) hb
  have step2 : ∀ p : Int × Int, CC p → cut_Least.l0 (k + 9) [(⟨s, a⟩ : S23), (⟨t, b⟩ : S23)] 2 1 p.1 p.2 = some (if cmp2 (canon t b) p < 0 then canon t b else p) := by
    intro p hp
    rw [cut_Least.l0, if_pos (by omega), if_pos (by omega), if_pos (by simp)]
    show (cut_Compare.f (k + 8) t b p.1 p.2).bind _ = _
    rw [cut_Compare.eq _ _ _ _ (k + 8) (by omega), Option.bind_some, hp.canon]
    by_cases h : cmp2 (canon t b) p < 0
    · rw [if_pos h, if_pos h]
      show (cut_Canon.f (k + 8) t b).bind _ = _
      rw [cut_Canon.eq _ _ (k + 8) (by omega), Option.bind_some, w2, cut_Least.l0, if_neg (by omega)]
    · rw [if_neg h, if_neg h, w2, cut_Least.l0, if_neg (by omega)]
  show cut_Least.l0 (k + 10) [(⟨s, a⟩ : S23), (⟨t, b⟩ : S23)] 2 0 1 0 = _
  rw [cut_Least.l0, if_pos (by omega), if_pos (by omega), if_pos (by simp)]
  show (cut_Compare.f (k + 9) s a 1 0).bind _ = _
  rw [cut_Compare.eq _ _ _ _ (k + 9) (by omega), Option.bind_some]
  by_cases h : cmp2 (canon s a) (canon 1 0) < 0
  · rw [if_pos h]
    show (cut_Canon.f (k + 9) s a).bind _ = _
    rw [cut_Canon.eq _ _ (k + 9) (by omega), Option.bind_some, w1]
    exact step2 (canon s a) hA
  · rw [if_neg h]
    have e : canon s a = (1, 0) := by
      rcases hA with h1 | h1 | ⟨x, h1, _, _⟩
      · rw [h1] at h; exact absurd (by decide) h
      · exact h1
      · rw [h1] at h; refine absurd ?_ h
        show cmp2 (0, x) (1, 0) < 0
        unfold cmp2; rw [if_pos (by simp)]; decide
    have := step2 (canon s a) hA
    rw [e] at this ⊢
    rw [w1]
    exact this
theorem cut_Greatest.two {s a t b : Int} (ha : I64 a) (hb : I64 b) (k : Nat) (hk : 20 ≤ k) : cut_Greatest.f k [(⟨s, a⟩ : S23), (⟨t, b⟩ : S23)] = some (if cmp2 (canon t b) (canon s a) > 0 then canon t b else canon s a) := by
  obtain ⟨k, rfl⟩ : ∃ j, k = j + 10 := ⟨k - 10, by omega⟩
  have hA := canon_CC (s := s) ha
  have hB := canon_CC (s := t) hb
  have step2 : ∀ p : Int × Int, CC p → cut_Greatest.l0 (k + 9) [(⟨s, a⟩ : S23), (⟨t, b⟩ : S23)] 2 1 p.1 p.2 = some (if cmp2 (canon t b) p > 0 then canon t b else p) := by
    intro p hp
    rw [cut_Greatest.l0, if_pos (by omega), if_pos (by omega), if_pos (by simp)]
    show (cut_Compare.f (k + 8) t b p.1 p.2).bind _ = _
    rw [cut_Compare.eq _ _ _ _ (k + 8) (by omega), Option.bind_some, hp.canon]
    by_cases h : cmp2 (canon t b) p > 0
    · rw [if_pos h, if_pos h]
      show (cut_Canon.f (k + 8) t b).bind _ = _
      rw [cut_Canon.eq _ _ (k + 8) (by omega), Option.bind_some, w2, cut_Greatest.l0, if_neg (by omega)]
    · rw [if_neg h, if_neg h, w2, cut_Greatest.l0, if_neg (by omega)]
  show cut_Greatest.l0 (k + 10) [(⟨s, a⟩ : S23), (⟨t, b⟩ : S23)] 2 0 (-1) 0 = _
  rw [cut_Greatest.l0, if_pos (by omega), if_pos (by omega), if_pos (by simp)]
  show (cut_Compare.f (k + 9) s a (-1) 0).bind _ = _
  rw [cut_Compare.eq _ _ _ _ (k + 9) (by omega), Option.bind_some]
  by_cases h : cmp2 (canon s a) (canon (-1) 0) > 0
  · rw [if_pos h]
    show (cut_Canon.f (k + 9) s a).bind _ = _
    rw [cut_Canon.eq _ _ (k + 9) (by omega), Option.bind_some, w1]
    exact step2 (canon s a) hA
  · rw [if_neg h]
    have e : canon s a = (-1, 0) := by
      rcases hA with h1 | h1 | ⟨x, h1, _, _⟩
      · exact h1
      · rw [h1] at h; exact absurd (by decide) h
      · rw [h1] at h; refine absurd ?_ h
        show cmp2 (0, x) (-1, 0) > 0
        unfold cmp2; rw [if_neg (by simp), if_pos (by simp)]; decide
    have := step2 (canon s a) hA
    rw [e] at this ⊢
    rw [w1]
    exact this
theorem CutPlaces : bocagelaw02_CutPlaces.Pure := by
  intro s a t b hs ha ht hb
  have ha := I64.of_wf ha
  have hb := I64.of_wf hb
  refine ⟨201, ?_⟩
  have e1 : ∀ p : Int × Int, (!(p.1 == p.1) || (!(p.2 == p.2))) = false := by intro p; simp
  unfold bocagelaw02_CutPlaces.f
  rw [cut_Canon.eq _ _ 201 (by omega), Option.bind_some, bocageref02_Canon.eq _ _ 201 (by omega), Option.bind_some, e1, if_neg Bool.false_ne_true, cut_Right.eq _ _ 201 (by omega), Option.bind_some, Option.bind_some, bne_self_eq_false, if_neg Bool.false_ne_true,
    cut_Compare.eq _ _ _ _ 201 (by omega), Option.bind_some, bocageref02_Compare.eq _ _ _ _ 201 (by omega), Option.bind_some, bne_self_eq_false, bocagelaw02_CutPlaces.j0, if_neg Bool.false_ne_true, bocagelaw02_alive.ge 200 (by omega), Option.bind_some, if_pos rfl]
  have hL : bocageref02_Low.f 200 s a t b = some (if cmp2 (canon t b) (canon s a) < 0 then canon t b else canon s a) := by
    unfold bocageref02_Low.f
    rw [bocageref02_Less.eq _ _ _ _ 200 (by omega), Option.bind_some, bocageref02_Canon.eq _ _ 200 (by omega), bocageref02_Canon.eq _ _ 200 (by omega), Option.bind_some, Option.bind_some]
    by_cases h : cmp2 (canon t b) (canon s a) < 0
    · rw [if_pos (decide_eq_true h), if_pos h]
    · rw [if_neg (by rw [decide_eq_false h]; exact Bool.false_ne_true), if_neg h]
  have hH : bocageref02_High.f 200 s a t b = some (if cmp2 (canon t b) (canon s a) > 0 then canon t b else canon s a) := by
    unfold bocageref02_High.f
    rw [bocageref02_Less.eq _ _ _ _ 200 (by omega), Option.bind_some, bocageref02_Canon.eq _ _ 200 (by omega), bocageref02_Canon.eq _ _ 200 (by omega), Option.bind_some, Option.bind_some, cmp2_swap (canon t b)]
    by_cases h : cmp2 (canon s a) (canon t b) < 0
    · rw [if_pos (decide_eq_true h), if_pos (by omega)]
    · rw [if_neg (by rw [decide_eq_false h]; exact Bool.false_ne_true), if_neg (by omega)]
  rw [cut_Least.two ha hb 200 (by omega), Option.bind_some, hL, Option.bind_some, pair_beq, if_pos rfl, cut_Greatest.two ha hb 200 (by omega), Option.bind_some, hH, Option.bind_some, pair_beq, if_pos rfl]
  rfl

end Go.Proofs.Ytihhagfdfhojnaa.Pure

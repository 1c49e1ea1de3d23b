import Derived.Test.YtpeidnkbliafkaaPrint5
import Derived.Test.YtpeidnkbliafkaaPrint6
import Derived.Test.YtpeidnkbliafkaaLBndS
import Derived.Test.YtpeidnkbliafkaaLCutL
import Derived.Test.YtpeidnkbliafkaaLBndNx
namespace Go.Proofs.Ytpeidnkbliafkaa.Print
open Go.RowKit Go.Proofs.YtpeidnkbliafkaaW.PrintWords Go.Proofs.YtpeidnkbliafkaaW.PrintLast
set_option linter.unusedVariables false
set_option linter.unusedSimpArgs false
theorem bocageref03_Right.eq (s a t b : Int) (k : Nat) (hk : 1 ≤ k) : bocageref03_Right.f k s a t b = some (decide (RS (s, a) (t, b))) := by
  unfold bocageref03_Right.f
  rw [bocageref02_Canon.eq s a k hk, Option.bind_some]
  by_cases h1 : canon s a = (s, a)
  · rw [h1, if_pos (by simp), bocageref02_Canon.eq t b k hk, Option.bind_some]
    by_cases h2 : canon t b = (t, b)
    · rw [h2, if_pos (by simp), bocageref02_Less.eq _ _ _ _ k hk, Option.bind_some, h1, h2]
      congr 1
      rw [Bool.eq_iff_iff, decide_eq_true_eq, decide_eq_true_eq]
      exact ⟨fun h => ⟨h1, h2, h⟩, fun h => h.2.2⟩
    · rw [if_neg (fun h => h2 (by simp at h; exact Prod.ext h.1 h.2)), decide_eq_false (fun h => h2 h.2.1)]
  · rw [if_neg (fun h => h1 (by simp at h; exact Prod.ext h.1 h.2)), decide_eq_false (fun h => h1 h.1)]
theorem bocageref03_Of.eq (s a t b : Int) (k : Nat) (hk : 1 ≤ k) : bocageref03_Of.f k s a t b = some (if cmp2 (canon s a) (canon t b) < 0 then ((canon s a).1, (canon s a).2, (canon t b).1, (canon t b).2, 0) else (0, 0, 0, 0, 30)) := by
  unfold bocageref03_Of.f
  rw [bocageref02_Canon.eq s a k hk, Option.bind_some, bocageref02_Canon.eq t b k hk, Option.bind_some, bocageref03_Right.eq _ _ _ _ k hk, Option.bind_some]
  have e : decide (RS ((canon s a).1, (canon s a).2) ((canon t b).1, (canon t b).2)) = decide (cmp2 (canon s a) (canon t b) < 0) := by
    unfold RS
    simp [canon_idem]
  rw [e]
  by_cases h : cmp2 (canon s a) (canon t b) < 0
  · rw [decide_eq_true h, if_pos rfl, if_pos h]
  · rw [decide_eq_false h, if_neg Bool.false_ne_true, if_neg h]
theorem bocageref03_Of.eqC {p q : Int × Int} (hp : CC p) (hq : CC q) (k : Nat) (hk : 1 ≤ k) : bocageref03_Of.f k p.1 p.2 q.1 q.2 = some (spanOf p q) := by
  rw [bocageref03_Of.eq _ _ _ _ k hk, hp.canon, hq.canon]; rfl
theorem bocageref04_Span.eq {la ha : Int} (hla : I64 la) (hha : I64 ha) (lk hk : Int) (k : Nat) (hk5 : 8 ≤ k) : bocageref04_Span.f k lk la hk ha = some (spanB lk la hk ha) := by
  obtain ⟨k, rfl⟩ : ∃ j, k = j + 4 := ⟨k - 4, by omega⟩
  have hj : bocageref04_Span.j0 (k + 4) true lk la hk ha = some (0, 0, 0, 0, 40) := by rw [bocageref04_Span.j0, if_pos rfl]
  unfold bocageref04_Span.f
  by_cases h1 : lk < 0
  · rw [if_pos h1, hj]; unfold spanB; rw [if_pos (by omega)]
  rw [if_neg h1]
  by_cases h2 : lk > 2
  · rw [if_pos h2, hj]; unfold spanB; rw [if_pos (by omega)]
  rw [if_neg h2]
  by_cases h3 : hk < 0
  · rw [if_pos h3, hj]; unfold spanB; rw [if_pos (by omega)]
  rw [if_neg h3]
  by_cases h4 : hk > 2
  · rw [decide_eq_true h4, hj]; unfold spanB; rw [if_pos (by omega)]
  rw [decide_eq_false h4, bocageref04_Span.j0, if_neg Bool.false_ne_true, bocageref02_Behind.eq hla, Option.bind_some]
  have hs : spanB lk la hk ha = spanOf (lowC lk la) (highC hk ha) := if_neg (by omega)
  have key3 : ∀ p q : Int × Int, CC p → CC q → bocageref04_Span.j3 (k + 1) hk ha p.1 p.2 q.1 q.2 = some (spanOf p (if hk = 2 then behindOf ha else q)) := by
    intro p q hp hq
    rw [bocageref04_Span.j3, bocageref02_Behind.eq hha, Option.bind_some]
    by_cases e : hk = 2
    · rw [if_pos e, if_pos e, bocageref03_Of.eqC hp (behindOf_CC hha) k (by omega)]; rfl
    · rw [if_neg e, if_neg e, bocageref03_Of.eqC hp hq k (by omega)]; rfl
  have key2 : ∀ p : Int × Int, CC p → bocageref04_Span.j2 (k + 2) hk ha p.1 p.2 1 0 = some (spanOf p (highC hk ha)) := by
    intro p hp
    rw [bocageref04_Span.j2, bocageref02_Ahead.eq ha (k + 1) (by omega), Option.bind_some]
    unfold highC
    by_cases e1 : hk = 1
    · rw [if_pos e1, if_pos e1, key3 p _ hp (canon_CC hha), if_neg (by omega)]
    · rw [if_neg e1, if_neg e1, show bocageref04_Span.j3 (k + 1) hk ha p.1 p.2 1 0 = _ from key3 p (1, 0) hp (.inr (.inl rfl))]
  have key1 : ∀ p : Int × Int, CC p → bocageref04_Span.j1 (k + 3) lk la hk ha p.1 p.2 1 0 = some (spanOf (if lk = 2 then canon 0 la else p) (highC hk ha)) := by
    intro p hp
    rw [bocageref04_Span.j1, bocageref02_Ahead.eq la (k + 2) (by omega), Option.bind_some]
    by_cases e1 : lk = 2
    · rw [if_pos e1, if_pos e1, key2 _ (canon_CC hla)]
    · rw [if_neg e1, if_neg e1, key2 _ hp]
  rw [hs]
  unfold lowC
  by_cases e1 : lk = 1
  · rw [if_pos e1, if_pos e1, key1 _ (behindOf_CC hla), if_neg (by omega)]
  · rw [if_neg e1, if_neg e1, show bocageref04_Span.j1 (k + 3) lk la hk ha (-1) 0 1 0 = _ from key1 (-1, 0) (.inl rfl)]

end Go.Proofs.Ytpeidnkbliafkaa.Print

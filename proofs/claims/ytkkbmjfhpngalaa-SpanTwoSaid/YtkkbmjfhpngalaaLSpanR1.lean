import Derived.Test.YtkkbmjfhpngalaaPrint5
import Derived.Test.YtkkbmjfhpngalaaPrint6
import Derived.Test.YtkkbmjfhpngalaaLSpanP
import Derived.Test.YtkkbmjfhpngalaaLCutL
import Derived.Test.YtkkbmjfhpngalaaLCutNx
namespace Go.Proofs.Ytkkbmjfhpngalaa.Print
open Go.RowKit Go.Proofs.YtkkbmjfhpngalaaW.PrintWords Go.Proofs.YtkkbmjfhpngalaaW.PrintLast
set_option linter.unusedVariables false
set_option linter.unusedSimpArgs false
theorem bocageref03_Right.eq (s a t b : Int) (k : Nat) (hk : 1 ≤ k) : bocageref03_Right.f k s a t b = some (decide (RS (s, a) (t, b))) := by
  unfold bocageref03_Right.f
  rw [bocageref02_Canon.eq s a k hk, Option.bind_some]
  by_cases h1 : canon s a = (s, a)
  · rw [h1, if_pos (by simp), bocageref02_Canon.eq t b k hk, Option.bind_some]
    by_cases h2 : canon t b = (t, b)
    · rw [h2, if_pos (by simp), bocageref02_Less.eq _ _ _ _ k hk, Option.bind_some, h1, h2]
      congr 1
      rw [Bool.eq_iff_iff, decide_eq_true_eq, decide_eq_true_eq]
      exact ⟨fun h => ⟨h1, h2, h⟩, fun h => h.2.2⟩
    · rw [if_neg (fun h => h2 (by simp at h; exact Prod.ext h.1 h.2)), decide_eq_false (fun h => h2 h.2.1)]
  · rw [if_neg (fun h => h1 (by simp at h; exact Prod.ext h.1 h.2)), decide_eq_false (fun h => h1 h.1)]
theorem canon_pos {n : Int} (hn : I64 n) : CC (canon 0 n) ∧ pos (canon 0 n) = n := by
  refine ⟨canon_CC hn, ?_⟩
  unfold I64 at hn
  by_cases h : n = -9223372036854775808
  · subst h; rfl
  · rw [canon_zero (by omega)]; unfold pos; rw [if_neg (by show ¬ (0 : Int) < 0; omega), if_neg (by show ¬ (0 : Int) > 0; omega)]
/-- has it the number -/
def hasB (x : Sp) (n : Int) : Bool := decide (RS (lo x) (hi x)) && (decide (pos (lo x) ≤ n) && decide (n < pos (hi x)))
theorem hasB_iff {x : Sp} (w : WS x) {n : Int} : hasB x n = true ↔ RR x ∧ pos (lo x) ≤ n ∧ n < pos (hi x) := by
  unfold hasB
  rw [Bool.and_eq_true, Bool.and_eq_true, decide_eq_true_eq, decide_eq_true_eq, decide_eq_true_eq, RS_iff w]
theorem bocageref03_Has.eq (x : Sp) (w : WS x) {n : Int} (hn : I64 n) (k : Nat) (hk : 1 ≤ k) : bocageref03_Has.f k x.f0.f0 x.f0.f1 x.f1.f0 x.f1.f1 n = some (hasB x n) := by
  unfold bocageref03_Has.f
  obtain ⟨c1, c2⟩ := canon_pos hn
  rw [bocageref02_Ahead.eq n k hk, Option.bind_some, bocageref03_Right.eq _ _ _ _ k hk, Option.bind_some]
  have eR : decide (RS (x.f0.f0, x.f0.f1) (x.f1.f0, x.f1.f1)) = decide (RS (lo x) (hi x)) := rfl
  rw [eR]
  by_cases h : RS (lo x) (hi x)
  · have hr := (RS_iff w).1 h
    have e1 : canon x.f0.f0 x.f0.f1 = lo x := h.1
    have e2 : canon x.f1.f0 x.f1.f1 = hi x := h.2.1
    rw [decide_eq_true h, if_pos rfl, bocageref02_Less.eq _ _ _ _ k hk, Option.bind_some, bocageref02_Less.eq _ _ _ _ k hk, canon_idem, e1, e2]
    unfold hasB
    rw [decide_eq_true h, Bool.true_and]
    by_cases h2 : cmp2 (canon 0 n) (lo x) < 0
    · have := (cmp2_pos c1 hr.1).1 h2
      rw [c2] at this
      rw [decide_eq_true h2, if_pos rfl, decide_eq_false (by omega), Bool.false_and]
    · have := fun g => h2 ((cmp2_pos c1 hr.1).2 g)
      rw [c2] at this
      rw [decide_eq_false h2, if_neg Bool.false_ne_true, Option.bind_some, decide_eq_true (p := pos (lo x) ≤ n) (Int.not_lt.1 this), Bool.true_and]
      congr 1
      rw [Bool.eq_iff_iff, decide_eq_true_eq, decide_eq_true_eq, cmp2_pos c1 hr.2.1, c2]
  · rw [decide_eq_false h, if_neg Bool.false_ne_true]
    unfold hasB
    rw [decide_eq_false h, Bool.false_and]
def anyB (l : List Sp) (n : Int) : Bool := l.any (fun x => hasB x n)
theorem anyB_iff {l : List Sp} (w : ∀ x ∈ l, WS x) {n : Int} : anyB l n = true ↔ Any l n := by
  unfold anyB
  rw [List.any_eq_true]
  exact ⟨fun ⟨x, hx, h⟩ => ⟨x, hx, (hasB_iff (w x hx)).1 h⟩, fun ⟨x, hx, h⟩ => ⟨x, hx, (hasB_iff (w x hx)).2 h⟩⟩
theorem rdS {l : List Sp} {i : Nat} (h : i < l.length) : rd_T25 l (i : Int) = l[i] := by simp [rd_T25, List.getD, h]

end Go.Proofs.Ytkkbmjfhpngalaa.Print

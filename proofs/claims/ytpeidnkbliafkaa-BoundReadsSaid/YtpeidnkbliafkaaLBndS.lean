import Derived.Test.YtpeidnkbliafkaaPrint1
import Derived.Test.YtpeidnkbliafkaaPrint2
import Derived.Test.YtpeidnkbliafkaaLCutA
import Derived.Test.YtpeidnkbliafkaaLCutN
namespace Go.Proofs.Ytpeidnkbliafkaa.Print
open Go.RowKit Go.Proofs.YtpeidnkbliafkaaW.PrintWords Go.Proofs.YtpeidnkbliafkaaW.PrintLast
set_option linter.unusedVariables false
set_option linter.unusedSimpArgs false
theorem canon_idem (s a : Int) : canon (canon s a).1 (canon s a).2 = canon s a := by
  unfold canon
  by_cases h1 : s < 0 ∨ (s = 0 ∧ a = -9223372036854775808)
  · rw [if_pos h1]; rfl
  · rw [if_neg h1]
    by_cases h2 : s > 0
    · rw [if_pos h2]; rfl
    · rw [if_neg h2]; rw [if_neg h1, if_neg h2]
def RS (l h : Int × Int) : Prop := canon l.1 l.2 = l ∧ canon h.1 h.2 = h ∧ cmp2 l h < 0
instance (l h : Int × Int) : Decidable (RS l h) := inferInstanceAs (Decidable (_ ∧ _ ∧ _))
theorem cut_Right.eqd (s a : Int) (k : Nat) (hk : 1 ≤ k) : cut_Right.f k s a = some (decide (canon s a = (s, a))) := by
  unfold cut_Right.f
  rw [cut_Canon.eq s a k hk, Option.bind_some]
  congr 1
  rw [Bool.eq_iff_iff]
  simp [Prod.ext_iff]
theorem span_Right.eq (s a t b : Int) (k : Nat) (hk : 3 ≤ k) : span_Right.f k s a t b = some (decide (RS (s, a) (t, b))) := by
  unfold span_Right.f
  rw [cut_Right.eqd s a k (by omega), Option.bind_some]
  by_cases h1 : canon s a = (s, a)
  · rw [decide_eq_true h1, if_pos rfl, cut_Right.eqd t b k (by omega), Option.bind_some]
    by_cases h2 : canon t b = (t, b)
    · rw [decide_eq_true h2, if_pos rfl, cut_Compare.eq _ _ _ _ k hk, Option.bind_some, h1, h2]
      congr 1
      rw [Bool.eq_iff_iff, decide_eq_true_eq, decide_eq_true_eq]
      exact ⟨fun h => ⟨h1, h2, h⟩, fun h => h.2.2⟩
    · rw [decide_eq_false h2, if_neg Bool.false_ne_true, decide_eq_false (fun h => h2 h.2.1)]
  · rw [decide_eq_false h1, if_neg Bool.false_ne_true, decide_eq_false (fun h => h1 h.1)]
theorem span_Of.eq (s a t b : Int) (k : Nat) (hk : 3 ≤ k) : span_Of.f k s a t b = some (if cmp2 (canon s a) (canon t b) < 0 then ((canon s a).1, (canon s a).2, (canon t b).1, (canon t b).2, 0) else (0, 0, 0, 0, 30)) := by
  unfold span_Of.f
  rw [cut_Canon.eq s a k (by omega), Option.bind_some, cut_Canon.eq t b k (by omega), Option.bind_some, span_Right.eq _ _ _ _ k hk, Option.bind_some]
  have e : decide (RS ((canon s a).1, (canon s a).2) ((canon t b).1, (canon t b).2)) = decide (cmp2 (canon s a) (canon t b) < 0) := by
    unfold RS
    simp [canon_idem]
  rw [e]
  by_cases h : cmp2 (canon s a) (canon t b) < 0
  · rw [decide_eq_true h, if_pos rfl, if_pos h]
  · rw [decide_eq_false h, if_neg Bool.false_ne_true, if_neg h]
/-- the span between two cuts, or that it has no number -/
def spanOf (p q : Int × Int) : Int × Int × Int × Int × Int := if cmp2 p q < 0 then (p.1, p.2, q.1, q.2, 0) else (0, 0, 0, 0, 30)
def lowC (k a : Int) : Int × Int := if k = 1 then behindOf a else if k = 2 then canon 0 a else (-1, 0)
def highC (k a : Int) : Int × Int := if k = 1 then canon 0 a else if k = 2 then behindOf a else (1, 0)
/-- the span of two bounds -/
def spanB (lk la hk ha : Int) : Int × Int × Int × Int × Int := if lk < 0 ∨ lk > 2 ∨ hk < 0 ∨ hk > 2 then (0, 0, 0, 0, 40) else spanOf (lowC lk la) (highC hk ha)
theorem lowC_CC {a : Int} (ha : I64 a) (k : Int) : CC (lowC k a) := by
  unfold lowC
  split
  · exact behindOf_CC ha
  · split
    · exact canon_CC ha
    · exact .inl rfl
theorem highC_CC {a : Int} (ha : I64 a) (k : Int) : CC (highC k a) := by
  unfold highC
  split
  · exact canon_CC ha
  · split
    · exact behindOf_CC ha
    · exact .inr (.inl rfl)
theorem spanOf_bind (r : Int × Int × Int × Int × Int) : (some r).bind (fun t => some (t.1, t.2.1, t.2.2.1, t.2.2.2.1, t.2.2.2.2)) = some r := rfl
theorem span_Of.eqC {p q : Int × Int} (hp : CC p) (hq : CC q) (k : Nat) (hk : 3 ≤ k) : span_Of.f k p.1 p.2 q.1 q.2 = some (spanOf p q) := by
  rw [span_Of.eq _ _ _ _ k hk, hp.canon, hq.canon]; rfl
theorem bound_Span.eq {la ha : Int} (hla : I64 la) (hha : I64 ha) (lk hk : Int) (k : Nat) (hk5 : 5 ≤ k) : bound_Span.f k lk la hk ha = some (spanB lk la hk ha) := by
  obtain ⟨k, rfl⟩ : ∃ j, k = j + 2 := ⟨k - 2, by omega⟩
  have hr : ∀ x y : Int, bound_right.f x y = some (decide (0 ≤ x ∧ x ≤ 2)) := by
    intro x y
    unfold bound_right.f
    by_cases h : x ≥ 0
    · rw [if_pos h]; congr 1; rw [Bool.eq_iff_iff]; simp; omega
    · rw [if_neg h]; congr 1; rw [Bool.eq_iff_iff]; simp; omega
  have hj : bound_Span.j0 (k + 2) true lk la hk ha = some (0, 0, 0, 0, 40) := by rw [bound_Span.j0, if_pos rfl]
  unfold bound_Span.f
  rw [hr, Option.bind_some]
  by_cases h1 : 0 ≤ lk ∧ lk ≤ 2
  · rw [decide_eq_true h1, if_pos rfl, hr, Option.bind_some]
    by_cases h2 : 0 ≤ hk ∧ hk ≤ 2
    · rw [decide_eq_true h2, Bool.not_true, bound_Span.j0, if_neg Bool.false_ne_true, show cut_First.f = some (-1, 0) from rfl, show cut_Last.f = some (1, 0) from rfl, Option.bind_some, Option.bind_some, cut_Behind.eq hla, cut_Ahead.eq la (k + 1) (by omega), Option.bind_some, Option.bind_some]
      have hs : spanB lk la hk ha = spanOf (lowC lk la) (highC hk ha) := if_neg (by omega)
      have key : ∀ p : Int × Int, CC p → bound_Span.j1 (k + 1) hk ha p.1 p.2 1 0 = some (spanOf p (highC hk ha)) := by
        intro p hp
        rw [bound_Span.j1, cut_Ahead.eq ha k (by omega), cut_Behind.eq hha, Option.bind_some, Option.bind_some]
        unfold highC
        by_cases e1 : hk = 1
        · rw [if_pos e1, if_pos e1, span_Of.eqC hp (canon_CC hha) k (by omega)]; rfl
        · rw [if_neg e1, if_neg e1]
          by_cases e2 : hk = 2
          · rw [if_pos e2, if_pos e2, span_Of.eqC hp (behindOf_CC hha) k (by omega)]; rfl
          · rw [if_neg e2, if_neg e2, show span_Of.f k p.1 p.2 1 0 = some (spanOf p (1, 0)) from span_Of.eqC hp (.inr (.inl rfl)) k (by omega)]; rfl
      rw [hs]
      unfold lowC
      by_cases e1 : lk = 1
      · rw [if_pos e1, if_pos e1, key _ (behindOf_CC hla)]
      · rw [if_neg e1, if_neg e1]
        by_cases e2 : lk = 2
        · rw [if_pos e2, if_pos e2, key _ (canon_CC hla)]
        · rw [if_neg e2, if_neg e2]; exact key (-1, 0) (.inl rfl)
    · rw [decide_eq_false h2, Bool.not_false, hj]
      unfold spanB; rw [if_pos (by omega)]
  · rw [decide_eq_false h1, if_neg Bool.false_ne_true, hj]
    unfold spanB; rw [if_pos (by omega)]

end Go.Proofs.Ytpeidnkbliafkaa.Print

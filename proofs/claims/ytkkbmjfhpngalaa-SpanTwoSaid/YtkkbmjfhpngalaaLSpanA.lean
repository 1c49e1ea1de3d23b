import Derived.Test.YtkkbmjfhpngalaaPrint1
import Derived.Test.YtkkbmjfhpngalaaPrint2
import Derived.Test.YtkkbmjfhpngalaaLCutA
namespace Go.Proofs.Ytkkbmjfhpngalaa.Print
open Go.RowKit Go.Proofs.YtkkbmjfhpngalaaW.PrintWords Go.Proofs.YtkkbmjfhpngalaaW.PrintLast
set_option linter.unusedVariables false
set_option linter.unusedSimpArgs false
abbrev Sp := S25
abbrev Ct := S23
theorem canon_idem (s a : Int) : canon (canon s a).1 (canon s a).2 = canon s a := by
  unfold canon
  by_cases h1 : s < 0 ∨ (s = 0 ∧ a = -9223372036854775808)
  · rw [if_pos h1]; rfl
  · rw [if_neg h1]
    by_cases h2 : s > 0
    · rw [if_pos h2]; rfl
    · rw [if_neg h2]; rw [if_neg h1, if_neg h2]
theorem canon_sides (s a : Int) : (canon s a = (-1, 0)) ∨ (canon s a = (1, 0)) ∨ (∃ b, canon s a = (0, b)) := by
  unfold canon
  by_cases h1 : s < 0 ∨ (s = 0 ∧ a = -9223372036854775808)
  · rw [if_pos h1]; exact .inl rfl
  · rw [if_neg h1]
    by_cases h2 : s > 0
    · rw [if_pos h2]; exact .inr (.inl rfl)
    · rw [if_neg h2]; exact .inr (.inr ⟨a, by rw [show s = 0 by omega]⟩)
def minC (p q : Int × Int) : Int × Int := if cmp2 q p < 0 then q else p
def maxC (p q : Int × Int) : Int × Int := if cmp2 q p > 0 then q else p
theorem cut_Least.eq2 (p q : Ct) (k : Nat) (hk : 9 ≤ k) : cut_Least.f k [p, q] = some (minC (canon p.f0 p.f1) (canon q.f0 q.f1)) := by
  obtain ⟨k, rfl⟩ : ∃ j, k = j + 3 := ⟨k - 3, by omega⟩
  have h1 := cut_Compare.eq p.f0 p.f1 1 0 (k + 2) (by omega)
  have h2 := cut_Canon.eq p.f0 p.f1 (k + 2) (by omega)
  have h3 := cut_Canon.eq q.f0 q.f1 (k + 1) (by omega)
  have h4 := fun s a => cut_Compare.eq q.f0 q.f1 s a (k + 1) (by omega)
  have hc : canon 1 0 = (1, 0) := rfl
  have hcases := cmp2_cases (canon p.f0 p.f1) (1, 0)
  have hs := canon_sides p.f0 p.f1
  obtain ⟨m, rfl⟩ : ∃ m, k = m + 1 := ⟨k - 1, by omega⟩
  unfold cut_Least.f
  show cut_Least.l0 (m + 1 + 3) [p, q] 2 0 1 0 = _
  rw [cut_Least.l0, if_pos (by decide), if_pos (by decide), if_pos (by simp)]
  simp only [rd_T23, Int.toNat_zero, List.getD_cons_zero]
  rw [h1, hc]
  simp only [Option.bind_some]
  have hw : wrap64 (0 + 1) = 1 := by unfold wrap64; omega
  have hw2 : wrap64 (1 + 1) = 2 := by unfold wrap64; omega
  have key : ∀ r : Int × Int, canon r.1 r.2 = r → cut_Least.l0 (m + 1 + 2) [p, q] 2 (wrap64 (0 + 1)) r.1 r.2 = some (minC r (canon q.f0 q.f1)) := by
    intro r hr
    rw [hw, cut_Least.l0, if_pos (by decide), if_pos (by decide), if_pos (by simp)]
    simp only [rd_T23, show (1 : Int).toNat = 1 from rfl, List.getD_cons_succ, List.getD_cons_zero]
    rw [h4, hr]
    simp only [Option.bind_some]
    unfold minC
    by_cases h : cmp2 (canon q.f0 q.f1) r < 0
    · rw [if_pos h, if_pos h, h3, hw2]
      simp only [Option.bind_some]
      rw [cut_Least.l0, if_neg (by decide)]
    · rw [if_neg h, if_neg h, hw2, cut_Least.l0, if_neg (by decide)]
  by_cases h : cmp2 (canon p.f0 p.f1) (1, 0) < 0
  · rw [if_pos h, h2]
    simp only [Option.bind_some]
    exact key _ (canon_idem _ _)
  · rw [if_neg h]
    have : canon p.f0 p.f1 = (1, 0) := by
      rcases hs with e | e | ⟨b, e⟩
      · rw [e] at h; exact absurd (by decide) h
      · exact e
      · rw [e] at h; exact absurd (by unfold cmp2; simp) h
    rw [this]
    exact key (1, 0) rfl
theorem cut_Greatest.eq2 (p q : Ct) (k : Nat) (hk : 9 ≤ k) : cut_Greatest.f k [p, q] = some (maxC (canon p.f0 p.f1) (canon q.f0 q.f1)) := by
  obtain ⟨k, rfl⟩ : ∃ j, k = j + 3 := ⟨k - 3, by omega⟩
  have h1 := cut_Compare.eq p.f0 p.f1 (-1) 0 (k + 2) (by omega)
  have h2 := cut_Canon.eq p.f0 p.f1 (k + 2) (by omega)
  have h3 := cut_Canon.eq q.f0 q.f1 (k + 1) (by omega)
  have h4 := fun s a => cut_Compare.eq q.f0 q.f1 s a (k + 1) (by omega)
  have hc : canon (-1) 0 = (-1, 0) := rfl
  have hs := canon_sides p.f0 p.f1
  obtain ⟨m, rfl⟩ : ∃ m, k = m + 1 := ⟨k - 1, by omega⟩
  unfold cut_Greatest.f
  show cut_Greatest.l0 (m + 1 + 3) [p, q] 2 0 (-1) 0 = _
  rw [cut_Greatest.l0, if_pos (by decide), if_pos (by decide), if_pos (by simp)]
  simp only [rd_T23, Int.toNat_zero, List.getD_cons_zero]
  rw [h1, hc]
  simp only [Option.bind_some]
  have hw : wrap64 (0 + 1) = 1 := by unfold wrap64; omega
  have hw2 : wrap64 (1 + 1) = 2 := by unfold wrap64; omega
  have key : ∀ r : Int × Int, canon r.1 r.2 = r → cut_Greatest.l0 (m + 1 + 2) [p, q] 2 (wrap64 (0 + 1)) r.1 r.2 = some (maxC r (canon q.f0 q.f1)) := by
    intro r hr
    rw [hw, cut_Greatest.l0, if_pos (by decide), if_pos (by decide), if_pos (by simp)]
    simp only [rd_T23, show (1 : Int).toNat = 1 from rfl, List.getD_cons_succ, List.getD_cons_zero]
    rw [h4, hr]
    simp only [Option.bind_some]
    unfold maxC
    by_cases h : cmp2 (canon q.f0 q.f1) r > 0
    · rw [if_pos h, if_pos h, h3, hw2]
      simp only [Option.bind_some]
      rw [cut_Greatest.l0, if_neg (by decide)]
    · rw [if_neg h, if_neg h, hw2, cut_Greatest.l0, if_neg (by decide)]
  by_cases h : cmp2 (canon p.f0 p.f1) (-1, 0) > 0
  · rw [if_pos h, h2]
    simp only [Option.bind_some]
    exact key _ (canon_idem _ _)
  · rw [if_neg h]
    have : canon p.f0 p.f1 = (-1, 0) := by
      rcases hs with e | e | ⟨b, e⟩
      · exact e
      · rw [e] at h; exact absurd (by decide) h
      · rw [e] at h; exact absurd (by unfold cmp2; simp) h
    rw [this]
    exact key (-1, 0) rfl
/-- a right span -/
def RS (l h : Int × Int) : Prop := canon l.1 l.2 = l ∧ canon h.1 h.2 = h ∧ cmp2 l h < 0
instance (l h : Int × Int) : Decidable (RS l h) := inferInstanceAs (Decidable (_ ∧ _ ∧ _))
theorem cut_Right.eqd (s a : Int) (k : Nat) (hk : 1 ≤ k) : cut_Right.f k s a = some (decide (canon s a = (s, a))) := by
  unfold cut_Right.f
  rw [cut_Canon.eq s a k hk, Option.bind_some]
  congr 1
  rw [Bool.eq_iff_iff]
  simp [Prod.ext_iff]
theorem span_Right.eq (s a t b : Int) (k : Nat) (hk : 3 ≤ k) : span_Right.f k s a t b = some (decide (RS (s, a) (t, b))) := by
  unfold span_Right.f
  rw [cut_Right.eqd s a k (by omega), Option.bind_some]
  by_cases h1 : canon s a = (s, a)
  · rw [decide_eq_true h1, if_pos rfl, cut_Right.eqd t b k (by omega), Option.bind_some]
    by_cases h2 : canon t b = (t, b)
    · rw [decide_eq_true h2, if_pos rfl, cut_Compare.eq _ _ _ _ k hk, Option.bind_some, h1, h2]
      congr 1
      rw [Bool.eq_iff_iff, decide_eq_true_eq, decide_eq_true_eq]
      exact ⟨fun h => ⟨h1, h2, h⟩, fun h => h.2.2⟩
    · rw [decide_eq_false h2, if_neg Bool.false_ne_true, decide_eq_false (fun h => h2 h.2.1)]
  · rw [decide_eq_false h1, if_neg Bool.false_ne_true, decide_eq_false (fun h => h1 h.1)]
theorem span_both.eq (s a t b s' a' t' b' : Int) (k : Nat) (hk : 3 ≤ k) : span_both.f k s a t b s' a' t' b' = some (decide (RS (s, a) (t, b) ∧ RS (s', a') (t', b'))) := by
  unfold span_both.f
  rw [span_Right.eq s a t b k hk, Option.bind_some]
  by_cases h1 : RS (s, a) (t, b)
  · rw [decide_eq_true h1, if_pos rfl, span_Right.eq _ _ _ _ k hk, Option.bind_some]; simp [h1]
  · rw [decide_eq_false h1, if_neg Bool.false_ne_true]; simp [h1]
/-- the span between two places, if it has a number -/
theorem span_Of.eq (s a t b : Int) (k : Nat) (hk : 3 ≤ k) : span_Of.f k s a t b = some (if cmp2 (canon s a) (canon t b) < 0 then ((canon s a).1, (canon s a).2, (canon t b).1, (canon t b).2, 0) else (0, 0, 0, 0, 30)) := by
  unfold span_Of.f
  rw [cut_Canon.eq s a k (by omega), Option.bind_some, cut_Canon.eq t b k (by omega), Option.bind_some, span_Right.eq _ _ _ _ k hk, Option.bind_some]
  have e : decide (RS ((canon s a).1, (canon s a).2) ((canon t b).1, (canon t b).2)) = decide (cmp2 (canon s a) (canon t b) < 0) := by
    unfold RS
    simp [canon_idem]
  rw [e]
  by_cases h : cmp2 (canon s a) (canon t b) < 0
  · rw [decide_eq_true h, if_pos rfl, if_pos h]
  · rw [decide_eq_false h, if_neg Bool.false_ne_true, if_neg h]
theorem maxC_canon {p q : Int × Int} (hp : canon p.1 p.2 = p) (hq : canon q.1 q.2 = q) : canon (maxC p q).1 (maxC p q).2 = maxC p q := by
  unfold maxC; split <;> assumption
theorem minC_canon {p q : Int × Int} (hp : canon p.1 p.2 = p) (hq : canon q.1 q.2 = q) : canon (minC p q).1 (minC p q).2 = minC p q := by
  unfold minC; split <;> assumption
theorem span_Meet.eq (s a t b s' a' t' b' : Int) (k : Nat) (hk : 9 ≤ k) : span_Meet.f k s a t b s' a' t' b' =
    some (if RS (s, a) (t, b) ∧ RS (s', a') (t', b') ∧ cmp2 (maxC (s, a) (s', a')) (minC (t, b) (t', b')) < 0 then ((maxC (s, a) (s', a')).1, (maxC (s, a) (s', a')).2, (minC (t, b) (t', b')).1, (minC (t, b) (t', b')).2, true) else (0, 0, 0, 0, false)) := by
  unfold span_Meet.f
  rw [span_both.eq _ _ _ _ _ _ _ _ k (by omega), Option.bind_some]
  by_cases h : RS (s, a) (t, b) ∧ RS (s', a') (t', b')
  · obtain ⟨h1, h2⟩ := h
    rw [decide_eq_true ⟨h1, h2⟩, if_pos rfl, cut_Greatest.eq2 _ _ k hk, Option.bind_some, cut_Least.eq2 _ _ k hk, Option.bind_some, span_Of.eq _ _ _ _ k (by omega), Option.bind_some]
    dsimp only
    have e1 : canon s a = (s, a) := h1.1
    have e2 : canon t b = (t, b) := h1.2.1
    have e3 : canon s' a' = (s', a') := h2.1
    have e4 : canon t' b' = (t', b') := h2.2.1
    rw [e1, e2, e3, e4, maxC_canon (p := (s, a)) (q := (s', a')) e1 e3, minC_canon (p := (t, b)) (q := (t', b')) e2 e4]
    by_cases h3 : cmp2 (maxC (s, a) (s', a')) (minC (t, b) (t', b')) < 0
    · rw [if_pos h3, if_pos ⟨h1, h2, h3⟩]; rfl
    · rw [if_neg h3, if_neg (fun hh => h3 hh.2.2)]; rfl
  · rw [decide_eq_false h, if_neg Bool.false_ne_true, if_neg (fun hh => h ⟨hh.1, hh.2.1⟩)]
theorem span_Overlap.eq (s a t b s' a' t' b' : Int) (k : Nat) (hk : 9 ≤ k) : span_Overlap.f k s a t b s' a' t' b' = some (decide (RS (s, a) (t, b) ∧ RS (s', a') (t', b') ∧ cmp2 (maxC (s, a) (s', a')) (minC (t, b) (t', b')) < 0)) := by
  unfold span_Overlap.f
  rw [span_Meet.eq _ _ _ _ _ _ _ _ k hk, Option.bind_some]
  by_cases h : RS (s, a) (t, b) ∧ RS (s', a') (t', b') ∧ cmp2 (maxC (s, a) (s', a')) (minC (t, b) (t', b')) < 0
  · rw [if_pos h, decide_eq_true h]
  · rw [if_neg h, decide_eq_false h]
theorem span_Touch.eq (s a t b s' a' t' b' : Int) (k : Nat) (hk : 9 ≤ k) : span_Touch.f k s a t b s' a' t' b' = some (decide (RS (s, a) (t, b) ∧ RS (s', a') (t', b') ∧ ((t, b) = (s', a') ∨ (t', b') = (s, a)))) := by
  unfold span_Touch.f
  rw [span_both.eq _ _ _ _ _ _ _ _ k (by omega), Option.bind_some]
  by_cases h : RS (s, a) (t, b) ∧ RS (s', a') (t', b')
  · rw [decide_eq_true h, if_pos rfl]
    by_cases h1 : (t == s' && (b == a')) = true
    · rw [if_pos h1]; congr 1; symm; rw [decide_eq_true_eq]; simp at h1; exact ⟨h.1, h.2, .inl (Prod.ext h1.1 h1.2)⟩
    · rw [if_neg h1]; congr 1; rw [Bool.eq_iff_iff, decide_eq_true_eq]; simp at h1; simp only [Bool.and_eq_true, beq_iff_eq, Prod.mk.injEq]
      exact ⟨fun e => ⟨h.1, h.2, .inr e⟩, fun e => e.2.2.resolve_left (fun e1 => h1 e1.1 e1.2)⟩
  · rw [decide_eq_false h, if_neg Bool.false_ne_true]; congr 1; symm; rw [decide_eq_false_iff_not]; exact fun hh => h ⟨hh.1, hh.2.1⟩
theorem span_Hull.eq (s a t b s' a' t' b' : Int) (k : Nat) (hk : 9 ≤ k) : span_Hull.f k s a t b s' a' t' b' =
    some (if RS (s, a) (t, b) ∧ RS (s', a') (t', b') then ((minC (s, a) (s', a')).1, (minC (s, a) (s', a')).2, (maxC (t, b) (t', b')).1, (maxC (t, b) (t', b')).2) else (0, 0, 0, 0)) := by
  unfold span_Hull.f
  rw [span_both.eq _ _ _ _ _ _ _ _ k (by omega), Option.bind_some]
  by_cases h : RS (s, a) (t, b) ∧ RS (s', a') (t', b')
  · obtain ⟨h1, h2⟩ := h
    rw [decide_eq_true ⟨h1, h2⟩, if_pos rfl, cut_Least.eq2 _ _ k hk, Option.bind_some, cut_Greatest.eq2 _ _ k hk, Option.bind_some, if_pos ⟨h1, h2⟩]
    dsimp only
    have e1 : canon s a = (s, a) := h1.1
    have e2 : canon t b = (t, b) := h1.2.1
    have e3 : canon s' a' = (s', a') := h2.1
    have e4 : canon t' b' = (t', b') := h2.2.1
    rw [e1, e2, e3, e4]
  · rw [decide_eq_false h, if_neg Bool.false_ne_true, if_neg h]

end Go.Proofs.Ytkkbmjfhpngalaa.Print

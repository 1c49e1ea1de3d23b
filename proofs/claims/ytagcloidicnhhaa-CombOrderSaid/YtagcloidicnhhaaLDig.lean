import Derived.RowKit
import Derived.OpenShut
namespace Go.Proofs.Ytagcloidicnhhaa.Print
set_option linter.unusedVariables false
set_option linter.unusedSimpArgs false

/-- all are digits -/
def DOK (l : List Int) : Prop := ∀ d, d ∈ l → 0 ≤ d ∧ d ≤ 9
/-- the number -/
def dv : List Int → Int
  | [] => 0
  | d :: l => d + 10 * dv l
/-- no nought at the end -/
def Can (l : List Int) : Prop := l = [] ∨ l.getD (l.length - 1) 0 ≠ 0
def dig (l : List Int) (i : Nat) : Int := l.getD i 0
def p10 : Nat → Int
  | 0 => 1
  | n + 1 => 10 * p10 n

theorem p10_pos : ∀ n, 1 ≤ p10 n
  | 0 => by simp [p10]
  | n + 1 => by have := p10_pos n; simp only [p10]; omega
theorem p10_add (a b : Nat) : p10 (a + b) = p10 a * p10 b := by
  induction a with
  | zero => simp [p10]
  | succ a ih => rw [show a + 1 + b = (a + b) + 1 by omega]; simp only [p10]; rw [ih, Int.mul_assoc]
theorem p10_le {a b : Nat} (h : a ≤ b) : p10 a ≤ p10 b := by
  obtain ⟨c, rfl⟩ := Nat.le.dest h
  clear h
  induction c with
  | zero => exact Int.le_refl _
  | succ c ih => have := p10_pos (a + c); rw [show a + (c + 1) = (a + c) + 1 by omega]; simp only [p10]; omega

theorem DOK.nil : DOK [] := fun d h => by cases h
theorem DOK.cons {d : Int} {l : List Int} (h : 0 ≤ d ∧ d ≤ 9) (k : DOK l) : DOK (d :: l) := fun e he => by
  rcases List.mem_cons.1 he with rfl | he
  · exact h
  · exact k e he
theorem DOK.append {a b : List Int} (h : DOK a) (k : DOK b) : DOK (a ++ b) := fun e he => (List.mem_append.1 he).elim (h e) (k e)
theorem DOK.snoc {a : List Int} (h : DOK a) {d : Int} (k : 0 ≤ d ∧ d ≤ 9) : DOK (a ++ [d]) := h.append (DOK.cons k DOK.nil)
theorem DOK.head {d : Int} {l : List Int} (h : DOK (d :: l)) : 0 ≤ d ∧ d ≤ 9 := h d (List.mem_cons_self ..)
theorem DOK.tail {d : Int} {l : List Int} (h : DOK (d :: l)) : DOK l := fun e he => h e (List.mem_cons_of_mem _ he)
theorem DOK.drop {l : List Int} (h : DOK l) (i : Nat) : DOK (l.drop i) := fun e he => h e (List.mem_of_mem_drop he)
theorem DOK.take {l : List Int} (h : DOK l) (i : Nat) : DOK (l.take i) := fun e he => h e (List.mem_of_mem_take he)
theorem DOK.dg {l : List Int} (h : DOK l) (i : Nat) : 0 ≤ dig l i ∧ dig l i ≤ 9 := by
  unfold dig
  by_cases hi : i < l.length
  · rw [List.getD_eq_getElem?_getD, List.getElem?_eq_getElem hi]; exact h _ (List.getElem_mem hi)
  · rw [List.getD_eq_getElem?_getD, List.getElem?_eq_none (by omega)]; simp

theorem dv_nonneg : ∀ {l : List Int}, DOK l → 0 ≤ dv l
  | [], _ => by simp [dv]
  | d :: l, h => by have := dv_nonneg h.tail; have := h.head; simp only [dv]; omega
theorem dv_lt : ∀ {l : List Int}, DOK l → dv l < p10 l.length
  | [], _ => by simp [dv, p10]
  | d :: l, h => by have := dv_lt h.tail; have := h.head; simp only [dv, List.length_cons, p10]; omega
theorem dv_append (a b : List Int) : dv (a ++ b) = dv a + p10 a.length * dv b := by
  induction a with
  | nil => simp [dv, p10]
  | cons d a ih => simp only [List.cons_append, dv, ih, List.length_cons, p10]; rw [Int.mul_add, Int.mul_assoc, Int.add_assoc]
theorem dv_snoc (a : List Int) (d : Int) : dv (a ++ [d]) = dv a + p10 a.length * d := by rw [dv_append]; simp [dv]
theorem dv_split (l : List Int) (i : Nat) (hi : i ≤ l.length) : dv l = dv (l.take i) + p10 i * dv (l.drop i) := by
  have := dv_append (l.take i) (l.drop i)
  rw [List.take_append_drop, List.length_take, Nat.min_eq_left hi] at this
  exact this
theorem dv_drop (l : List Int) (i : Nat) : dv (l.drop i) = dig l i + 10 * dv (l.drop (i + 1)) := by
  by_cases hi : i < l.length
  · rw [List.drop_eq_getElem_cons hi]; simp only [dv]
    unfold dig; rw [List.getD_eq_getElem?_getD, List.getElem?_eq_getElem hi]; rfl
  · rw [List.drop_eq_nil_of_le (by omega), List.drop_eq_nil_of_le (by omega)]
    unfold dig; rw [List.getD_eq_getElem?_getD, List.getElem?_eq_none (by omega)]; simp [dv]
theorem dv_drop_end (l : List Int) (i : Nat) (h : l.length ≤ i) : dv (l.drop i) = 0 := by rw [List.drop_eq_nil_of_le h]; rfl
/-- which one is more, seen from place i on: it is so on the whole -/
theorem dv_more {a b : List Int} (ha : DOK a) (hb : DOK b) (i : Nat) (h : dv (b.drop i) < dv (a.drop i)) : dv b < dv a := by
  have hi : ∀ l : List Int, DOK l → ∃ t, 0 ≤ t ∧ t < p10 i ∧ dv l = t + p10 i * dv (l.drop i) := by
    intro l hl
    by_cases hi : i ≤ l.length
    · refine ⟨dv (l.take i), dv_nonneg (hl.take i), ?_, dv_split l i hi⟩
      have := dv_lt (hl.take i); rw [List.length_take, Nat.min_eq_left hi] at this; exact this
    · refine ⟨dv l, dv_nonneg hl, ?_, ?_⟩
      · have := dv_lt hl; have := p10_le (show l.length ≤ i by omega); omega
      · rw [dv_drop_end l i (by omega)]; simp
  obtain ⟨s, s0, s1, hs⟩ := hi a ha
  obtain ⟨t, t0, t1, ht⟩ := hi b hb
  have hm : p10 i * (dv (b.drop i) + 1) ≤ p10 i * dv (a.drop i) := Int.mul_le_mul_of_nonneg_left (by omega) (by have := p10_pos i; omega)
  rw [Int.mul_add, Int.mul_one] at hm
  omega
theorem can_nil : Can [] := .inl rfl
theorem can_last {l : List Int} (h : Can l) (hl : l ≠ []) : l.getD (l.length - 1) 0 ≠ 0 := h.resolve_left hl
theorem dv_pos {l : List Int} (h : DOK l) (hc : Can l) (hl : l ≠ []) : 0 < dv l := by
  have hn : 0 < l.length := List.length_pos_iff.2 hl
  have h1 := dv_split l (l.length - 1) (by omega)
  have h2 := dv_drop l (l.length - 1)
  rw [dv_drop_end l (l.length - 1 + 1) (by omega)] at h2
  have h3 : dig l (l.length - 1) ≠ 0 := can_last hc hl
  have h4 := h.dg (l.length - 1)
  have h5 := dv_nonneg (h.take (l.length - 1))
  have h6 := p10_pos (l.length - 1)
  have h7 : 1 ≤ dig l (l.length - 1) := by omega
  have h8 : p10 (l.length - 1) * 1 ≤ p10 (l.length - 1) * dv (l.drop (l.length - 1)) := Int.mul_le_mul_of_nonneg_left (by omega) (by omega)
  omega
theorem dv_low {l : List Int} (h : DOK l) (hc : Can l) (hl : l ≠ []) : p10 (l.length - 1) ≤ dv l := by
  have hn : 0 < l.length := List.length_pos_iff.2 hl
  have h1 := dv_split l (l.length - 1) (by omega)
  have h2 := dv_drop l (l.length - 1)
  rw [dv_drop_end l (l.length - 1 + 1) (by omega)] at h2
  have h3 : dig l (l.length - 1) ≠ 0 := can_last hc hl
  have h4 := h.dg (l.length - 1)
  have h5 := dv_nonneg (h.take (l.length - 1))
  have h6 := p10_pos (l.length - 1)
  have h7 : 1 ≤ dig l (l.length - 1) := by omega
  have h8 : p10 (l.length - 1) * 1 ≤ p10 (l.length - 1) * dv (l.drop (l.length - 1)) := Int.mul_le_mul_of_nonneg_left (by omega) (by omega)
  omega
/-- as many digits at most as so great a number has -/
theorem can_length {l : List Int} (h : DOK l) (hc : Can l) (n : Nat) (hv : dv l < p10 n) : l.length ≤ n := by
  by_cases hl : l = []
  · subst hl; simp
  · have := dv_low h hc hl
    have hn : 0 < l.length := List.length_pos_iff.2 hl
    by_cases hh : l.length ≤ n
    · exact hh
    · have := p10_le (show n ≤ l.length - 1 by omega); omega
theorem can_tail {d : Int} {l : List Int} (h : Can (d :: l)) : Can l := by
  by_cases hl : l = []
  · exact .inl hl
  · right
    have := can_last h (by simp)
    have hn : 0 < l.length := List.length_pos_iff.2 hl
    obtain ⟨m, hm⟩ : ∃ m, l.length = m + 1 := ⟨l.length - 1, by omega⟩
    simp only [List.length_cons, Nat.add_sub_cancel] at this
    rw [hm] at this ⊢
    simpa using this
theorem dv_inj : ∀ {a b : List Int}, DOK a → DOK b → Can a → Can b → dv a = dv b → a = b
  | [], [], _, _, _, _, _ => rfl
  | [], b :: bs, _, hb, _, cb, h => by have := dv_pos hb cb (by simp); simp only [dv] at h this; omega
  | a :: as, [], ha, _, ca, _, h => by have := dv_pos ha ca (by simp); simp only [dv] at h this; omega
  | a :: as, b :: bs, ha, hb, ca, cb, h => by
    have := ha.head; have := hb.head
    simp only [dv] at h
    have e : a = b := by omega
    subst e
    rw [dv_inj ha.tail hb.tail (can_tail ca) (can_tail cb) (by omega)]

end Go.Proofs.Ytagcloidicnhhaa.Print

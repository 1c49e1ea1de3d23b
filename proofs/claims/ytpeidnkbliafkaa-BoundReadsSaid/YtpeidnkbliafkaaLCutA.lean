import Derived.Test.YtpeidnkbliafkaaPrint1
import Derived.Test.YtpeidnkbliafkaaLNum
namespace Go.Proofs.Ytpeidnkbliafkaa.Print
open Go.RowKit Go.Proofs.YtpeidnkbliafkaaW.PrintWords Go.Proofs.YtpeidnkbliafkaaW.PrintLast
set_option linter.unusedVariables false
set_option linter.unusedSimpArgs false
/-- the right cut of a place -/
def canon (s a : Int) : Int × Int := if s < 0 ∨ (s = 0 ∧ a = -9223372036854775808) then (-1, 0) else if s > 0 then (1, 0) else (s, a)
theorem cut_Canon.eq (s a : Int) (k : Nat) (hk : 1 ≤ k) : cut_Canon.f k s a = some (canon s a) := by
  obtain ⟨k, rfl⟩ : ∃ j, k = j + 1 := ⟨k - 1, by omega⟩
  unfold cut_Canon.f canon
  by_cases h1 : s < 0
  · rw [if_pos h1, if_pos (.inl h1)]; rfl
  · rw [if_neg h1]
    by_cases h2 : s = 0
    · subst h2
      rw [if_pos rfl]
      by_cases h3 : a = -9223372036854775808
      · subst h3; rfl
      · rw [show (a == -9223372036854775808) = false from beq_eq_false_iff_ne.2 h3, if_neg (c := (0 : Int) < 0 ∨ _) (by omega)]; rfl
    · rw [if_neg h2, if_neg (c := s < 0 ∨ _) (by omega), if_pos (c := s > 0) (by omega), cut_Canon.j0, if_neg Bool.false_ne_true, if_pos (c := s > 0) (by omega)]; rfl
/-- a right cut -/
def CC (p : Int × Int) : Prop := p = (-1, 0) ∨ p = (1, 0) ∨ ∃ a, p = (0, a) ∧ -9223372036854775808 < a ∧ a ≤ 9223372036854775807
theorem canon_CC {s a : Int} (ha : I64 a) : CC (canon s a) := by
  unfold canon CC
  unfold I64 at ha
  by_cases h1 : s < 0 ∨ (s = 0 ∧ a = -9223372036854775808)
  · rw [if_pos h1]; exact .inl rfl
  · rw [if_neg h1]
    by_cases h2 : s > 0
    · rw [if_pos h2]; exact .inr (.inl rfl)
    · rw [if_neg h2]; exact .inr (.inr ⟨a, by rw [show s = 0 by omega], by omega, by omega⟩)
theorem canon_zero {a : Int} (h : -9223372036854775808 < a) : canon 0 a = (0, a) := by
  unfold canon; rw [if_neg (by omega), if_neg (by omega)]
theorem CC.canon {p : Int × Int} (h : CC p) : canon p.1 p.2 = p := by
  rcases h with rfl | rfl | ⟨a, rfl, h1, h2⟩
  · rfl
  · rfl
  · exact canon_zero h1
/-- which one stands ahead -/
def cmp2 (p q : Int × Int) : Int := if p.1 < q.1 then -1 else if p.1 > q.1 then 1 else if p.2 < q.2 then -1 else if p.2 > q.2 then 1 else 0
theorem cmp_Compare_int.eq (a b : Int) : cmp_Compare_int.f a b = some (if a < b then -1 else if a > b then 1 else 0) := by
  unfold cmp_Compare_int.f cmp_isNaN_int.f
  simp only [bne_self_eq_false, Option.bind_some, Bool.false_eq_true, if_false]
  repeat' split
  all_goals rfl
theorem cmp_Compare_int64.eq (a b : Int) : cmp_Compare_int64.f a b = some (if a < b then -1 else if a > b then 1 else 0) := by
  unfold cmp_Compare_int64.f cmp_isNaN_int64.f
  simp only [bne_self_eq_false, Option.bind_some, Bool.false_eq_true, if_false]
  repeat' split
  all_goals rfl
theorem cmp_Or_int.eq (x y : Int) (k : Nat) (hk : 3 ≤ k) : cmp_Or_int.f k [x, y] = some (if x = 0 then y else x) := by
  obtain ⟨k, rfl⟩ : ∃ j, k = j + 3 := ⟨k - 3, by omega⟩
  unfold cmp_Or_int.f
  by_cases h : x = 0
  · subst h
    by_cases h2 : y = 0
    · subst h2; simp [cmp_Or_int.l0, rd, wrap64]
    · simp [cmp_Or_int.l0, rd, wrap64, h2]
  · simp [cmp_Or_int.l0, rd, wrap64, h]
theorem cut_Compare.eq (s a t b : Int) (k : Nat) (hk : 3 ≤ k) : cut_Compare.f k s a t b = some (cmp2 (canon s a) (canon t b)) := by
  unfold cut_Compare.f cmp2
  rw [cut_Canon.eq _ _ k (by omega), Option.bind_some, cut_Canon.eq _ _ k (by omega), Option.bind_some, cmp_Compare_int.eq, Option.bind_some, cmp_Compare_int64.eq, Option.bind_some, cmp_Or_int.eq _ _ k hk, Option.bind_some]
  congr 1
  by_cases h1 : (canon s a).1 < (canon t b).1
  · rw [if_pos h1, if_pos h1]; rfl
  · rw [if_neg h1, if_neg h1]
    by_cases h2 : (canon s a).1 > (canon t b).1
    · rw [if_pos h2, if_pos h2]; rfl
    · rw [if_neg h2, if_neg h2]; rfl
theorem cmp2_cases (p q : Int × Int) : (cmp2 p q = -1 ∧ (p.1 < q.1 ∨ (p.1 = q.1 ∧ p.2 < q.2))) ∨ (cmp2 p q = 1 ∧ (q.1 < p.1 ∨ (p.1 = q.1 ∧ q.2 < p.2))) ∨ (cmp2 p q = 0 ∧ p = q) := by
  unfold cmp2
  by_cases h1 : p.1 < q.1
  · rw [if_pos h1]; exact .inl ⟨rfl, .inl h1⟩
  · rw [if_neg h1]
    by_cases h2 : p.1 > q.1
    · rw [if_pos h2]; exact .inr (.inl ⟨rfl, .inl h2⟩)
    · rw [if_neg h2]
      by_cases h3 : p.2 < q.2
      · rw [if_pos h3]; exact .inl ⟨rfl, .inr ⟨by omega, h3⟩⟩
      · rw [if_neg h3]
        by_cases h4 : p.2 > q.2
        · rw [if_pos h4]; exact .inr (.inl ⟨rfl, .inr ⟨by omega, h4⟩⟩)
        · rw [if_neg h4]; exact .inr (.inr ⟨rfl, Prod.ext (by omega) (by omega)⟩)
theorem cmp2_self (p : Int × Int) : cmp2 p p = 0 := by
  unfold cmp2
  rw [if_neg (by omega), if_neg (by omega), if_neg (by omega), if_neg (by omega)]
theorem cmp2_swap (p q : Int × Int) : cmp2 p q = -cmp2 q p := by
  rcases cmp2_cases p q with ⟨h, g⟩ | ⟨h, g⟩ | ⟨h, rfl⟩
  · rcases cmp2_cases q p with ⟨h', g'⟩ | ⟨h', g'⟩ | ⟨h', e⟩
    · omega
    · omega
    · subst e; omega
  · rcases cmp2_cases q p with ⟨h', g'⟩ | ⟨h', g'⟩ | ⟨h', e⟩
    · omega
    · omega
    · subst e; omega
  · rw [h]; rfl
/-- the cuts beside a number -/
def behindOf (n : Int) : Int × Int := if n = 9223372036854775807 then (1, 0) else (0, n + 1)
theorem behindOf_CC {n : Int} (hn : I64 n) : CC (behindOf n) := by
  unfold behindOf CC
  unfold I64 at hn
  by_cases h : n = 9223372036854775807
  · rw [if_pos h]; exact .inr (.inl rfl)
  · rw [if_neg h]; exact .inr (.inr ⟨n + 1, rfl, by omega, by omega⟩)
/-- the number behind a right cut, the number ahead of it -/
def nextOf (p : Int × Int) : Int × Bool := if p.1 > 0 then (0, false) else if p.1 < 0 then (-9223372036854775808, true) else (p.2, true)
def prevOf (p : Int × Int) : Int × Bool := if p.1 < 0 then (0, false) else if p.1 > 0 then (9223372036854775807, true) else (p.2 - 1, true)
theorem pair_beq (p : Int × Int) : (p.1 == p.1 && (p.2 == p.2)) = true := by simp

end Go.Proofs.Ytpeidnkbliafkaa.Print

import Derived.Test.YtagcloidicnhhaaPrint1
import Derived.Test.YtagcloidicnhhaaPrint2
import Derived.Test.YtagcloidicnhhaaPrint5
import Derived.Test.YtagcloidicnhhaaLDig
import Derived.Test.YtagcloidicnhhaaLSat
import Derived.Test.YtagcloidicnhhaaLBig
namespace Go.Proofs.Ytagcloidicnhhaa.Print
open Go.RowKit Go.Proofs.YtagcloidicnhhaaW.PrintWords Go.Proofs.YtagcloidicnhhaaW.PrintLast
set_option linter.unusedVariables false
set_option linter.unusedSimpArgs false
/-- what becomes of a number -/
def doOf (k a v : Int) : Int := if k = 1 then clamp (a + v) else if k = 2 then clamp (a - v) else if k = 3 then (if v < a then v else a) else if k = 4 then (if a < v then v else a) else if k = 5 then v else a
theorem doOf_I64 (k : Int) {a v : Int} (ha : I64 a) (hv : I64 v) : I64 (doOf k a v) := by
  unfold doOf
  repeat' split
  all_goals first | exact clamp_I64 _ | assumption
theorem comb_Do.eq (k : Int) {a v : Int} (ha : I64 a) (hv : I64 v) : comb_Do.f k a v = some (doOf k a v) := by
  unfold comb_Do.f doOf
  by_cases h1 : k = 1
  · rw [if_pos h1, if_pos h1, sat_Add.eq ha hv]
  · rw [if_neg h1, if_neg h1]
    by_cases h2 : k = 2
    · rw [if_pos h2, if_pos h2, sat_Sub.eq ha hv]
    · rw [if_neg h2, if_neg h2]
      by_cases h3 : k = 3
      · rw [if_pos h3, if_pos h3]; rfl
      · rw [if_neg h3, if_neg h3]
        by_cases h4 : k = 4
        · rw [if_pos h4, if_pos h4]; rfl
        · rw [if_neg h4, if_neg h4]
          by_cases h5 : k = 5
          · rw [if_pos h5, if_pos h5]
          · rw [if_neg h5, if_neg h5]
theorem bocageref13_Do.eq (kind : Int) {a v : Int} (ha : I64 a) (hv : I64 v) (k : Nat) (hk : 200 ≤ k) : bocageref13_Do.f k kind a v = some (doOf kind a v) := by
  obtain ⟨s, d, f1, f2, f3⟩ := bocageref01_Of.eq ha k (by omega)
  obtain ⟨t, e, g1, g2, g3⟩ := bocageref01_Of.eq hv k (by omega)
  obtain ⟨m1, m2⟩ := bocageref01_Minus.eq g2
  obtain ⟨p, q, p1, p2, p3⟩ := bocageref01_Plus.eq f2 m2 k (by omega) (by omega) (by omega) (by omega)
  obtain ⟨u, w, u1, u2, u3⟩ := bocageref01_Plus.eq f2 g2 k (by omega) (by omega) (by omega) (by omega)
  unfold bocageref13_Do.f
  rw [f1, Option.bind_some, g1, Option.bind_some, m1, Option.bind_some, p1, Option.bind_some]
  unfold bocageref13_Do.g doOf
  by_cases h1 : kind = 1
  · rw [if_pos h1, if_pos h1, u1, Option.bind_some, bocageref01_End.eq u2 k (by omega) (by omega)]
  · rw [if_neg h1, if_neg h1]
    by_cases h2 : kind = 2
    · rw [if_pos h2, if_pos h2, bocageref01_End.eq p2 k (by omega) (by omega), Int.sub_eq_add_neg]
    · have hp := p2.pos
      rw [if_neg h2, if_neg h2]
      by_cases h3 : kind = 3
      · rw [if_pos h3, if_pos h3]
        by_cases h : v < a
        · rw [if_pos h, if_pos (by have := hp.2.1.2 (by omega); simpa using this)]
        · rw [if_neg h, if_neg (fun hh => h (by have := hp.2.1.1 hh; omega))]
      · rw [if_neg h3, if_neg h3]
        by_cases h4 : kind = 4
        · rw [if_pos h4, if_pos h4]
          by_cases h : a < v
          · rw [if_pos h, if_pos (by have := hp.2.2.2 (by omega); simpa using this)]
          · rw [if_neg h, if_neg (fun hh => h (by have := hp.2.2.1 hh; omega))]
        · rw [if_neg h4, if_neg h4]
          by_cases h5 : kind = 5
          · rw [if_pos h5, if_pos h5]
          · rw [if_neg h5, if_neg h5]
def firstOf (k v : Int) : Int := if k = 2 then clamp (-v) else v
theorem comb_First.eq (k : Int) {v : Int} (hv : I64 v) : comb_First.f k v = some (firstOf k v) := by
  unfold comb_First.f firstOf
  split
  · rw [sat_Neg.eq hv]; rfl
  · rfl
theorem bocageref13_First.eq (kind : Int) {v : Int} (hv : I64 v) (k : Nat) (hk : 200 ≤ k) : bocageref13_First.f k kind v = some (firstOf kind v) := by
  unfold bocageref13_First.f firstOf
  split
  · obtain ⟨t, e, g1, g2, g3⟩ := bocageref01_Of.eq hv k (by omega)
    obtain ⟨m1, m2⟩ := bocageref01_Minus.eq g2
    rw [g1, Option.bind_some, m1, Option.bind_some, bocageref01_End.eq m2 k (by omega) (by omega), Option.bind_some]
  · rfl
def sameOf (k : Int) : Int × Bool := if k = 3 then (9223372036854775807, true) else if k = 4 then (-9223372036854775808, true) else (0, decide (k = 1 ∨ k = 2))
theorem comb_Same.eq (kind : Int) (k : Nat) (hk : 1 ≤ k) : comb_Same.f k kind = some (sameOf kind) := by
  obtain ⟨k, rfl⟩ : ∃ j, k = j + 1 := ⟨k - 1, by omega⟩
  unfold comb_Same.f sameOf
  by_cases h1 : kind = 1
  · subst h1; rfl
  · rw [if_neg h1, comb_Same.j0]
    by_cases h2 : kind = 2
    · subst h2; rfl
    · rw [show (kind == 2) = false from beq_eq_false_iff_ne.2 h2, if_neg Bool.false_ne_true]
      by_cases h3 : kind = 3
      · rw [if_pos h3, if_pos h3]
      · rw [if_neg h3, if_neg h3]
        by_cases h4 : kind = 4
        · rw [if_pos h4, if_pos h4]
        · rw [if_neg h4, if_neg h4, decide_eq_false (by omega)]
theorem bocageref13_Same.eq (kind : Int) : bocageref13_Same.f kind = some (sameOf kind) := by
  unfold bocageref13_Same.f sameOf
  by_cases h3 : kind = 3
  · rw [if_pos h3, if_pos h3]
  · rw [if_neg h3, if_neg h3]
    by_cases h4 : kind = 4
    · rw [if_pos h4, if_pos h4]
    · rw [if_neg h4, if_neg h4]
      by_cases h1 : kind = 1
      · rw [if_pos h1, decide_eq_true (.inl h1)]
      · rw [if_neg h1]
        by_cases h2 : kind = 2
        · subst h2; rfl
        · rw [show (kind == 2) = false from beq_eq_false_iff_ne.2 h2, decide_eq_false (by omega)]
/-- a kind's name -/
def nameOf (k : Int) : List UInt8 := if k = 1 then [97, 100, 100] else if k = 2 then [115, 117, 98] else if k = 3 then [109, 105, 110] else if k = 4 then [109, 97, 120] else if k = 5 then [115, 101, 116] else if k = 6 then [112, 117, 116] else []
theorem ex_of_map {o : Option ByteArray} {l : List UInt8} (h : o.map ByteArray.toList = some l) : ∃ s, o = some s ∧ s.toList = l := by
  cases o with
  | none => simp at h
  | some s => exact ⟨s, rfl, by simpa using h⟩
theorem comb_Name.eq (k : Int) : ∃ s, comb_Name.f k = some s ∧ s.toList = nameOf k := by
  by_cases h1 : 1 ≤ k ∧ k ≤ 6
  · rcases (by omega : k = 1 ∨ k = 2 ∨ k = 3 ∨ k = 4 ∨ k = 5 ∨ k = 6) with rfl | rfl | rfl | rfl | rfl | rfl <;> exact ⟨_, rfl, by decide +kernel⟩
  · unfold comb_Name.f nameOf
    rw [if_neg (by omega), if_neg (by omega), if_neg (by omega), if_neg (by omega), if_neg (by omega), if_neg (by omega), if_neg (by omega), if_neg (by omega), if_neg (by omega), if_neg (by omega), if_neg (by omega), if_neg (by omega)]
    exact ⟨_, rfl, by decide +kernel⟩
theorem bocageref13_Name.eq (k : Int) : ∃ s, bocageref13_Name.f k = some s ∧ s.toList = nameOf k := by
  by_cases h1 : 1 ≤ k ∧ k ≤ 6
  · rcases (by omega : k = 1 ∨ k = 2 ∨ k = 3 ∨ k = 4 ∨ k = 5 ∨ k = 6) with rfl | rfl | rfl | rfl | rfl | rfl <;> exact ex_of_map (by decide +kernel)
  · unfold bocageref13_Name.f nameOf
    rw [if_neg (c := k = 1) (by omega), if_neg (c := k = 2) (by omega), if_neg (c := k = 3) (by omega), if_neg (c := k = 4) (by omega), if_neg (c := k = 5) (by omega), if_neg (c := k = 6) (by omega)]
    by_cases h : k < 1
    · rw [if_pos h]; exact ⟨_, rfl, by decide +kernel⟩
    · rw [if_neg h, if_pos (by omega)]; exact ⟨_, rfl, by decide +kernel⟩
/-- the kind of a name -/
def findOf (s : ByteArray) : Int := if [97, 100, 100] = s.toList then 1 else if [115, 117, 98] = s.toList then 2 else if [109, 105, 110] = s.toList then 3 else if [109, 97, 120] = s.toList then 4 else if [115, 101, 116] = s.toList then 5 else if [112, 117, 116] = s.toList then 6 else 0
theorem comb_Find.eq (s : ByteArray) : comb_Find.f s = some (findOf s) := by
  unfold comb_Find.f findOf
  repeat' split
  all_goals rfl
theorem bocageref13_Find.step (k : Nat) (s : ByteArray) (i : Int) (hi : 1 ≤ i ∧ i ≤ 6) : bocageref13_Find.l0 (k + 1) s i = if nameOf i = s.toList then some i else bocageref13_Find.l0 k s (i + 1) := by
  obtain ⟨t, e1, e2⟩ := bocageref13_Name.eq i
  rw [bocageref13_Find.l0, if_pos hi.2, e1, Option.bind_some, e2, wrap64_of (by unfold I64; omega)]
theorem bocageref13_Find.eq (s : ByteArray) (k : Nat) (hk : 10 ≤ k) : bocageref13_Find.f k s = some (findOf s) := by
  obtain ⟨k, rfl⟩ : ∃ j, k = j + 7 := ⟨k - 7, by omega⟩
  unfold bocageref13_Find.f
  rw [bocageref13_Find.step _ _ 1 (by omega)]
  rw [show (1 : Int) + 1 = 2 from rfl, bocageref13_Find.step _ _ 2 (by omega)]
  rw [show (2 : Int) + 1 = 3 from rfl, bocageref13_Find.step _ _ 3 (by omega)]
  rw [show (3 : Int) + 1 = 4 from rfl, bocageref13_Find.step _ _ 4 (by omega)]
  rw [show (4 : Int) + 1 = 5 from rfl, bocageref13_Find.step _ _ 5 (by omega)]
  rw [show (5 : Int) + 1 = 6 from rfl, bocageref13_Find.step _ _ 6 (by omega)]
  rw [bocageref13_Find.l0, if_neg (c := (6 : Int) + 1 ≤ 6) (by omega)]
  unfold findOf
  rw [show nameOf 1 = [97, 100, 100] from rfl, show nameOf 2 = [115, 117, 98] from rfl, show nameOf 3 = [109, 105, 110] from rfl, show nameOf 4 = [109, 97, 120] from rfl, show nameOf 5 = [115, 101, 116] from rfl, show nameOf 6 = [112, 117, 116] from rfl]
  repeat' split
  all_goals rfl
theorem findOf_name (s : ByteArray) : findOf s = 0 ∨ nameOf (findOf s) = s.toList := by
  unfold findOf
  split
  · right; assumption
  · split
    · right; assumption
    · split
      · right; assumption
      · split
        · right; assumption
        · split
          · right; assumption
          · split
            · right; assumption
            · left; rfl
/-- many that come -/
def allOf (k a : Int) (l : List Int) : Int := l.foldl (fun a x => doOf k a x) a
theorem allOf_I64 (k : Int) {a : Int} (ha : I64 a) {l : List Int} (hl : ∀ x ∈ l, I64 x) : I64 (allOf k a l) := by
  unfold allOf
  induction l generalizing a with
  | nil => exact ha
  | cons x l ih => exact ih (doOf_I64 k ha (hl x (List.mem_cons_self ..))) (fun y hy => hl y (List.mem_cons_of_mem _ hy))
theorem allOf_take (k : Int) {a : Int} {l : List Int} {i : Nat} (h : i < l.length) : allOf k a (l.take (i + 1)) = doOf k (allOf k a (l.take i)) (rd l (i : Int)) := by
  unfold allOf
  rw [List.take_succ_eq_append_getElem h, List.foldl_append]
  simp [rd, List.getElem?_eq_getElem h, List.getD_eq_getElem?_getD]
theorem rd_mem {l : List Int} (hl : ∀ x ∈ l, I64 x) {i : Nat} (h : i < l.length) : I64 (rd l (i : Int)) := by
  have : rd l (i : Int) = l[i] := by simp [rd, List.getElem?_eq_getElem h, List.getD_eq_getElem?_getD]
  rw [this]; exact hl _ (List.getElem_mem _)
theorem comb_All.l0_eq (kind : Int) {a : Int} (ha : I64 a) {l : List Int} (hl : ∀ x ∈ l, I64 x) (hb : l.length ≤ 1000000) (n : Nat) : ∀ (k i : Nat), i + n = l.length → n < k → comb_All.l0 k kind (allOf kind a (l.take i)) l (l.length : Int) (i : Int) = some (allOf kind a l) := by
  induction n with
  | zero =>
    intro k i h hk
    obtain ⟨k, rfl⟩ : ∃ j, k = j + 1 := ⟨k - 1, by omega⟩
    rw [comb_All.l0, if_neg (by omega), List.take_of_length_le (by omega)]
  | succ n ih =>
    intro k i h hk
    obtain ⟨k, rfl⟩ : ∃ j, k = j + 1 := ⟨k - 1, by omega⟩
    rw [comb_All.l0, if_pos (by omega), if_pos (by omega), if_pos (by omega), comb_Do.eq kind (allOf_I64 kind ha (fun x hx => hl x (List.mem_of_mem_take hx))) (rd_mem hl (by omega)), Option.bind_some, ← allOf_take kind (by omega), wrap64_of (by unfold I64; omega)]
    exact ih k (i + 1) (by omega) (by omega)
theorem comb_All.eq (kind : Int) {a : Int} (ha : I64 a) {l : List Int} (hl : ∀ x ∈ l, I64 x) (hb : l.length ≤ 1000000) (k : Nat) (hk : l.length < k) : comb_All.f k kind a l = some (allOf kind a l) := by
  unfold comb_All.f
  exact comb_All.l0_eq kind ha hl hb l.length k 0 (by omega) hk

end Go.Proofs.Ytagcloidicnhhaa.Print

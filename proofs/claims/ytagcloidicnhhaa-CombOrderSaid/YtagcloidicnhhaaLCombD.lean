import Derived.Test.YtagcloidicnhhaaPrint1
import Derived.Test.YtagcloidicnhhaaLSat
namespace Go.Proofs.Ytagcloidicnhhaa.Print
open Go.RowKit Go.Proofs.YtagcloidicnhhaaW.PrintWords Go.Proofs.YtagcloidicnhhaaW.PrintLast
set_option linter.unusedVariables false
set_option linter.unusedSimpArgs false
/-- what becomes of a number -/
def doOf (k a v : Int) : Int := if k = 1 then clamp (a + v) else if k = 2 then clamp (a - v) else if k = 3 then (if v < a then v else a) else if k = 4 then (if a < v then v else a) else if k = 5 then v else a
theorem doOf_I64 (k : Int) {a v : Int} (ha : I64 a) (hv : I64 v) : I64 (doOf k a v) := by
  unfold doOf
  repeat' split
  all_goals first | exact clamp_I64 _ | assumption
theorem comb_Do.eq (k : Int) {a v : Int} (ha : I64 a) (hv : I64 v) : comb_Do.f k a v = some (doOf k a v) := by
  unfold comb_Do.f doOf
  by_cases h1 : k = 1
  · rw [if_pos h1, if_pos h1, sat_Add.eq ha hv]
  · rw [if_neg h1, if_neg h1]
    by_cases h2 : k = 2
    · rw [if_pos h2, if_pos h2, sat_Sub.eq ha hv]
    · rw [if_neg h2, if_neg h2]
      by_cases h3 : k = 3
      · rw [if_pos h3, if_pos h3]; rfl
      · rw [if_neg h3, if_neg h3]
        by_cases h4 : k = 4
        · rw [if_pos h4, if_pos h4]; rfl
        · rw [if_neg h4, if_neg h4]
          by_cases h5 : k = 5
          · rw [if_pos h5, if_pos h5]
          · rw [if_neg h5, if_neg h5]
/-- many that come -/
def allOf (k a : Int) (l : List Int) : Int := l.foldl (fun a x => doOf k a x) a
theorem allOf_I64 (k : Int) {a : Int} (ha : I64 a) {l : List Int} (hl : ∀ x ∈ l, I64 x) : I64 (allOf k a l) := by
  unfold allOf
  induction l generalizing a with
  | nil => exact ha
  | cons x l ih => exact ih (doOf_I64 k ha (hl x (List.mem_cons_self ..))) (fun y hy => hl y (List.mem_cons_of_mem _ hy))
theorem allOf_take (k : Int) {a : Int} {l : List Int} {i : Nat} (h : i < l.length) : allOf k a (l.take (i + 1)) = doOf k (allOf k a (l.take i)) (rd l (i : Int)) := by
  unfold allOf
  rw [List.take_succ_eq_append_getElem h, List.foldl_append]
  simp [rd, List.getElem?_eq_getElem h, List.getD_eq_getElem?_getD]
theorem rd_mem {l : List Int} (hl : ∀ x ∈ l, I64 x) {i : Nat} (h : i < l.length) : I64 (rd l (i : Int)) := by
  have : rd l (i : Int) = l[i] := by simp [rd, List.getElem?_eq_getElem h, List.getD_eq_getElem?_getD]
  rw [this]; exact hl _ (List.getElem_mem _)
theorem comb_All.l0_eq (kind : Int) {a : Int} (ha : I64 a) {l : List Int} (hl : ∀ x ∈ l, I64 x) (hb : l.length ≤ 1000000) (n : Nat) : ∀ (k i : Nat), i + n = l.length → n < k → comb_All.l0 k kind (allOf kind a (l.take i)) l (l.length : Int) (i : Int) = some (allOf kind a l) := by
  induction n with
  | zero =>
    intro k i h hk
    obtain ⟨k, rfl⟩ : ∃ j, k = j + 1 := ⟨k - 1, by omega⟩
    rw [comb_All.l0, if_neg (by omega), List.take_of_length_le (by omega)]
  | succ n ih =>
    intro k i h hk
    obtain ⟨k, rfl⟩ : ∃ j, k = j + 1 := ⟨k - 1, by omega⟩
    rw [comb_All.l0, if_pos (by omega), if_pos (by omega), if_pos (by omega), comb_Do.eq kind (allOf_I64 kind ha (fun x hx => hl x (List.mem_of_mem_take hx))) (rd_mem hl (by omega)), Option.bind_some, ← allOf_take kind (by omega), wrap64_of (by unfold I64; omega)]
    exact ih k (i + 1) (by omega) (by omega)
theorem comb_All.eq (kind : Int) {a : Int} (ha : I64 a) {l : List Int} (hl : ∀ x ∈ l, I64 x) (hb : l.length ≤ 1000000) (k : Nat) (hk : l.length < k) : comb_All.f k kind a l = some (allOf kind a l) := by
  unfold comb_All.f
  exact comb_All.l0_eq kind ha hl hb l.length k 0 (by omega) hk

end Go.Proofs.Ytagcloidicnhhaa.Print

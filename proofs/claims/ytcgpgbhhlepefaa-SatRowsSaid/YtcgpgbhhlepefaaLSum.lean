import Derived.Test.YtcgpgbhhlepefaaPrint9
import Derived.Test.YtcgpgbhhlepefaaLSat
namespace Go.Proofs.Ytcgpgbhhlepefaa.Print
open Go.RowKit Go.Proofs.YtcgpgbhhlepefaaW.PrintWords Go.Proofs.YtcgpgbhhlepefaaW.PrintLast
set_option linter.unusedVariables false
set_option linter.unusedSimpArgs false
/-- a row, added up one behind the other -/
def sumC (a : Int) (l : List Int) : Int := l.foldl (fun a x => clamp (a + x)) a
theorem sumC_I64 {a : Int} (ha : I64 a) (l : List Int) : I64 (sumC a l) := by
  unfold sumC
  induction l generalizing a with
  | nil => exact ha
  | cons x l ih => exact ih (clamp_I64 _)
theorem sumC_take {a : Int} {l : List Int} {i : Nat} (h : i < l.length) : sumC a (l.take (i + 1)) = clamp (sumC a (l.take i) + rd l (i : Int)) := by
  unfold sumC
  rw [List.take_succ_eq_append_getElem h, List.foldl_append]
  simp [rd, List.getElem?_eq_getElem h, List.getD_eq_getElem?_getD]
theorem sat_Sum.l0_eq {l : List Int} (hl : ∀ x ∈ l, I64 x) (hb : l.length ≤ 1000000) (n : Nat) : ∀ (k i : Nat), i + n = l.length → n < k → sat_Sum.l0 k (sumC 0 (l.take i)) l (l.length : Int) (i : Int) = some (sumC 0 l) := by
  induction n with
  | zero =>
    intro k i h hk
    obtain ⟨k, rfl⟩ : ∃ j, k = j + 1 := ⟨k - 1, by omega⟩
    rw [sat_Sum.l0, if_neg (by omega), List.take_of_length_le (by omega)]
  | succ n ih =>
    intro k i h hk
    obtain ⟨k, rfl⟩ : ∃ j, k = j + 1 := ⟨k - 1, by omega⟩
    have hx : I64 (rd l (i : Int)) := by
      have : rd l (i : Int) = l[i]'(by omega) := by simp [rd, List.getElem?_eq_getElem (show i < l.length by omega), List.getD_eq_getElem?_getD]
      rw [this]; exact hl _ (List.getElem_mem _)
    rw [sat_Sum.l0, if_pos (by omega), if_pos (by omega), if_pos (by omega), sat_Add.eq (sumC_I64 (by unfold I64; omega) _) hx, Option.bind_some, ← sumC_take (by omega), wrap64_of (by unfold I64; omega)]
    have := ih k (i + 1) (by omega) (by omega)
    exact this
theorem sat_Sum.eq {l : List Int} (hl : ∀ x ∈ l, I64 x) (hb : l.length ≤ 1000000) (k : Nat) (hk : l.length < k) : sat_Sum.f k l = some (sumC 0 l) := by
  unfold sat_Sum.f
  exact sat_Sum.l0_eq hl hb l.length k 0 (by omega) hk

end Go.Proofs.Ytcgpgbhhlepefaa.Print

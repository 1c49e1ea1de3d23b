/- A row of numbers is added up one behind the other (law01 SatRows), for every row and number of 64 bits; no conditions. -/
import Derived.Test.YtcgpgbhhlepefaaPrint9
import Derived.Test.YtcgpgbhhlepefaaPrint9
import Derived.Test.YtcgpgbhhlepefaaLSat
import Derived.Test.YtcgpgbhhlepefaaLBig
import Derived.Test.YtcgpgbhhlepefaaLAlive01
import Derived.Test.YtcgpgbhhlepefaaLSum
namespace Go.Proofs.Ytcgpgbhhlepefaa.Pure
open Go.RowKit Go.Proofs.Ytcgpgbhhlepefaa.Print Go.Proofs.YtcgpgbhhlepefaaW.PrintWords Go.Proofs.YtcgpgbhhlepefaaW.PrintLast
set_option linter.unusedVariables false
set_option linter.unusedSimpArgs false
theorem SatRows_l0 {l : List Int} {a1 : Int} (hl : ∀ x ∈ l, I64 x) (ha : I64 a1) (hb : l.length ≤ 1000) (n : Nat) : ∀ (k i : Nat), i + n = l.length → n + 1200 < k → bocagelaw01_SatRows.l0 k l a1 (sumC 0 (l.take i)) l (l.length : Int) (i : Int) = some true := by
  induction n with
  | zero =>
    intro k i h hk
    obtain ⟨k, rfl⟩ : ∃ j, k = j + 1 := ⟨k - 1, by omega⟩
    have h1 : ∀ x ∈ ([] : List Int) ++ l, I64 x := hl
    have h2 : ∀ x ∈ ([] : List Int) ++ l ++ [a1], I64 x := by
      intro x hx
      rcases List.mem_append.1 hx with hx | hx
      · exact hl x hx
      · simp at hx; subst hx; exact ha
    have h3 : sumC 0 (([] : List Int) ++ l ++ [a1]) = clamp (sumC 0 l + a1) := by simp [sumC]
    rw [bocagelaw01_SatRows.l0, if_neg (by omega), List.take_of_length_le (by omega), bocagelaw01_alive.ge k (by omega), Option.bind_some, if_pos rfl, sat_Sum.eq hl (by omega) k (by omega), Option.bind_some, if_pos rfl, Option.bind_some,
      if_pos (by simp; omega), Option.bind_some, if_pos (by simp; omega), sat_Sum.eq h2 (by simp; omega) k (by simp; omega), Option.bind_some, sat_Add.eq (sumC_I64 (by unfold I64; omega) _) ha, Option.bind_some, if_pos h3,
      sat_Sum.eq (l := []) (by intro x hx; cases hx) (by simp) k (by simp; omega), Option.bind_some]
    rfl
  | succ n ih =>
    intro k i h hk
    obtain ⟨k, rfl⟩ : ∃ j, k = j + 1 := ⟨k - 1, by omega⟩
    have hx : I64 (rd l (i : Int)) := by
      have : rd l (i : Int) = l[i]'(by omega) := by simp [rd, List.getElem?_eq_getElem (show i < l.length by omega), List.getD_eq_getElem?_getD]
      rw [this]; exact hl _ (List.getElem_mem _)
    obtain ⟨s, d, f1, f2, f3⟩ := bocageref01_Of.eq (sumC_I64 (a := 0) (by unfold I64; omega) (l.take i)) k (by omega)
    obtain ⟨t, e, g1, g2, g3⟩ := bocageref01_Of.eq hx k (by omega)
    obtain ⟨p, q, p1, p2, p3⟩ := bocageref01_Plus.eq f2 g2 k (by omega) (by omega) (by omega) (by omega)
    rw [bocagelaw01_SatRows.l0, if_pos (by omega), if_pos (by omega), if_pos (by omega), f1, Option.bind_some, g1, Option.bind_some, p1, Option.bind_some, bocageref01_End.eq p2 k (by omega) (by omega), Option.bind_some, ← sumC_take (by omega), wrap64_of (by unfold I64; omega)]
    exact ih k (i + 1) (by omega) (by omega)
theorem SatRows : bocagelaw01_SatRows.Pure := by
  intro l a hm hl hx ha
  have hx : ∀ x ∈ l, I64 x := fun x h => I64.of_wf (hx x h)
  have ha := I64.of_wf ha
  refine ⟨3000, ?_⟩
  unfold bocagelaw01_SatRows.f
  by_cases h : (l.length : Int) > 1000
  · rw [if_pos h, bocagelaw01_alive.ge 3000 (by omega)]; rfl
  · rw [if_neg h]
    exact SatRows_l0 hx ha (by omega) l.length 3000 0 (by omega) (by omega)

end Go.Proofs.Ytcgpgbhhlepefaa.Pure

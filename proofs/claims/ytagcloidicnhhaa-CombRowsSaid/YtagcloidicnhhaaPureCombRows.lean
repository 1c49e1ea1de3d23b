/- Many that come, come one behind the other (law13 CombRows), for every kind, number and row of 64 bits; no conditions. -/
import Derived.Test.YtagcloidicnhhaaPrint6
import Derived.Test.YtagcloidicnhhaaLComb
import Derived.Test.YtagcloidicnhhaaLAlive13
namespace Go.Proofs.Ytagcloidicnhhaa.Pure
open Go.RowKit Go.Proofs.Ytagcloidicnhhaa.Print Go.Proofs.YtagcloidicnhhaaW.PrintWords Go.Proofs.YtagcloidicnhhaaW.PrintLast
set_option linter.unusedVariables false
set_option linter.unusedSimpArgs false
theorem CombRows_l0 (kind : Int) {a : Int} (ha : I64 a) {l : List Int} (hl : ∀ x ∈ l, I64 x) (hb : l.length ≤ 1000) (n : Nat) : ∀ (k i : Nat), i + n = l.length → n + 1300 < k → bocagelaw13_CombRows.l0 k kind a l (allOf kind a (l.take i)) l (l.length : Int) (i : Int) = some true := by
  induction n with
  | zero =>
    intro k i h hk
    obtain ⟨k, rfl⟩ : ∃ j, k = j + 1 := ⟨k - 1, by omega⟩
    rw [bocagelaw13_CombRows.l0, if_neg (by omega), List.take_of_length_le (by omega), bocagelaw13_alive.ge k (by omega), Option.bind_some, if_pos rfl, comb_All.eq kind ha hl (by omega) k (by omega), Option.bind_some, if_pos rfl,
      comb_All.eq kind ha (l := []) (fun x hx => by cases hx) (by simp) k (by simp; omega), Option.bind_some]
    simp [allOf]
  | succ n ih =>
    intro k i h hk
    obtain ⟨k, rfl⟩ : ∃ j, k = j + 1 := ⟨k - 1, by omega⟩
    rw [bocagelaw13_CombRows.l0, if_pos (by omega), if_pos (by omega), if_pos (by omega), bocageref13_Do.eq kind (allOf_I64 kind ha (fun x hx => hl x (List.mem_of_mem_take hx))) (rd_mem hl (by omega)) k (by omega), Option.bind_some, ← allOf_take kind (by omega), wrap64_of (by unfold I64; omega)]
    exact ih k (i + 1) (by omega) (by omega)
theorem CombRows : bocagelaw13_CombRows.Pure := by
  intro kind a l hk ha hm hs hl
  have ha := I64.of_wf ha
  have hl : ∀ x ∈ l, I64 x := fun x hx => I64.of_wf (hl x hx)
  refine ⟨3000, ?_⟩
  unfold bocagelaw13_CombRows.f
  by_cases h : (l.length : Int) > 1000
  · rw [if_pos h, bocagelaw13_alive.ge 3000 (by omega)]; rfl
  · rw [if_neg h]
    exact CombRows_l0 kind ha hl (by omega) l.length 3000 0 (by omega) (by omega)

end Go.Proofs.Ytagcloidicnhhaa.Pure

/- The numbers beside any cut, and the cuts beside any number, are what the document says, and back (law02 CutNumbers), for every cut and number; no conditions. -/
import Derived.Test.YtihhagfdfhojnaaRCutNumbers
import Derived.Test.YtihhagfdfhojnaaLCutA
import Derived.Test.YtihhagfdfhojnaaLCutN
import Derived.Test.YtihhagfdfhojnaaLCutP
import Derived.Test.YtihhagfdfhojnaaLCutQ
import Derived.Test.YtihhagfdfhojnaaLCutNR
import Derived.Test.YtihhagfdfhojnaaLAlive02
namespace Go.Proofs.Ytihhagfdfhojnaa.Pure
open Go.RowKit Go.Proofs.Ytihhagfdfhojnaa.Print Go.Proofs.YtihhagfdfhojnaaW.PrintWords Go.Proofs.YtihhagfdfhojnaaW.PrintLast
set_option linter.unusedVariables false
set_option linter.unusedSimpArgs false
theorem CutNumbers : bocagelaw02_CutNumbers.Pure := by
  intro s a n hs ha hn
  have ha := I64.of_wf ha
  have hn := I64.of_wf hn
  have hc := canon_CC (s := s) ha
  have h0 := canon_CC (s := 0) hn
  have hb := behindOf_CC hn
  refine ⟨202, ?_⟩
  have hnx : nextOf (canon 0 n) = (n, true) := by
    unfold I64 at hn
    by_cases h1 : n = -9223372036854775808
    · subst h1; rfl
    · rw [canon_zero (by omega)]; rfl
  have hpv : prevOf (behindOf n) = (n, true) := by
    unfold behindOf
    by_cases h1 : n = 9223372036854775807
    · subst h1; rfl
    · rw [if_neg h1]
      show (n + 1 - 1, true) = (n, true)
      rw [Int.add_sub_cancel]
  have cI : ∀ {p : Int × Int}, CC p → I64 p.2 := by
    intro p h
    unfold I64
    rcases h with rfl | rfl | ⟨x, rfl, h1, h2⟩
    · exact ⟨by decide, by decide⟩
    · exact ⟨by decide, by decide⟩
    · exact ⟨by show -9223372036854775808 ≤ x; omega, h2⟩
  have fin : bocagelaw02_CutNumbers.j1 201 n false = some true := by
    rw [bocagelaw02_CutNumbers.j1, if_neg Bool.false_ne_true]
    rw [cut_Ahead.eq _ 200 (by omega), Option.bind_some, cut_Next.eq _ (cI h0) 200 (by omega), Option.bind_some, cut_Behind.eq hn, Option.bind_some, cut_Prev.eq _ (cI hb) 200 (by omega), Option.bind_some, bocagelaw02_alive.ge 200 (by omega), Option.bind_some, if_pos rfl, h0.canon, hb.canon, hnx, hpv]
    rw [if_pos rfl, if_pos rfl, if_pos rfl, if_pos rfl, Option.bind_some, h0.right 200 (by omega), Option.bind_some, if_pos rfl, Option.bind_some, hb.right 200 (by omega)]; rfl
  have mid : ∀ (x : Int) (is : Bool) (y : Int) (has : Bool), (is = true → canon 0 x = canon s a) → (has = true → I64 y ∧ behindOf y = canon s a) → bocagelaw02_CutNumbers.j0 202 n x is y has false s a = some true := by
    intro x is y has h1 h2
    rw [bocagelaw02_CutNumbers.j0, if_neg Bool.false_ne_true]
    have hend : (!((canon s a).1 == (canon s a).1) || (!((canon s a).2 == (canon s a).2))) = false := by simp
    rw [cut_Ahead.eq _ 201 (by omega), Option.bind_some, cut_Canon.eq _ _ 201 (by omega), Option.bind_some]
    cases has
    · cases is
      · exact fin
      · rw [if_pos rfl, h1 rfl, hend, if_neg Bool.false_ne_true, if_neg Bool.false_ne_true]; exact fin
    · obtain ⟨h3, h4⟩ := h2 rfl
      rw [cut_Behind.eq h3, Option.bind_some, Option.bind_some, h4, hend]
      cases is
      · exact fin
      · rw [if_pos rfl, h1 rfl, hend, if_neg Bool.false_ne_true, if_pos rfl]; exact fin
  unfold bocagelaw02_CutNumbers.f
  rw [cut_Next.eq s ha 202 (by omega), Option.bind_some, bocageref02_Next.eq s ha 202 (by omega), Option.bind_some, cut_Prev.eq s ha 202 (by omega), Option.bind_some, bocageref02_Prev.eq s ha 202 (by omega), Option.bind_some,
    if_pos rfl, bne_self_eq_false, if_neg Bool.false_ne_true, if_pos rfl, bne_self_eq_false, if_neg Bool.false_ne_true, cut_Ahead.eq _ 202 (by omega), Option.bind_some, bocageref02_Ahead.eq _ 202 (by omega), Option.bind_some]
  have e1 : ∀ p : Int × Int, (!(p.1 == p.1) || (!(p.2 == p.2))) = false := by intro p; simp
  rw [e1, if_neg Bool.false_ne_true, cut_Behind.eq hn, Option.bind_some, bocageref02_Behind.eq hn, Option.bind_some, e1]
  rcases hc with h | h | ⟨x, h, h1, h2⟩
  · rw [h]
    exact mid _ _ _ _ (fun _ => by rw [h]; rfl) (fun h => by cases h)
  · rw [h]
    exact mid _ _ _ _ (fun h => by cases h) (fun _ => ⟨by unfold I64; decide, by rw [h]; rfl⟩)
  · rw [h]
    refine mid x true (x - 1) true (fun _ => by rw [h]; exact canon_zero h1) (fun _ => ⟨by unfold I64; omega, ?_⟩)
    unfold behindOf
    rw [h, if_neg (by omega), show x - 1 + 1 = x by omega]

end Go.Proofs.Ytihhagfdfhojnaa.Pure

/- The spans of all numbers of some are what the document says: as few as can be, rising; listed once more they are as they were (law03 SpanLists), for every row of spans and every number; no conditions. -/
import Derived.Test.YtkkbmjfhpngalaaPrint15
import Derived.Test.YtkkbmjfhpngalaaPrint2
import Derived.Test.YtkkbmjfhpngalaaRSpanLists
import Derived.Test.YtkkbmjfhpngalaaLSpanH
import Derived.Test.YtkkbmjfhpngalaaLSpanSo
import Derived.Test.YtkkbmjfhpngalaaLSpanRM
import Derived.Test.YtkkbmjfhpngalaaLAlive03
namespace Go.Proofs.Ytkkbmjfhpngalaa.Pure
open Go.RowKit Go.Proofs.Ytkkbmjfhpngalaa.Print Go.Proofs.YtkkbmjfhpngalaaW.PrintWords Go.Proofs.YtkkbmjfhpngalaaW.PrintLast
set_option linter.unusedVariables false
set_option linter.unusedSimpArgs false
theorem SpanLists : bocagelaw03_SpanLists.Pure := by
  intro l n hw hn
  have w : ∀ x ∈ l, WS x := fun x hx => ⟨I64.of_wf (hw x hx).2.1, I64.of_wf (hw x hx).2.2.2⟩
  have hn' := I64.of_wf hn
  unfold bocagelaw03_SpanLists.f
  by_cases hlen : (l.length : Int) > 40
  · refine ⟨100, ?_⟩
    rw [if_pos hlen, bocagelaw03_alive.ge 100 (by omega), Option.bind_some]
  · have hl : l.length ≤ 40 := by omega
    obtain ⟨g1, g2⟩ := listS_ok l w
    obtain ⟨R, r1, r2, r3⟩ := bocageref03_List.ev l (by omega) w
    have eR : listS l = R := g1.unique r2 (fun n => by rw [g2, r3])
    have hRl : R.length ≤ 1000 := by
      rw [← eR]
      have hj : ∀ (d out : List Sp), (d.foldl joinS out).length ≤ out.length + d.length := by
        intro d
        induction d with
        | nil => intro out; exact Nat.le_refl _
        | cons s d ih =>
          intro out
          have h1 := ih (joinS out s)
          have h2 : (joinS out s).length ≤ out.length + 1 := by
            rcases List.eq_nil_or_concat out with rfl | ⟨ys, o, rfl⟩
            · exact Nat.le_refl _
            · rw [List.concat_eq_append]
              unfold joinS
              rw [List.getLast?_concat]
              dsimp only
              split <;> simp
          rw [List.foldl_cons, List.length_cons]; omega
      have h1 := hj (sortS (l.filter RX)) []
      have h2 := (sortS_perm (l.filter RX)).length_eq
      have h3 := List.length_filter_le RX l
      show ((sortS (l.filter RX)).foldl joinS []).length ≤ _
      rw [List.length_nil] at h1
      omega
    have again : listS R = R := by
      obtain ⟨a1, a2⟩ := listS_ok R r2.ws
      exact a1.unique r2 (fun n => a2 n)
    have hany : anyB R n = anyB l n := by
      rw [Bool.eq_iff_iff, anyB_iff r2.ws, anyB_iff w, r3]
    have loop : ∀ (m i : Nat) (b : Bool), i + m = R.length → Ev (fun k => bocagelaw03_SpanLists.l0 k l n R b R (R.length : Int) (i : Int)) ((b || (R.drop i).any (fun x => hasB x n)) == anyB l n) := by
      intro m
      induction m with
      | zero =>
        intro i b hin
        rw [List.drop_of_length_le (by omega), List.any_nil, Bool.or_false]
        refine Ev.step (f := fun k => _) (fun k => by rw [bocagelaw03_SpanLists.l0, if_neg (by omega)]) ?_
        refine Ev.bind bocagelaw03_alive.ev ?_
        simp only [if_true]
        refine Ev.bind r1 (Ev.bind (bocageref03_Same.ev R R (by omega)) ?_)
        simp only [decide_true, if_true]
        refine Ev.bind (span_Sorted.ev l (by omega)) (Ev.bind (bocageref03_Sorted.ev l (by omega)) ?_)
        simp only [beq_self_eq_true, if_true]
        refine Ev.bind (span_Sorted.ev R (by omega)) ?_
        simp only [allS_good r2 R.length 0 (by omega), if_true]
        refine Ev.bind (a := R) ⟨0, fun k _ => by unfold span_List.f; rw [if_pos (by omega), again]⟩ (Ev.bind (bocageref03_Same.ev R R (by omega)) ?_)
        simp only [decide_true, if_true]
        exact Ev.bind (bocageref03_Any.ev l (by omega) w hn') (Ev.now _)
      | succ m ih =>
        intro i b hin
        have hlt : i < R.length := by omega
        have hwr : wrap64 ((i : Int) + 1) = ((i + 1 : Nat) : Int) := by unfold wrap64; omega
        rw [List.drop_eq_getElem_cons hlt, List.any_cons]
        refine Ev.step (f := fun k => if b = true then bocagelaw03_SpanLists.l0 k l n R true R (R.length : Int) ((i + 1 : Nat) : Int) else (span_Has.f k R[i].f0.f0 R[i].f0.f1 R[i].f1.f0 R[i].f1.f1 n).bind fun t => bocagelaw03_SpanLists.l0 k l n R t R (R.length : Int) ((i + 1 : Nat) : Int)) (fun k => ?_) ?_
        · rw [bocagelaw03_SpanLists.l0, if_pos (by omega), if_pos (by omega), if_pos (by omega), rdS hlt, hwr]
        · have ih' := fun b' => ih (i + 1) b' (by omega)
          cases b with
          | true => simp only [if_true, Bool.true_or]; simpa using ih' true
          | false =>
            simp only [Bool.false_eq_true, if_false, Bool.false_or]
            refine Ev.bind (a := hasB R[i] n) ⟨3, fun k hk => span_Has.eq _ (r2.ws _ (List.getElem_mem hlt)) hn' k hk⟩ ?_
            exact ih' _
    have h0 := loop R.length 0 false (by omega)
    rw [List.drop_zero, Bool.false_or] at h0
    have e0 : (R.any fun x => hasB x n) = anyB l n := hany
    rw [e0, beq_self_eq_true] at h0
    obtain ⟨k, hk⟩ := h0.rounds
    refine ⟨k, ?_⟩
    have eL : span_List.f k l = some R := by unfold span_List.f; rw [if_pos (by omega), eR]
    rw [if_neg hlen, eL, Option.bind_some]
    exact hk

end Go.Proofs.Ytkkbmjfhpngalaa.Pure

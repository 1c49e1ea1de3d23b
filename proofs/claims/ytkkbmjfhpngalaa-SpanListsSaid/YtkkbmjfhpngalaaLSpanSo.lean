import Derived.Test.YtkkbmjfhpngalaaPrint15
import Derived.Test.YtkkbmjfhpngalaaLSpanR1
namespace Go.Proofs.Ytkkbmjfhpngalaa.Print
open Go.RowKit Go.Proofs.YtkkbmjfhpngalaaW.PrintWords Go.Proofs.YtkkbmjfhpngalaaW.PrintLast
set_option linter.unusedVariables false
set_option linter.unusedSimpArgs false
/-- is one of a row right, and behind the one ahead -/
def sbS (l : List Sp) (i : Nat) : Bool := RX (l.getD i (sp (0, 0) (0, 0))) && (decide (i = 0) || !decide (cmp2 (canon (l.getD i (sp (0, 0) (0, 0))).f0.f0 (l.getD i (sp (0, 0) (0, 0))).f0.f1) (canon (l.getD (i - 1) (sp (0, 0) (0, 0))).f1.f0 (l.getD (i - 1) (sp (0, 0) (0, 0))).f1.f1) < 0))
def allS (l : List Sp) : Nat → Nat → Bool
  | _, 0 => true
  | i, n + 1 => sbS l i && allS l (i + 1) n
theorem getD_S {l : List Sp} {i : Nat} (h : i < l.length) : l.getD i (sp (0, 0) (0, 0)) = l[i] := by simp [List.getD, h]
theorem sorted_l0 (l : List Sp) (hl : l.length ≤ 1000000) : ∀ (n i : Nat), i + n = l.length → Ev (fun k => span_Sorted.l0 k l l (l.length : Int) (i : Int)) (allS l i n) := by
  intro n
  induction n with
  | zero =>
    intro i hin
    refine Ev.step (f := fun _ => some true) (fun k => ?_) (Ev.now _)
    rw [span_Sorted.l0, if_neg (by omega)]
  | succ n ih =>
    intro i hin
    have hlt : i < l.length := by omega
    have hw : wrap64 ((i : Int) + 1) = ((i + 1 : Nat) : Int) := by unfold wrap64; omega
    have ih' := ih (i + 1) (by omega)
    by_cases hi0 : i = 0
    · subst hi0
      refine Ev.step (f := fun k => (span_Right.f k l[0].f0.f0 l[0].f0.f1 l[0].f1.f0 l[0].f1.f1).bind fun t => if t = true then span_Sorted.l0 k l l (l.length : Int) ((0 + 1 : Nat) : Int) else some false) (fun k => ?_) ?_
      · rw [span_Sorted.l0, if_pos (by omega), if_pos (by omega), if_pos (by omega), rdS hlt, hw]
        rfl
      · refine Ev.bind (a := RX l[0]) ⟨3, fun k hk => span_Right.eq _ _ _ _ k hk⟩ ?_
        show Ev _ (sbS l 0 && allS l (0 + 1) n)
        have es : sbS l 0 = RX l[0] := by unfold sbS; rw [getD_S hlt]; simp
        rw [es]
        by_cases hx : RX l[0] = true
        · simp only [hx, if_true, Bool.true_and]; exact ih'
        · have hx' : RX l[0] = false := by simpa using hx
          simp only [hx', Bool.false_eq_true, if_false, Bool.false_and]; exact Ev.now _
    · have hw1 : wrap64 ((i : Int) - 1) = ((i - 1 : Nat) : Int) := by unfold wrap64; omega
      have hlt1 : i - 1 < l.length := by omega
      refine Ev.step (f := fun k => (span_Right.f k l[i].f0.f0 l[i].f0.f1 l[i].f1.f0 l[i].f1.f1).bind fun t => if t = true then ((cut_Compare.f k l[i - 1].f1.f0 l[i - 1].f1.f1 l[i].f0.f0 l[i].f0.f1).bind fun u => if u > 0 then some false else span_Sorted.l0 k l l (l.length : Int) ((i + 1 : Nat) : Int)) else some false) (fun k => ?_) ?_
      · rw [span_Sorted.l0, if_pos (by omega), if_pos (by omega), if_pos (by omega), rdS hlt, hw, hw1, rdS hlt1]
        congr 1; funext t
        by_cases ht : t = true
        · rw [if_pos ht, if_pos ht, if_pos (by omega), if_pos (by omega), if_pos (by omega)]
        · rw [if_neg ht, if_neg ht]
      · refine Ev.bind (a := RX l[i]) ⟨3, fun k hk => span_Right.eq _ _ _ _ k hk⟩ ?_
        show Ev _ (sbS l i && allS l (i + 1) n)
        have es : sbS l i = (RX l[i] && !decide (cmp2 (canon l[i].f0.f0 l[i].f0.f1) (canon l[i - 1].f1.f0 l[i - 1].f1.f1) < 0)) := by unfold sbS; rw [getD_S hlt, getD_S hlt1, decide_eq_false hi0, Bool.false_or]
        rw [es]
        by_cases hx : RX l[i] = true
        · simp only [hx, if_true, Bool.true_and]
          refine Ev.bind ⟨3, fun k hk => cut_Compare.eq _ _ _ _ k hk⟩ ?_
          by_cases hc : cmp2 (canon l[i].f0.f0 l[i].f0.f1) (canon l[i - 1].f1.f0 l[i - 1].f1.f1) < 0
          · have hg := lex_gt.2 hc
            simp only [hc, hg, if_true, decide_true, Bool.not_true, Bool.false_and]; exact Ev.now _
          · have hg : ¬ cmp2 (canon l[i - 1].f1.f0 l[i - 1].f1.f1) (canon l[i].f0.f0 l[i].f0.f1) > 0 := fun g => hc (lex_gt.1 g)
            simp only [hc, hg, if_false, decide_false, Bool.not_false, Bool.true_and]; exact ih'
        · have hx' : RX l[i] = false := by simpa using hx
          simp only [hx', Bool.false_eq_true, if_false, Bool.false_and]; exact Ev.now _
theorem span_Sorted.ev (l : List Sp) (hl : l.length ≤ 1000000) : Ev (fun k => span_Sorted.f k l) (allS l 0 l.length) := sorted_l0 l hl l.length 0 (by omega)
theorem rsorted_l0 (l : List Sp) (hl : l.length ≤ 1000000) : ∀ (n i : Nat), i + n = l.length → Ev (fun k => bocageref03_Sorted.l0 k l (i : Int)) (allS l i n) := by
  intro n
  induction n with
  | zero =>
    intro i hin
    refine Ev.step (f := fun _ => some true) (fun k => ?_) (Ev.now _)
    rw [bocageref03_Sorted.l0, if_neg (by omega)]
  | succ n ih =>
    intro i hin
    have hlt : i < l.length := by omega
    have hw : wrap64 ((i : Int) + 1) = ((i + 1 : Nat) : Int) := by unfold wrap64; omega
    have ih' := ih (i + 1) (by omega)
    by_cases hi0 : i = 0
    · subst hi0
      refine Ev.step (f := fun k => (bocageref03_Right.f k l[0].f0.f0 l[0].f0.f1 l[0].f1.f0 l[0].f1.f1).bind fun t => if t = true then bocageref03_Sorted.l0 k l ((0 + 1 : Nat) : Int) else some false) (fun k => ?_) ?_
      · rw [bocageref03_Sorted.l0, if_pos (by omega), if_pos (by omega), rdS hlt, hw]
        rfl
      · refine Ev.bind (a := RX l[0]) ⟨1, fun k hk => bocageref03_Right.eq _ _ _ _ k hk⟩ ?_
        show Ev _ (sbS l 0 && allS l (0 + 1) n)
        have es : sbS l 0 = RX l[0] := by unfold sbS; rw [getD_S hlt]; simp
        rw [es]
        by_cases hx : RX l[0] = true
        · simp only [hx, if_true, Bool.true_and]; exact ih'
        · have hx' : RX l[0] = false := by simpa using hx
          simp only [hx', Bool.false_eq_true, if_false, Bool.false_and]; exact Ev.now _
    · have hw1 : wrap64 ((i : Int) - 1) = ((i - 1 : Nat) : Int) := by unfold wrap64; omega
      have hlt1 : i - 1 < l.length := by omega
      refine Ev.step (f := fun k => (bocageref03_Right.f k l[i].f0.f0 l[i].f0.f1 l[i].f1.f0 l[i].f1.f1).bind fun t => if t = true then ((bocageref02_Less.f k l[i].f0.f0 l[i].f0.f1 l[i - 1].f1.f0 l[i - 1].f1.f1).bind fun u => if u = true then some false else bocageref03_Sorted.l0 k l ((i + 1 : Nat) : Int)) else some false) (fun k => ?_) ?_
      · rw [bocageref03_Sorted.l0, if_pos (by omega), if_pos (by omega), rdS hlt, hw, hw1, rdS hlt1]
        congr 1; funext t
        by_cases ht : t = true
        · rw [if_pos ht, if_pos ht, if_pos (by omega), if_pos (by omega), if_pos (by omega)]
        · rw [if_neg ht, if_neg ht]
      · refine Ev.bind (a := RX l[i]) ⟨1, fun k hk => bocageref03_Right.eq _ _ _ _ k hk⟩ ?_
        show Ev _ (sbS l i && allS l (i + 1) n)
        have es : sbS l i = (RX l[i] && !decide (cmp2 (canon l[i].f0.f0 l[i].f0.f1) (canon l[i - 1].f1.f0 l[i - 1].f1.f1) < 0)) := by unfold sbS; rw [getD_S hlt, getD_S hlt1, decide_eq_false hi0, Bool.false_or]
        rw [es]
        by_cases hx : RX l[i] = true
        · simp only [hx, if_true, Bool.true_and]
          refine Ev.bind ⟨1, fun k hk => bocageref02_Less.eq _ _ _ _ k hk⟩ ?_
          by_cases hc : cmp2 (canon l[i].f0.f0 l[i].f0.f1) (canon l[i - 1].f1.f0 l[i - 1].f1.f1) < 0
          · simp only [hc, if_true, decide_true, Bool.not_true, Bool.false_and]; exact Ev.now _
          · simp only [hc, Bool.false_eq_true, if_false, decide_false, Bool.not_false, Bool.true_and]; exact ih'
        · have hx' : RX l[i] = false := by simpa using hx
          simp only [hx', Bool.false_eq_true, if_false, Bool.false_and]; exact Ev.now _
theorem bocageref03_Sorted.ev (l : List Sp) (hl : l.length ≤ 1000000) : Ev (fun k => bocageref03_Sorted.f k l) (allS l 0 l.length) := rsorted_l0 l hl l.length 0 (by omega)
theorem allS_good {l : List Sp} (h : GoodL l) : ∀ (n i : Nat), i + n = l.length → allS l i n = true
  | 0, _, _ => rfl
  | n + 1, i, hin => by
    have hlt : i < l.length := by omega
    show (sbS l i && allS l (i + 1) n) = true
    rw [allS_good h n (i + 1) (by omega), Bool.and_true]
    unfold sbS
    rw [getD_S hlt]
    have r1 := h.1 l[i] (List.getElem_mem hlt)
    rw [RX_iff.2 r1.RS, Bool.true_and]
    by_cases hi0 : i = 0
    · rw [decide_eq_true hi0, Bool.true_or]
    · have hlt1 : i - 1 < l.length := by omega
      have r2 := h.1 l[i - 1] (List.getElem_mem hlt1)
      rw [getD_S hlt1, decide_eq_false hi0, Bool.false_or]
      have e1 : canon l[i].f0.f0 l[i].f0.f1 = lo l[i] := r1.1.canon
      have e2 : canon l[i - 1].f1.f0 l[i - 1].f1.f1 = hi l[i - 1] := r2.2.1.canon
      rw [e1, e2, decide_eq_false]
      · rfl
      · intro hc
        have h1 := (cmp2_pos r1.1 r2.2.1).1 hc
        have h2 := List.pairwise_iff_getElem.1 (List.pairwise_map.1 h.2.2) (i - 1) i hlt1 hlt (by omega)
        have h3 : pos (hi l[i - 1]) < pos (lo l[i]) := h2
        omega

end Go.Proofs.Ytkkbmjfhpngalaa.Print

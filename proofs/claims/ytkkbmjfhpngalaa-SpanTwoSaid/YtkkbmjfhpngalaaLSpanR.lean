import Derived.Test.YtkkbmjfhpngalaaPrint7
import Derived.Test.YtkkbmjfhpngalaaLSpanR1
import Derived.Test.YtkkbmjfhpngalaaLCutSortR
namespace Go.Proofs.Ytkkbmjfhpngalaa.Print
open Go.RowKit Go.Proofs.YtkkbmjfhpngalaaW.PrintWords Go.Proofs.YtkkbmjfhpngalaaW.PrintLast
set_option linter.unusedVariables false
set_option linter.unusedSimpArgs false
theorem any_l0 (l : List Sp) (hl : l.length ≤ 10000000) (w : ∀ x ∈ l, WS x) {n : Int} (hn : I64 n) : ∀ (m i : Nat), i + m = l.length → Ev (fun k => bocageref03_Any.l0 k l n (i : Int)) ((l.drop i).any (fun x => hasB x n)) := by
  intro m
  induction m with
  | zero =>
    intro i hi
    rw [List.drop_of_length_le (by omega)]
    refine Ev.step (f := fun _ => some false) (fun k => ?_) (Ev.now _)
    rw [bocageref03_Any.l0, if_neg (by omega)]
  | succ m ih =>
    intro i hi
    have hlt : i < l.length := by omega
    have hw : wrap64 ((i : Int) + 1) = ((i + 1 : Nat) : Int) := by unfold wrap64; omega
    rw [List.drop_eq_getElem_cons hlt, List.any_cons]
    refine Ev.step (f := fun k => (bocageref03_Has.f k l[i].f0.f0 l[i].f0.f1 l[i].f1.f0 l[i].f1.f1 n).bind fun t => if t = true then some true else bocageref03_Any.l0 k l n ((i + 1 : Nat) : Int)) (fun k => ?_) ?_
    · rw [bocageref03_Any.l0, if_pos (by omega), if_pos (by omega), rdS hlt, hw]
    · refine Ev.bind (a := hasB l[i] n) ⟨1, fun k hk => bocageref03_Has.eq _ (w _ (List.getElem_mem hlt)) hn k hk⟩ ?_
      by_cases h : hasB l[i] n = true
      · simp only [h, if_true, Bool.true_or]; exact Ev.now _
      · have h' : hasB l[i] n = false := by simpa using h
        simp only [h', Bool.false_eq_true, if_false, Bool.false_or]
        exact ih (i + 1) (by omega)
theorem bocageref03_Any.ev (l : List Sp) (hl : l.length ≤ 10000000) (w : ∀ x ∈ l, WS x) {n : Int} (hn : I64 n) : Ev (fun k => bocageref03_Any.f k l n) (anyB l n) := by
  have := any_l0 l hl w hn l.length 0 (by omega)
  rwa [List.drop_zero] at this
/-- all cuts of right ones -/
def cutsS (l : List Sp) : List Ct := l.flatMap (fun x => if RX x = true then [x.f0, x.f1] else [])
theorem cutsS_len (l : List Sp) : (cutsS l).length ≤ 2 * l.length := by
  induction l with
  | nil => exact Nat.le_refl _
  | cons x l ih =>
    show ((if RX x = true then [x.f0, x.f1] else []) ++ cutsS l).length ≤ _
    rw [List.length_append, List.length_cons]
    have : (if RX x = true then [x.f0, x.f1] else []).length ≤ 2 := by split <;> simp
    omega
theorem cuts_l0 (l : List Sp) (hl : l.length ≤ 100000) (r : List Ct) : ∀ (m i : Nat) (out : List Ct), i + m = l.length → out.length ≤ 2 * i → Ev (fun k => bocageref02_Sort.f k (out ++ cutsS (l.drop i))) r → Ev (fun k => bocageref03_Cuts.l0 k l out (i : Int)) r := by
  intro m
  induction m with
  | zero =>
    intro i out hi ho h
    rw [List.drop_of_length_le (by omega)] at h
    refine Ev.step (f := fun k => (bocageref02_Sort.f k out).bind fun t => some t) (fun k => ?_) (Ev.bind (by simpa [cutsS] using h) (Ev.now _))
    rw [bocageref03_Cuts.l0, if_neg (by omega)]
  | succ m ih =>
    intro i out hi ho h
    have hlt : i < l.length := by omega
    have hw : wrap64 ((i : Int) + 1) = ((i + 1 : Nat) : Int) := by unfold wrap64; omega
    rw [List.drop_eq_getElem_cons hlt] at h
    have hc : cutsS (l[i] :: l.drop (i + 1)) = (if RX l[i] = true then [l[i].f0, l[i].f1] else []) ++ cutsS (l.drop (i + 1)) := rfl
    rw [hc] at h
    refine Ev.step (f := fun k => (bocageref03_Right.f k l[i].f0.f0 l[i].f0.f1 l[i].f1.f0 l[i].f1.f1).bind fun t => if t = true then (if out.length + 2 < 8796093022208 then bocageref03_Cuts.l0 k l (out ++ [l[i].f0, l[i].f1]) ((i + 1 : Nat) : Int) else none) else bocageref03_Cuts.l0 k l out ((i + 1 : Nat) : Int)) (fun k => ?_) ?_
    · rw [bocageref03_Cuts.l0, if_pos (by omega), if_pos (by omega), rdS hlt, hw]; rfl
    · refine Ev.bind (a := RX l[i]) ⟨1, fun k hk => bocageref03_Right.eq _ _ _ _ k hk⟩ ?_
      by_cases hx : RX l[i] = true
      · simp only [hx, if_true] at h ⊢
        rw [← List.append_assoc] at h
        have hb : out.length + 2 < 8796093022208 := by omega
        simp only [hb, if_true]
        exact ih (i + 1) _ (by omega) (by rw [List.length_append]; show out.length + 2 ≤ _; omega) h
      · have hx' : RX l[i] = false := by simpa using hx
        simp only [hx', Bool.false_eq_true, if_false, List.nil_append] at h ⊢
        exact ih (i + 1) _ (by omega) (by omega) h
theorem bocageref03_Cuts.ev (l : List Sp) (hl : l.length ≤ 100000) (w : ∀ x ∈ l, WS x) : ∃ R, Ev (fun k => bocageref03_Cuts.f k l) R ∧ (∀ c ∈ R, CC (ct c)) ∧ R.Pairwise (fun a b => pos (ct a) < pos (ct b)) ∧ (∀ p, (∃ c ∈ R, ct c = p) ↔ ∃ x ∈ l, RR x ∧ (lo x = p ∨ hi x = p)) ∧ R.length ≤ 2 * l.length := by
  have hmem : ∀ c, c ∈ cutsS l ↔ ∃ x ∈ l, RX x = true ∧ (c = x.f0 ∨ c = x.f1) := fun c => by
    unfold cutsS
    rw [List.mem_flatMap]
    constructor
    · rintro ⟨x, hx, h⟩
      by_cases hr : RX x = true
      · rw [if_pos hr] at h; exact ⟨x, hx, hr, by simpa using h⟩
      · rw [if_neg hr] at h; cases h
    · rintro ⟨x, hx, hr, h⟩; exact ⟨x, hx, by rw [if_pos hr]; simpa using h⟩
  have hlen := cutsS_len l
  obtain ⟨R, r1, r2⟩ := bocageref02_Sort.ev (cutsS l) (by omega) (fun c hc => by
    obtain ⟨x, hx, _, rfl | rfl⟩ := (hmem c).1 hc
    · exact (w x hx).1
    · exact (w x hx).2)
  refine ⟨R, cuts_l0 l hl R l.length 0 [] (by omega) (by simp) (by rw [List.drop_zero, List.nil_append]; exact r1), r2.cc, r2.up, fun p => ?_, by have := r2.len; omega⟩
  rw [r2.mem]
  constructor
  · rintro ⟨c, hc, rfl⟩
    obtain ⟨x, hx, hr, h⟩ := (hmem c).1 hc
    have rr := (RX_RR (w x hx)).1 hr
    refine ⟨x, hx, rr, ?_⟩
    rcases h with rfl | rfl
    · exact .inl rr.1.canon.symm
    · exact .inr rr.2.1.canon.symm
  · rintro ⟨x, hx, rr, h⟩
    have hr := (RX_RR (w x hx)).2 rr
    rcases h with rfl | rfl
    · exact ⟨x.f0, (hmem _).2 ⟨x, hx, hr, .inl rfl⟩, rr.1.canon⟩
    · exact ⟨x.f1, (hmem _).2 ⟨x, hx, hr, .inr rfl⟩, rr.2.1.canon⟩

end Go.Proofs.Ytkkbmjfhpngalaa.Print

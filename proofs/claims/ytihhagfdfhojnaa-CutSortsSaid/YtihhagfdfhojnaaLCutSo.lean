import Derived.Test.YtihhagfdfhojnaaPrint5
import Derived.Test.YtihhagfdfhojnaaLCutPos
namespace Go.Proofs.Ytihhagfdfhojnaa.Print
open Go.RowKit Go.Proofs.YtihhagfdfhojnaaW.PrintWords Go.Proofs.YtihhagfdfhojnaaW.PrintLast
set_option linter.unusedVariables false
set_option linter.unusedSimpArgs false
/-- a cut as two numbers -/
def ct (c : Ct) : Int × Int := (c.f0, c.f1)
def cn (c : Ct) : Int × Int := canon c.f0 c.f1
def WC (c : Ct) : Prop := I64 c.f1
theorem WC.cc {c : Ct} (h : WC c) : CC (cn c) := canon_CC h
def tc (p : Int × Int) : Ct := ⟨p.1, p.2⟩
theorem ct_tc (p : Int × Int) : ct (tc p) = p := rfl
/-- cuts in order, each once -/
def cnC (c : Ct) : Ct := tc (cn c)
def ltC (x y : Ct) : Bool := decide (x.f0 < y.f0 ∨ (x.f0 = y.f0 ∧ x.f1 < y.f1))
def insC (x : Ct) : List Ct → List Ct
  | [] => [x]
  | y :: l => if ltC x y = true then x :: y :: l else if ltC y x = true then y :: insC x l else y :: l
def sortC (l : List Ct) : List Ct := l.foldr insC []
def cut_Sort.f (k : Nat) (l0 : List Ct) : Option (List Ct) := if l0.length < 1000000 then some (sortC (l0.map cnC)) else none
theorem cut_Sort.mono : ∀ a0 k, LeO (cut_Sort.f k a0) (cut_Sort.f (k + 1) a0) := fun _ _ => LeO.refl _
theorem ltC_iff {x y : Ct} : ltC x y = true ↔ x.f0 < y.f0 ∨ (x.f0 = y.f0 ∧ x.f1 < y.f1) := by unfold ltC; rw [decide_eq_true_eq]
theorem ct_ext {x y : Ct} (h : x.f0 = y.f0) (g : x.f1 = y.f1) : x = y := by cases x; cases y; simp only at h g; rw [h, g]
theorem ltC_tri {x y : Ct} (h : ¬ ltC x y = true) (g : ¬ ltC y x = true) : x = y := by
  rw [ltC_iff] at h g; exact ct_ext (by omega) (by omega)
theorem insC_mem {x z : Ct} : ∀ {l : List Ct}, z ∈ insC x l ↔ z = x ∨ z ∈ l
  | [] => by simp [insC]
  | y :: l => by
    unfold insC
    by_cases h : ltC x y = true
    · rw [if_pos h]; simp
    · rw [if_neg h]
      by_cases g : ltC y x = true
      · rw [if_pos g, List.mem_cons, insC_mem, List.mem_cons]
        exact ⟨fun e => e.elim (fun e => .inr (.inl e)) (fun e => e.elim .inl (fun e => .inr (.inr e))), fun e => e.elim (fun e => .inr (.inl e)) (fun e => e.elim .inl (fun e => .inr (.inr e)))⟩
      · rw [if_neg g, ltC_tri h g]; simp
theorem insC_up {x : Ct} : ∀ {l : List Ct}, l.Pairwise (fun a b => ltC a b = true) → (insC x l).Pairwise (fun a b => ltC a b = true)
  | [], _ => List.pairwise_singleton _ _
  | y :: l, h => by
    obtain ⟨h1, h2⟩ := List.pairwise_cons.1 h
    unfold insC
    by_cases c : ltC x y = true
    · rw [if_pos c]
      refine List.pairwise_cons.2 ⟨fun z hz => ?_, h⟩
      rcases List.mem_cons.1 hz with rfl | hz
      · exact c
      · have := h1 z hz; rw [ltC_iff] at *; omega
    · rw [if_neg c]
      by_cases g : ltC y x = true
      · rw [if_pos g]
        refine List.pairwise_cons.2 ⟨fun z hz => ?_, insC_up h2⟩
        rcases insC_mem.1 hz with rfl | hz
        · exact g
        · exact h1 z hz
      · rw [if_neg g]; exact h
theorem sortC_up : ∀ (l : List Ct), (sortC l).Pairwise (fun a b => ltC a b = true)
  | [] => List.Pairwise.nil
  | _ :: l => insC_up (sortC_up l)
theorem sortC_mem {z : Ct} : ∀ {l : List Ct}, z ∈ sortC l ↔ z ∈ l
  | [] => Iff.rfl
  | x :: l => by
    show z ∈ insC x (sortC l) ↔ _
    rw [insC_mem, sortC_mem, List.mem_cons]
/-- rows that rise and have the same members are the same -/
theorem up_unique : ∀ {l m : List Ct}, l.Pairwise (fun a b => ltC a b = true) → m.Pairwise (fun a b => ltC a b = true) → (∀ z, z ∈ l ↔ z ∈ m) → l = m
  | [], [], _, _, _ => rfl
  | [], y :: m, _, _, h => absurd ((h y).2 List.mem_cons_self) List.not_mem_nil
  | x :: l, [], _, _, h => absurd ((h x).1 List.mem_cons_self) List.not_mem_nil
  | x :: l, y :: m, hl, hm, h => by
    obtain ⟨l1, l2⟩ := List.pairwise_cons.1 hl
    obtain ⟨m1, m2⟩ := List.pairwise_cons.1 hm
    have irr : ∀ c : Ct, ¬ ltC c c = true := fun c g => by rw [ltC_iff] at g; omega
    have asy : ∀ a b : Ct, ltC a b = true → ltC b a = true → False := fun a b g g' => by rw [ltC_iff] at g g'; omega
    have e : x = y := by
      rcases List.mem_cons.1 ((h x).1 List.mem_cons_self) with e | e
      · exact e
      · rcases List.mem_cons.1 ((h y).2 List.mem_cons_self) with e' | e'
        · exact e'.symm
        · exact (asy _ _ (m1 x e) (l1 y e')).elim
    subst e
    rw [up_unique l2 m2 (fun z => ⟨fun hz => ?_, fun hz => ?_⟩)]
    · rcases List.mem_cons.1 ((h z).1 (List.mem_cons_of_mem _ hz)) with e | e
      · subst e; exact absurd (l1 z hz) (irr z)
      · exact e
    · rcases List.mem_cons.1 ((h z).2 (List.mem_cons_of_mem _ hz)) with e | e
      · subst e; exact absurd (m1 z hz) (irr z)
      · exact e

end Go.Proofs.Ytihhagfdfhojnaa.Print

import Derived.Test.YtihhagfdfhojnaaLOpens
import Derived.Deep.Slices
import Derived.Deep.Fields
import Derived.ChangeSame
namespace Go.Proofs.Ytihhagfdfhojnaa.Print
open Go.RowKit
set_option linter.unusedVariables false
set_option linter.unusedSimpArgs false
open Go Go.ChangeShapes Go.WideShapes Go.RowKit Go.Deep
/-- an argument that is a slice of such elements -/
theorem Opens.slice {P : Program} {t e : TypeId} {α : Type} {g : α → List Value} {ok : α → Prop} (ht : P.underlying t = some (.slice e)) (o : Opens P e g ok) {H : Type} {enc : TypeId × Value → H} {w : World} {base : Nat} {spare : Nat → Bool} {held : Bool}
    {a : Option Addr} {len cap : Nat} {d : DataW H} {ps : List MemPlace} (hd : DataW.Trod enc P w base spare held t (.slice a len cap) d ps) :
    ∃ xs : List α, xs.length = len ∧ (∀ x ∈ xs, ok x) ∧ len ≤ cap ∧ len ≤ 9223372036854775807 ∧ (0 < len → ∃ ad, a = some ad ∧ ∀ (j : Nat) (x : α), xs[j]? = some x → ∀ (i : Nat) (u : Value), (g x)[i]? = some u → w.cell? (ad.add (j * P.cellsOf e + i)) = some u) := by
  obtain ⟨fuel, hf⟩ := hd
  rcases open_slice ht hf with ⟨hcs, _⟩ | ⟨ad, l, c, m, n, D, Pl, hcs, _, hl, hm, hmm, _, hi⟩
  · simp [Value.cells] at hcs
    obtain ⟨rfl, rfl, rfl⟩ := hcs
    exact ⟨[], rfl, fun _ h => (by cases h), Nat.le_refl _, by omega, fun h => absurd h (by omega)⟩
  · simp [Value.cells] at hcs
    obtain ⟨rfl, rfl, rfl⟩ := hcs
    have hlm : len ≤ m := by rw [hmm]; split <;> omega
    have key : ∀ k, k ≤ len → ∃ xs : List α, xs.length = k ∧ (∀ x ∈ xs, ok x) ∧ ∀ (j : Nat) (x : α), xs[j]? = some x → ∀ (i : Nat) (u : Value), (g x)[i]? = some u → w.cell? (ad.add (j * P.cellsOf e + i)) = some u := by
      intro k
      induction k with
      | zero => intro _; exact ⟨[], rfl, fun _ h => (by cases h), fun j x h => by simp at h⟩
      | succ k ih =>
        intro hk
        obtain ⟨xs, h1, h2, h3⟩ := ih (by omega)
        obtain ⟨cs', hc, hT⟩ := hi k (by omega)
        obtain ⟨x, rfl, hx⟩ := o _ _ _ _ _ _ _ _ _ hT
        obtain ⟨_, hcl, hat⟩ := World.cells?_some hc
        refine ⟨xs ++ [x], by simp [h1], fun y hy => ?_, fun j y hj i u hu => ?_⟩
        · rcases List.mem_append.1 hy with hy | hy
          · exact h2 y hy
          · rcases List.mem_singleton.1 hy with rfl; exact hx
        · by_cases hjk : j < k
          · rw [List.getElem?_append_left (by omega)] at hj
            exact h3 j y hj i u hu
          · have hjl : j < (xs ++ [x]).length := (List.getElem?_eq_some_iff.1 hj).1
            have : j = k := by simp at hjl; omega
            subst this
            rw [← h1, List.getElem?_append_right (Nat.le_refl _)] at hj
            simp at hj
            subst hj
            have hil : i < (g x).length := (List.getElem?_eq_some_iff.1 hu).1
            have hcell := hat i (by omega)
            rw [← Go.Deep.add_add, hcell, hu]
    obtain ⟨xs, h1, h2, h3⟩ := key len (Nat.le_refl _)
    exact ⟨xs, h1, h2, hl, by unfold maxLen at hm; omega, fun _ => ⟨ad, rfl, h3⟩⟩

end Go.Proofs.Ytihhagfdfhojnaa.Print

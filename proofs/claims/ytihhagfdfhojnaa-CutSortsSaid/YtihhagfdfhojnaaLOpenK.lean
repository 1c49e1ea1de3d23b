import Derived.Test.YtihhagfdfhojnaaPrint0
import Derived.Test.YtihhagfdfhojnaaLOpenSl
namespace Go.Proofs.Ytihhagfdfhojnaa.Print
open Go.RowKit Go.Proofs.YtihhagfdfhojnaaW.PrintWords Go.Proofs.YtihhagfdfhojnaaW.PrintLast
set_option linter.unusedVariables false
set_option linter.unusedSimpArgs false
/-- a row of elements that lie as these cells is a row of the kind -/
theorem kdC_of {α S : Type} (d : Kd S) (g : α → List Value) (mk : α → S) (hK : ∀ w x, d.K w (mk x) (g x)) {w : World} {a : Option Addr} (xs : List α) (n : Nat) (hn : n = d.sz) (hl : xs.length ≤ 9223372036854775807)
    (hcell : 0 < xs.length → ∃ ad, a = some ad ∧ ∀ (j : Nat) (x : α), xs[j]? = some x → ∀ (i : Nat) (u : Value), (g x)[i]? = some u → w.cell? (ad.add (j * n + i)) = some u) : d.C w a (xs.map mk).length (xs.map mk) := by
  subst hn
  refine ⟨rfl, by rw [List.length_map]; exact hl, fun hp => ?_⟩
  rw [List.length_map] at hp
  obtain ⟨ad, ea, hc⟩ := hcell hp
  refine ⟨ad, ea, fun j p hj => ?_⟩
  rw [List.getElem?_map] at hj
  obtain ⟨x, hx, rfl⟩ := Option.map_eq_some_iff.1 hj
  exact ⟨g x, d.K_len (hK w x), hK w x, fun i u hu => hc j x hx i u hu⟩

end Go.Proofs.Ytihhagfdfhojnaa.Print

import Derived.Test.YtihhagfdfhojnaaPrint21
namespace Go.Proofs.Ytihhagfdfhojnaa.Print
open Go.RowKit
set_option linter.unusedVariables false
def bocagelaw02_CutTexts.Pure : Prop := ∀ (a0_0 : Int) (a0_1 : Int) (a1 : ByteArray), (Lit.int .i64 a0_0).wf = true → (Lit.int .i64 a0_1).wf = true → a1.size ≤ 140737488351232 → ∃ k, bocagelaw02_CutTexts.f k a0_0 a0_1 a1 = some true
theorem bocagelaw02_CutTexts.walk (P : bocagelaw02_CutTexts.Pure) (a0_0 : Int) (a0_1 : Int) (a1 : ByteArray) (w : World) (w0 : (Lit.int .i64 a0_0).wf = true) (w1 : (Lit.int .i64 a0_1).wf = true) (w2 : a1.size ≤ 140737488351232) :
    Calls Try.prog 3 #[.agg #[.int .i64 a0_0, .int .i64 a0_1], .string a1] w fun e w' => e = .returned (.bool true) ∧ Below w.heap.size w w' := by
  obtain ⟨k, h⟩ := P a0_0 a0_1 a1 w0 w1 w2
  refine (bocagelaw02_CutTexts.calls k a0_0 a0_1 a1 true w h rfl).mono ?_
  rintro e w' ⟨rfl, hd⟩
  exact ⟨rfl, hd⟩
end Go.Proofs.Ytihhagfdfhojnaa.Print

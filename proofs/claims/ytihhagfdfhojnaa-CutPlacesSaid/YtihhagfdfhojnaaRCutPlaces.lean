import Derived.Test.YtihhagfdfhojnaaPrint31
namespace Go.Proofs.Ytihhagfdfhojnaa.Print
open Go.RowKit
set_option linter.unusedVariables false
def bocagelaw02_CutPlaces.Pure : Prop := ∀ (a0_0 : Int) (a0_1 : Int) (a1_0 : Int) (a1_1 : Int), (Lit.int .i64 a0_0).wf = true → (Lit.int .i64 a0_1).wf = true → (Lit.int .i64 a1_0).wf = true → (Lit.int .i64 a1_1).wf = true → ∃ k, bocagelaw02_CutPlaces.f k a0_0 a0_1 a1_0 a1_1 = some true
theorem bocagelaw02_CutPlaces.walk (P : bocagelaw02_CutPlaces.Pure) (a0_0 : Int) (a0_1 : Int) (a1_0 : Int) (a1_1 : Int) (w : World) (w0 : (Lit.int .i64 a0_0).wf = true) (w1 : (Lit.int .i64 a0_1).wf = true) (w2 : (Lit.int .i64 a1_0).wf = true) (w3 : (Lit.int .i64 a1_1).wf = true) :
    Calls Try.prog 7 #[.agg #[.int .i64 a0_0, .int .i64 a0_1], .agg #[.int .i64 a1_0, .int .i64 a1_1]] w fun e w' => e = .returned (.bool true) ∧ Below w.heap.size w w' := by
  obtain ⟨k, h⟩ := P a0_0 a0_1 a1_0 a1_1 w0 w1 w2 w3
  refine (bocagelaw02_CutPlaces.calls k a0_0 a0_1 a1_0 a1_1 true w h rfl).mono ?_
  rintro e w' ⟨rfl, hd⟩
  exact ⟨rfl, hd⟩
end Go.Proofs.Ytihhagfdfhojnaa.Print

import Derived.Test.YtagcloidicnhhaaPrint4
namespace Go.Proofs.Ytagcloidicnhhaa.Print
open Go.RowKit
set_option linter.unusedVariables false
def bocagelaw13_CombOrder.Pure : Prop := ∀ (a0 : Int) (a1 : Int) (a2_0 : Int) (a2_1 : Int), (Lit.int .i64 a0).wf = true → (Lit.int .i64 a1).wf = true → (Lit.int .i64 a2_0).wf = true → (Lit.int .i64 a2_1).wf = true → ∃ k, bocagelaw13_CombOrder.f k a0 a1 a2_0 a2_1 = some true
theorem bocagelaw13_CombOrder.walk (P : bocagelaw13_CombOrder.Pure) (a0 : Int) (a1 : Int) (a2_0 : Int) (a2_1 : Int) (w : World) (w0 : (Lit.int .i64 a0).wf = true) (w1 : (Lit.int .i64 a1).wf = true) (w2 : (Lit.int .i64 a2_0).wf = true) (w3 : (Lit.int .i64 a2_1).wf = true) :
    Calls Try.prog 8 #[.int .i64 a0, .int .i64 a1, .agg #[.int .i64 a2_0, .int .i64 a2_1]] w fun e w' => e = .returned (.bool true) ∧ Below w.heap.size w w' := by
  obtain ⟨k, h⟩ := P a0 a1 a2_0 a2_1 w0 w1 w2 w3
  refine (bocagelaw13_CombOrder.calls k a0 a1 a2_0 a2_1 true w h rfl).mono ?_
  rintro e w' ⟨rfl, hd⟩
  exact ⟨rfl, hd⟩
end Go.Proofs.Ytagcloidicnhhaa.Print

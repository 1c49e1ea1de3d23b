import Derived.Test.YtpeidnkbliafkaaPrint11
namespace Go.Proofs.Ytpeidnkbliafkaa.Print
open Go.RowKit
set_option linter.unusedVariables false
def bocagelaw04_BoundSpans.Pure : Prop := ∀ (a0_0 : Int) (a0_1 : Int) (a1_0 : Int) (a1_1 : Int) (a2_0 : Int) (a2_1 : Int), (Lit.int .i64 a0_0).wf = true → (Lit.int .i64 a0_1).wf = true → (Lit.int .i64 a1_0).wf = true → (Lit.int .i64 a1_1).wf = true → (Lit.int .i64 a2_0).wf = true → (Lit.int .i64 a2_1).wf = true → ∃ k, bocagelaw04_BoundSpans.f k a0_0 a0_1 a1_0 a1_1 a2_0 a2_1 = some true
theorem bocagelaw04_BoundSpans.walk (P : bocagelaw04_BoundSpans.Pure) (a0_0 : Int) (a0_1 : Int) (a1_0 : Int) (a1_1 : Int) (a2_0 : Int) (a2_1 : Int) (w : World) (w0 : (Lit.int .i64 a0_0).wf = true) (w1 : (Lit.int .i64 a0_1).wf = true) (w2 : (Lit.int .i64 a1_0).wf = true) (w3 : (Lit.int .i64 a1_1).wf = true) (w4 : (Lit.int .i64 a2_0).wf = true) (w5 : (Lit.int .i64 a2_1).wf = true) :
    Calls Try.prog 7 #[.agg #[.int .i64 a0_0, .int .i64 a0_1], .agg #[.int .i64 a1_0, .int .i64 a1_1], .agg #[.int .i64 a2_0, .int .i64 a2_1]] w fun e w' => e = .returned (.bool true) ∧ Below w.heap.size w w' := by
  obtain ⟨k, h⟩ := P a0_0 a0_1 a1_0 a1_1 a2_0 a2_1 w0 w1 w2 w3 w4 w5
  refine (bocagelaw04_BoundSpans.calls k a0_0 a0_1 a1_0 a1_1 a2_0 a2_1 true w h rfl).mono ?_
  rintro e w' ⟨rfl, hd⟩
  exact ⟨rfl, hd⟩
end Go.Proofs.Ytpeidnkbliafkaa.Print

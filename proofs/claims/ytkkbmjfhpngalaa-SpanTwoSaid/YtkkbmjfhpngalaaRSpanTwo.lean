import Derived.Test.YtkkbmjfhpngalaaPrint20
namespace Go.Proofs.Ytkkbmjfhpngalaa.Print
open Go.RowKit
set_option linter.unusedVariables false
def bocagelaw03_SpanTwo.Pure : Prop := ∀ (a0_0 : Int) (a0_1 : Int) (a0_2 : Int) (a0_3 : Int) (a1_0 : Int) (a1_1 : Int) (a1_2 : Int) (a1_3 : Int), (Lit.int .i64 a0_0).wf = true → (Lit.int .i64 a0_1).wf = true → (Lit.int .i64 a0_2).wf = true → (Lit.int .i64 a0_3).wf = true → (Lit.int .i64 a1_0).wf = true → (Lit.int .i64 a1_1).wf = true → (Lit.int .i64 a1_2).wf = true → (Lit.int .i64 a1_3).wf = true → ∃ k, bocagelaw03_SpanTwo.f k a0_0 a0_1 a0_2 a0_3 a1_0 a1_1 a1_2 a1_3 = some true
theorem bocagelaw03_SpanTwo.walk (P : bocagelaw03_SpanTwo.Pure) (a0_0 : Int) (a0_1 : Int) (a0_2 : Int) (a0_3 : Int) (a1_0 : Int) (a1_1 : Int) (a1_2 : Int) (a1_3 : Int) (w : World) (w0 : (Lit.int .i64 a0_0).wf = true) (w1 : (Lit.int .i64 a0_1).wf = true) (w2 : (Lit.int .i64 a0_2).wf = true) (w3 : (Lit.int .i64 a0_3).wf = true) (w4 : (Lit.int .i64 a1_0).wf = true) (w5 : (Lit.int .i64 a1_1).wf = true) (w6 : (Lit.int .i64 a1_2).wf = true) (w7 : (Lit.int .i64 a1_3).wf = true) :
    Calls Try.prog 3 #[.agg #[.int .i64 a0_0, .int .i64 a0_1, .int .i64 a0_2, .int .i64 a0_3], .agg #[.int .i64 a1_0, .int .i64 a1_1, .int .i64 a1_2, .int .i64 a1_3]] w fun e w' => e = .returned (.bool true) ∧ Below w.heap.size w w' := by
  obtain ⟨k, h⟩ := P a0_0 a0_1 a0_2 a0_3 a1_0 a1_1 a1_2 a1_3 w0 w1 w2 w3 w4 w5 w6 w7
  refine (bocagelaw03_SpanTwo.calls k a0_0 a0_1 a0_2 a0_3 a1_0 a1_1 a1_2 a1_3 true w h rfl).mono ?_
  rintro e w' ⟨rfl, hd⟩
  exact ⟨rfl, hd⟩
end Go.Proofs.Ytkkbmjfhpngalaa.Print

import Derived.Test.YtkkbmjfhpngalaaPrint18
namespace Go.Proofs.Ytkkbmjfhpngalaa.Print
open Go.RowKit
set_option linter.unusedVariables false
def bocagelaw03_SpanShifts.Pure : Prop := ∀ (a0_0 : Int) (a0_1 : Int) (a0_2 : Int) (a0_3 : Int) (a1 : Int), (Lit.int .i64 a0_0).wf = true → (Lit.int .i64 a0_1).wf = true → (Lit.int .i64 a0_2).wf = true → (Lit.int .i64 a0_3).wf = true → (Lit.int .i64 a1).wf = true → ∃ k, bocagelaw03_SpanShifts.f k a0_0 a0_1 a0_2 a0_3 a1 = some true
theorem bocagelaw03_SpanShifts.walk (P : bocagelaw03_SpanShifts.Pure) (a0_0 : Int) (a0_1 : Int) (a0_2 : Int) (a0_3 : Int) (a1 : Int) (w : World) (w0 : (Lit.int .i64 a0_0).wf = true) (w1 : (Lit.int .i64 a0_1).wf = true) (w2 : (Lit.int .i64 a0_2).wf = true) (w3 : (Lit.int .i64 a0_3).wf = true) (w4 : (Lit.int .i64 a1).wf = true) :
    Calls Try.prog 8 #[.agg #[.int .i64 a0_0, .int .i64 a0_1, .int .i64 a0_2, .int .i64 a0_3], .int .i64 a1] w fun e w' => e = .returned (.bool true) ∧ Below w.heap.size w w' := by
  obtain ⟨k, h⟩ := P a0_0 a0_1 a0_2 a0_3 a1 w0 w1 w2 w3 w4
  refine (bocagelaw03_SpanShifts.calls k a0_0 a0_1 a0_2 a0_3 a1 true w h rfl).mono ?_
  rintro e w' ⟨rfl, hd⟩
  exact ⟨rfl, hd⟩
end Go.Proofs.Ytkkbmjfhpngalaa.Print

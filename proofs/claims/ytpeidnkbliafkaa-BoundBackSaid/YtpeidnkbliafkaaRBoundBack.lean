import Derived.Test.YtpeidnkbliafkaaPrint10
namespace Go.Proofs.Ytpeidnkbliafkaa.Print
open Go.RowKit
set_option linter.unusedVariables false
def bocagelaw04_BoundBack.Pure : Prop := ∀ (a0_0 : Int) (a0_1 : Int) (a0_2 : Int) (a0_3 : Int), (Lit.int .i64 a0_0).wf = true → (Lit.int .i64 a0_1).wf = true → (Lit.int .i64 a0_2).wf = true → (Lit.int .i64 a0_3).wf = true → ∃ k, bocagelaw04_BoundBack.f k a0_0 a0_1 a0_2 a0_3 = some true
theorem bocagelaw04_BoundBack.walk (P : bocagelaw04_BoundBack.Pure) (a0_0 : Int) (a0_1 : Int) (a0_2 : Int) (a0_3 : Int) (w : World) (w0 : (Lit.int .i64 a0_0).wf = true) (w1 : (Lit.int .i64 a0_1).wf = true) (w2 : (Lit.int .i64 a0_2).wf = true) (w3 : (Lit.int .i64 a0_3).wf = true) :
    Calls Try.prog 8 #[.agg #[.int .i64 a0_0, .int .i64 a0_1, .int .i64 a0_2, .int .i64 a0_3]] w fun e w' => e = .returned (.bool true) ∧ Below w.heap.size w w' := by
  obtain ⟨k, h⟩ := P a0_0 a0_1 a0_2 a0_3 w0 w1 w2 w3
  refine (bocagelaw04_BoundBack.calls k a0_0 a0_1 a0_2 a0_3 true w h rfl).mono ?_
  rintro e w' ⟨rfl, hd⟩
  exact ⟨rfl, hd⟩
end Go.Proofs.Ytpeidnkbliafkaa.Print

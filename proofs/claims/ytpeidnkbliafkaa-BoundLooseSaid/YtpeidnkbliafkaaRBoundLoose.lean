import Derived.Test.YtpeidnkbliafkaaPrint18
namespace Go.Proofs.Ytpeidnkbliafkaa.Print
open Go.RowKit
set_option linter.unusedVariables false
def bocagelaw04_BoundLoose.Pure : Prop := ∀ (a0_0 : Int) (a0_1 : Int) (a1_0 : Int) (a1_1 : Int) (a2 : Int), (Lit.int .i64 a0_0).wf = true → (Lit.int .i64 a0_1).wf = true → (Lit.int .i64 a1_0).wf = true → (Lit.int .i64 a1_1).wf = true → (Lit.int .i64 a2).wf = true → ∃ k, bocagelaw04_BoundLoose.f k a0_0 a0_1 a1_0 a1_1 a2 = some true
theorem bocagelaw04_BoundLoose.walk (P : bocagelaw04_BoundLoose.Pure) (a0_0 : Int) (a0_1 : Int) (a1_0 : Int) (a1_1 : Int) (a2 : Int) (w : World) (w0 : (Lit.int .i64 a0_0).wf = true) (w1 : (Lit.int .i64 a0_1).wf = true) (w2 : (Lit.int .i64 a1_0).wf = true) (w3 : (Lit.int .i64 a1_1).wf = true) (w4 : (Lit.int .i64 a2).wf = true) :
    Calls Try.prog 6 #[.agg #[.int .i64 a0_0, .int .i64 a0_1], .agg #[.int .i64 a1_0, .int .i64 a1_1], .int .i64 a2] w fun e w' => e = .returned (.bool true) ∧ Below w.heap.size w w' := by
  obtain ⟨k, h⟩ := P a0_0 a0_1 a1_0 a1_1 a2 w0 w1 w2 w3 w4
  refine (bocagelaw04_BoundLoose.calls k a0_0 a0_1 a1_0 a1_1 a2 true w h rfl).mono ?_
  rintro e w' ⟨rfl, hd⟩
  exact ⟨rfl, hd⟩
end Go.Proofs.Ytpeidnkbliafkaa.Print

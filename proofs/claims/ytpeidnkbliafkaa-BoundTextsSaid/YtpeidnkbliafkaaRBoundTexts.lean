import Derived.Test.YtpeidnkbliafkaaPrint16
namespace Go.Proofs.Ytpeidnkbliafkaa.Print
open Go.RowKit
set_option linter.unusedVariables false
def bocagelaw04_BoundTexts.Pure : Prop := ∀ (a0_0 : Int) (a0_1 : Int) (a0_2 : Int) (a0_3 : Int) (a1 : ByteArray), (Lit.int .i64 a0_0).wf = true → (Lit.int .i64 a0_1).wf = true → (Lit.int .i64 a0_2).wf = true → (Lit.int .i64 a0_3).wf = true → a1.size ≤ 140737488351232 → ∃ k, bocagelaw04_BoundTexts.f k a0_0 a0_1 a0_2 a0_3 a1 = some true
theorem bocagelaw04_BoundTexts.walk (P : bocagelaw04_BoundTexts.Pure) (a0_0 : Int) (a0_1 : Int) (a0_2 : Int) (a0_3 : Int) (a1 : ByteArray) (w : World) (w0 : (Lit.int .i64 a0_0).wf = true) (w1 : (Lit.int .i64 a0_1).wf = true) (w2 : (Lit.int .i64 a0_2).wf = true) (w3 : (Lit.int .i64 a0_3).wf = true) (w4 : a1.size ≤ 140737488351232) :
    Calls Try.prog 5 #[.agg #[.int .i64 a0_0, .int .i64 a0_1, .int .i64 a0_2, .int .i64 a0_3], .string a1] w fun e w' => e = .returned (.bool true) ∧ Below w.heap.size w w' := by
  obtain ⟨k, h⟩ := P a0_0 a0_1 a0_2 a0_3 a1 w0 w1 w2 w3 w4
  refine (bocagelaw04_BoundTexts.calls k a0_0 a0_1 a0_2 a0_3 a1 true w h rfl).mono ?_
  rintro e w' ⟨rfl, hd⟩
  exact ⟨rfl, hd⟩
end Go.Proofs.Ytpeidnkbliafkaa.Print

import Derived.Test.YtkkbmjfhpngalaaPrint12
namespace Go.Proofs.Ytkkbmjfhpngalaa.Print
open Go.RowKit
set_option linter.unusedVariables false
def bocagelaw03_SpanParts.Pure : Prop := ∀ (a0_0 : Int) (a0_1 : Int) (a0_2 : Int) (a0_3 : Int) (a1_0 : Int) (a1_1 : Int) (a1_2 : Int) (a1_3 : Int) (a2 : Int), (Lit.int .i64 a0_0).wf = true → (Lit.int .i64 a0_1).wf = true → (Lit.int .i64 a0_2).wf = true → (Lit.int .i64 a0_3).wf = true → (Lit.int .i64 a1_0).wf = true → (Lit.int .i64 a1_1).wf = true → (Lit.int .i64 a1_2).wf = true → (Lit.int .i64 a1_3).wf = true → (Lit.int .i64 a2).wf = true → ∃ k, bocagelaw03_SpanParts.f k a0_0 a0_1 a0_2 a0_3 a1_0 a1_1 a1_2 a1_3 a2 = some true
theorem bocagelaw03_SpanParts.walk (P : bocagelaw03_SpanParts.Pure) (a0_0 : Int) (a0_1 : Int) (a0_2 : Int) (a0_3 : Int) (a1_0 : Int) (a1_1 : Int) (a1_2 : Int) (a1_3 : Int) (a2 : Int) (w : World) (w0 : (Lit.int .i64 a0_0).wf = true) (w1 : (Lit.int .i64 a0_1).wf = true) (w2 : (Lit.int .i64 a0_2).wf = true) (w3 : (Lit.int .i64 a0_3).wf = true) (w4 : (Lit.int .i64 a1_0).wf = true) (w5 : (Lit.int .i64 a1_1).wf = true) (w6 : (Lit.int .i64 a1_2).wf = true) (w7 : (Lit.int .i64 a1_3).wf = true) (w8 : (Lit.int .i64 a2).wf = true) :
    Calls Try.prog 5 #[.agg #[.int .i64 a0_0, .int .i64 a0_1, .int .i64 a0_2, .int .i64 a0_3], .agg #[.int .i64 a1_0, .int .i64 a1_1, .int .i64 a1_2, .int .i64 a1_3], .int .i64 a2] w fun e w' => e = .returned (.bool true) ∧ Below w.heap.size w w' := by
  obtain ⟨k, h⟩ := P a0_0 a0_1 a0_2 a0_3 a1_0 a1_1 a1_2 a1_3 a2 w0 w1 w2 w3 w4 w5 w6 w7 w8
  refine (bocagelaw03_SpanParts.calls k a0_0 a0_1 a0_2 a0_3 a1_0 a1_1 a1_2 a1_3 a2 true w h rfl).mono ?_
  rintro e w' ⟨rfl, hd⟩
  exact ⟨rfl, hd⟩
end Go.Proofs.Ytkkbmjfhpngalaa.Print

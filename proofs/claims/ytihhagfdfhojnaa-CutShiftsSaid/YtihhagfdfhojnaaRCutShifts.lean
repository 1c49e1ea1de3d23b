import Derived.Test.YtihhagfdfhojnaaPrint36
namespace Go.Proofs.Ytihhagfdfhojnaa.Print
open Go.RowKit
set_option linter.unusedVariables false
def bocagelaw02_CutShifts.Pure : Prop := ∀ (a0_0 : Int) (a0_1 : Int) (a1 : Int), (Lit.int .i64 a0_0).wf = true → (Lit.int .i64 a0_1).wf = true → (Lit.int .i64 a1).wf = true → ∃ k, bocagelaw02_CutShifts.f k a0_0 a0_1 a1 = some true
theorem bocagelaw02_CutShifts.walk (P : bocagelaw02_CutShifts.Pure) (a0_0 : Int) (a0_1 : Int) (a1 : Int) (w : World) (w0 : (Lit.int .i64 a0_0).wf = true) (w1 : (Lit.int .i64 a0_1).wf = true) (w2 : (Lit.int .i64 a1).wf = true) :
    Calls Try.prog 8 #[.agg #[.int .i64 a0_0, .int .i64 a0_1], .int .i64 a1] w fun e w' => e = .returned (.bool true) ∧ Below w.heap.size w w' := by
  obtain ⟨k, h⟩ := P a0_0 a0_1 a1 w0 w1 w2
  refine (bocagelaw02_CutShifts.calls k a0_0 a0_1 a1 true w h rfl).mono ?_
  rintro e w' ⟨rfl, hd⟩
  exact ⟨rfl, hd⟩
end Go.Proofs.Ytihhagfdfhojnaa.Print

import Derived.Test.YtpeidnkbliafkaaPrint15
namespace Go.Proofs.Ytpeidnkbliafkaa.Print
open Go.RowKit
set_option linter.unusedVariables false
def bocagelaw04_BoundReads.Pure : Prop := ∀ (a0 : ByteArray), a0.size ≤ 140737488351232 → ∃ k, bocagelaw04_BoundReads.f k a0 = some true
theorem bocagelaw04_BoundReads.walk (P : bocagelaw04_BoundReads.Pure) (a0 : ByteArray) (w : World) (w0 : a0.size ≤ 140737488351232) :
    Calls Try.prog 4 #[.string a0] w fun e w' => e = .returned (.bool true) ∧ Below w.heap.size w w' := by
  obtain ⟨k, h⟩ := P a0 w0
  refine (bocagelaw04_BoundReads.calls k a0 true w h rfl).mono ?_
  rintro e w' ⟨rfl, hd⟩
  exact ⟨rfl, hd⟩
end Go.Proofs.Ytpeidnkbliafkaa.Print

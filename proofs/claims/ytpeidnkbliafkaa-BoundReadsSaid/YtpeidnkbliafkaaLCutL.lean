import Derived.Test.YtpeidnkbliafkaaPrint5
import Derived.Test.YtpeidnkbliafkaaLCutC
namespace Go.Proofs.Ytpeidnkbliafkaa.Print
open Go.RowKit Go.Proofs.YtpeidnkbliafkaaW.PrintWords Go.Proofs.YtpeidnkbliafkaaW.PrintLast
set_option linter.unusedVariables false
set_option linter.unusedSimpArgs false
theorem bocageref02_Less.eq (s a t b : Int) (k : Nat) (hk : 1 ≤ k) : bocageref02_Less.f k s a t b = some (decide (cmp2 (canon s a) (canon t b) < 0)) := by
  unfold bocageref02_Less.f
  rw [bocageref02_Canon.eq _ _ k hk, Option.bind_some, bocageref02_Canon.eq _ _ k hk, Option.bind_some]
  rcases cmp2_cases (canon s a) (canon t b) with ⟨h, g⟩ | ⟨h, g⟩ | ⟨h, g⟩
  · rw [h]; split <;> congr 1 <;> simp <;> omega
  · rw [h]; split <;> congr 1 <;> simp <;> omega
  · rw [h, g, if_pos rfl]; simp

end Go.Proofs.Ytpeidnkbliafkaa.Print

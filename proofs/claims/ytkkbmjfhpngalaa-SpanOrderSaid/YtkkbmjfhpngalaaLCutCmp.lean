import Derived.Test.YtkkbmjfhpngalaaPrint13
import Derived.Test.YtkkbmjfhpngalaaLCutL
namespace Go.Proofs.Ytkkbmjfhpngalaa.Print
open Go.RowKit Go.Proofs.YtkkbmjfhpngalaaW.PrintWords Go.Proofs.YtkkbmjfhpngalaaW.PrintLast
set_option linter.unusedVariables false
set_option linter.unusedSimpArgs false
theorem bocageref02_Compare.eq (s a t b : Int) (k : Nat) (hk : 1 ≤ k) : bocageref02_Compare.f k s a t b = some (cmp2 (canon s a) (canon t b)) := by
  unfold bocageref02_Compare.f
  rw [bocageref02_Less.eq _ _ _ _ k hk, Option.bind_some, bocageref02_Less.eq _ _ _ _ k hk, Option.bind_some, cmp2_swap (canon t b)]
  rcases cmp2_cases (canon s a) (canon t b) with ⟨h, g⟩ | ⟨h, g⟩ | ⟨h, g⟩ <;> rw [h] <;> rfl

end Go.Proofs.Ytkkbmjfhpngalaa.Print

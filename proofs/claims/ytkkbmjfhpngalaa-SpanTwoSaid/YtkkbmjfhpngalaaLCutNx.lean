import Derived.Test.YtkkbmjfhpngalaaPrint5
import Derived.Test.YtkkbmjfhpngalaaLCutC
namespace Go.Proofs.Ytkkbmjfhpngalaa.Print
open Go.RowKit Go.Proofs.YtkkbmjfhpngalaaW.PrintWords Go.Proofs.YtkkbmjfhpngalaaW.PrintLast
set_option linter.unusedVariables false
set_option linter.unusedSimpArgs false
theorem bocageref02_Next.eq (s : Int) {a : Int} (ha : I64 a) (k : Nat) (hk : 1 ≤ k) : bocageref02_Next.f k s a = some (nextOf (canon s a)) := by
  unfold bocageref02_Next.f
  rw [bocageref02_Canon.eq _ _ k hk, Option.bind_some]
  rcases canon_CC (s := s) ha with h | h | ⟨x, h, h1, h2⟩ <;> rw [h] <;> rfl
theorem bocageref02_Ahead.eq (n : Int) (k : Nat) (hk : 1 ≤ k) : bocageref02_Ahead.f k n = some (canon 0 n) := by
  unfold bocageref02_Ahead.f
  rw [bocageref02_Canon.eq _ _ k hk, Option.bind_some]

end Go.Proofs.Ytkkbmjfhpngalaa.Print

import Derived.Test.YtpeidnkbliafkaaPrint11
import Derived.Test.YtpeidnkbliafkaaLBndLH
import Derived.Test.YtpeidnkbliafkaaLBndNx
namespace Go.Proofs.Ytpeidnkbliafkaa.Print
open Go.RowKit Go.Proofs.YtpeidnkbliafkaaW.PrintWords Go.Proofs.YtpeidnkbliafkaaW.PrintLast
set_option linter.unusedVariables false
set_option linter.unusedSimpArgs false
theorem bocageref04_Low.eq (s : Int) {a : Int} (ha : I64 a) (k : Nat) (hk : 1 ≤ k) : bocageref04_Low.f k s a = some (lowOf (canon s a)) := by
  unfold bocageref04_Low.f
  rw [bocageref02_Canon.eq s a k hk, Option.bind_some]
  rcases canon_CC (s := s) ha with h | h | ⟨x, h, h1, h2⟩ <;> rw [h] <;> rfl
theorem bocageref04_High.eq (s : Int) {a : Int} (ha : I64 a) (k : Nat) (hk : 1 ≤ k) : bocageref04_High.f k s a = some (highOf (canon s a)) := by
  unfold bocageref04_High.f
  rw [bocageref02_Next.eq s ha k hk, Option.bind_some]
  rcases canon_CC (s := s) ha with h | h | ⟨x, h, h1, h2⟩ <;> rw [h] <;> rfl

end Go.Proofs.Ytpeidnkbliafkaa.Print

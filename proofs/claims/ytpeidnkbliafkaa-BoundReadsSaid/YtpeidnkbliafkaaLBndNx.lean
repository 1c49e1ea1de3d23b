import Derived.Test.YtpeidnkbliafkaaPrint5
import Derived.Test.YtpeidnkbliafkaaLCutC
namespace Go.Proofs.Ytpeidnkbliafkaa.Print
open Go.RowKit Go.Proofs.YtpeidnkbliafkaaW.PrintWords Go.Proofs.YtpeidnkbliafkaaW.PrintLast
set_option linter.unusedVariables false
set_option linter.unusedSimpArgs false
theorem bocageref02_Next.eq (s : Int) {a : Int} (ha : I64 a) (k : Nat) (hk : 1 ≤ k) : bocageref02_Next.f k s a = some (nextOf (canon s a)) := by
  unfold bocageref02_Next.f
  rw [bocageref02_Canon.eq _ _ k hk, Option.bind_some]
  rcases canon_CC (s := s) ha with h | h | ⟨x, h, h1, h2⟩ <;> rw [h] <;> rfl
theorem bocageref02_Ahead.eq (n : Int) (k : Nat) (hk : 1 ≤ k) : bocageref02_Ahead.f k n = some (canon 0 n) := by
  unfold bocageref02_Ahead.f
  rw [bocageref02_Canon.eq _ _ k hk, Option.bind_some]
theorem bocageref02_Behind.eq {n : Int} (hn : I64 n) : bocageref02_Behind.f n = some (behindOf n) := by
  unfold bocageref02_Behind.f behindOf
  by_cases h : n = 9223372036854775807
  · rw [if_pos h, if_pos h]
  · rw [if_neg h, if_neg h, wrap64_of (by unfold I64 at hn ⊢; omega)]

end Go.Proofs.Ytpeidnkbliafkaa.Print

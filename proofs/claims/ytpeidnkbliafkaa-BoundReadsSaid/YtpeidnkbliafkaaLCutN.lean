import Derived.Test.YtpeidnkbliafkaaPrint1
import Derived.Test.YtpeidnkbliafkaaPrint4
import Derived.Test.YtpeidnkbliafkaaLCutA
namespace Go.Proofs.Ytpeidnkbliafkaa.Print
open Go.RowKit Go.Proofs.YtpeidnkbliafkaaW.PrintWords Go.Proofs.YtpeidnkbliafkaaW.PrintLast
set_option linter.unusedVariables false
set_option linter.unusedSimpArgs false
theorem cut_Next.eq (s : Int) {a : Int} (ha : I64 a) (k : Nat) (hk : 1 ≤ k) : cut_Next.f k s a = some (nextOf (canon s a)) := by
  unfold cut_Next.f
  rw [cut_Canon.eq _ _ k hk, Option.bind_some]
  rcases canon_CC (s := s) ha with h | h | ⟨x, h, h1, h2⟩ <;> rw [h] <;> rfl
theorem cut_Ahead.eq (n : Int) (k : Nat) (hk : 1 ≤ k) : cut_Ahead.f k n = some (canon 0 n) := by
  unfold cut_Ahead.f
  rw [cut_Canon.eq _ _ k hk, Option.bind_some]
theorem cut_Behind.eq {n : Int} (hn : I64 n) : cut_Behind.f n = some (behindOf n) := by
  unfold cut_Behind.f behindOf
  by_cases h : n = 9223372036854775807
  · rw [if_pos h, if_pos h]; rfl
  · rw [if_neg h, if_neg h, wrap64_of (by unfold I64 at hn ⊢; omega)]

end Go.Proofs.Ytpeidnkbliafkaa.Print

import Derived.Test.YtpeidnkbliafkaaPrint5
import Derived.Test.YtpeidnkbliafkaaLCutA
namespace Go.Proofs.Ytpeidnkbliafkaa.Print
open Go.RowKit Go.Proofs.YtpeidnkbliafkaaW.PrintWords Go.Proofs.YtpeidnkbliafkaaW.PrintLast
set_option linter.unusedVariables false
set_option linter.unusedSimpArgs false
theorem bocageref02_Canon.eq (s a : Int) (k : Nat) (hk : 1 ≤ k) : bocageref02_Canon.f k s a = some (canon s a) := by
  obtain ⟨k, rfl⟩ : ∃ j, k = j + 1 := ⟨k - 1, by omega⟩
  unfold bocageref02_Canon.f canon
  by_cases h1 : s < 0
  · rw [if_pos h1, if_pos (.inl h1)]; rfl
  · rw [if_neg h1]
    by_cases h2 : s = 0
    · subst h2
      rw [if_pos rfl, show bocageref02_Least64.f = some (-9223372036854775808) from rfl, Option.bind_some]
      by_cases h3 : a = -9223372036854775808
      · subst h3; rfl
      · rw [show (a == -9223372036854775808) = false from beq_eq_false_iff_ne.2 h3, if_neg (c := (0 : Int) < 0 ∨ _) (by omega)]; rfl
    · rw [if_neg h2, if_neg (c := s < 0 ∨ _) (by omega), if_pos (c := s > 0) (by omega), bocageref02_Canon.j0, if_neg Bool.false_ne_true, if_pos (c := s > 0) (by omega)]

end Go.Proofs.Ytpeidnkbliafkaa.Print

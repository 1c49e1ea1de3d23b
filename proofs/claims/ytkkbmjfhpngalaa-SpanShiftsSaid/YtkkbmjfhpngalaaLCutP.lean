import Derived.Test.YtkkbmjfhpngalaaPrint2
import Derived.Test.YtkkbmjfhpngalaaLCutA
namespace Go.Proofs.Ytkkbmjfhpngalaa.Print
open Go.RowKit Go.Proofs.YtkkbmjfhpngalaaW.PrintWords Go.Proofs.YtkkbmjfhpngalaaW.PrintLast
set_option linter.unusedVariables false
set_option linter.unusedSimpArgs false
theorem cut_Prev.eq (s : Int) {a : Int} (ha : I64 a) (k : Nat) (hk : 1 ≤ k) : cut_Prev.f k s a = some (prevOf (canon s a)) := by
  unfold cut_Prev.f
  rw [cut_Canon.eq _ _ k hk, Option.bind_some]
  rcases canon_CC (s := s) ha with h | h | ⟨x, h, h1, h2⟩ <;> rw [h]
  · rfl
  · rfl
  · show some (wrap64 (x - 1), true) = some (x - 1, true)
    rw [wrap64_of (by unfold I64; omega)]

end Go.Proofs.Ytkkbmjfhpngalaa.Print

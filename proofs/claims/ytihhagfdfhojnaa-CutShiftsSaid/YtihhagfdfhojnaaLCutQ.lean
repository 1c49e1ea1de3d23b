import Derived.Test.YtihhagfdfhojnaaPrint26
import Derived.Test.YtihhagfdfhojnaaLCutA
namespace Go.Proofs.Ytihhagfdfhojnaa.Print
open Go.RowKit Go.Proofs.YtihhagfdfhojnaaW.PrintWords Go.Proofs.YtihhagfdfhojnaaW.PrintLast
set_option linter.unusedVariables false
set_option linter.unusedSimpArgs false
theorem cut_Right.eq (s a : Int) (k : Nat) (hk : 1 ≤ k) : cut_Right.f k s a = some ((canon s a).1 == s && ((canon s a).2 == a)) := by
  unfold cut_Right.f
  rw [cut_Canon.eq _ _ k hk, Option.bind_some]
theorem CC.right {p : Int × Int} (h : CC p) (k : Nat) (hk : 1 ≤ k) : cut_Right.f k p.1 p.2 = some true := by
  rw [cut_Right.eq _ _ k hk, h.canon, pair_beq]

end Go.Proofs.Ytihhagfdfhojnaa.Print

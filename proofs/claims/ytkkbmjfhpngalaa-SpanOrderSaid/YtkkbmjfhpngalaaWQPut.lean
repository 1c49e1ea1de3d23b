-- Of the words that the kit's print laid for this seat, those that its texts reach (wip/print/prunew.py).
import Derived.Test.YtkkbmjfhpngalaaWWords
import Derived.Test.YtkkbmjfhpngalaaWLast
namespace Go.Proofs.YtkkbmjfhpngalaaW.PrintWords
open Go.RowKit
namespace Kd
section
variable {α : Type} {d : Kd α} {e base g o n cap : Nat} {ok okp : Nat → Prop} {w W : World} {v : Value} {xs : List α}
end
section
variable {α : Type} {enc : α → Value} {h1 : ∀ x, (enc x).oneCell' = true} {e base g o n cap : Nat} {ok : Nat → Prop} {W : World} {xs : List α}
end
end Kd
end Go.Proofs.YtkkbmjfhpngalaaW.PrintWords


-- Of the words that the kit's print laid for this seat, those that its texts reach (wip/print/prunew.py).
import Derived.Test.YtkkbmjfhpngalaaWN
namespace Go.Proofs.YtkkbmjfhpngalaaW.PrintWords
open Go.RowKit
namespace Kd
section
variable {α : Type} {d : Kd α} {e base n cap g : Nat} {ok ok' okp : Nat → Prop} {w w1 W : World} {v v1 : Value} {xs ys : List α}
end
section
variable {P : Program} {ops : Array Oper} {rest : List Oper} {o : Oper} {a : Act} {Q : Exit → Act → World → Prop} {Kc : Act → World → Prop} {α : Type}
end
end Kd
end Go.Proofs.YtkkbmjfhpngalaaW.PrintWords


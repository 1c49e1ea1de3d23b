-- Of the words that the kit's print laid for this seat, those that its texts reach (wip/print/prunew.py).
import Derived.Test.YtkkbmjfhpngalaaWApart
import Derived.Test.YtkkbmjfhpngalaaWArr
namespace Go.Proofs.YtkkbmjfhpngalaaW.PrintWords
open Go.RowKit
section
variable {P : Program}
end
namespace Kd
section
variable {P : Program} {ops : Array Oper} {rest : List Oper} {o : Oper} {a : Act} {Q : Exit → Act → World → Prop} {Kc : Act → World → Prop} {α : Type}
end
section
variable {α : Type} {d : Kd α} {e : Nat} {w : World} {base : Nat} {ok : Nat → Prop} {v : Value} {xs : List α}
end
section
variable {P : Program} {ops : Array Oper} {rest : List Oper} {o : Oper} {a : Act} {Q : Exit → Act → World → Prop} {Kc : Act → World → Prop} {α : Type}
end
end Kd
end Go.Proofs.YtkkbmjfhpngalaaW.PrintWords


-- Of the words that the kit's print laid for this seat, those that its texts reach (wip/print/prunew.py).
import Derived.Test.YtkkbmjfhpngalaaWInv
import Derived.Test.YtkkbmjfhpngalaaWFootNe
namespace Go.Proofs.YtkkbmjfhpngalaaW.PrintWords
open Go.RowKit
end Go.Proofs.YtkkbmjfhpngalaaW.PrintWords
namespace Go.Proofs.YtkkbmjfhpngalaaW.PrintLast
section
variable {ops : Array Oper} {a : Act} {o og : Oper} {g : Nat} {t : Tmp} {u : Bool}
end
end Go.Proofs.YtkkbmjfhpngalaaW.PrintLast


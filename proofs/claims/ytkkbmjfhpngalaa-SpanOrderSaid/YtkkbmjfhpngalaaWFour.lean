-- Of the words that the kit's print laid for this seat, those that its texts reach (wip/print/prunew.py).
import Derived.Test.YtkkbmjfhpngalaaWTab
namespace Go.Proofs.YtkkbmjfhpngalaaW.PrintLast
section
variable {P : Program} {ops : Array Oper} {Q : Exit → Act → World → Prop} {md : Region.Mode} {S : World → Prop} {ds : List Nat} {T : Bool × List (List Nat × List Nat)}
end
end Go.Proofs.YtkkbmjfhpngalaaW.PrintLast


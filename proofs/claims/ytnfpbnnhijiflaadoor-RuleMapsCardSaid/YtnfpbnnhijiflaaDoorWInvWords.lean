-- The print's words (laid by the kit's print.sh), without what this seat does not use (wip/prune.py).
import Derived.Test.YtnfpbnnhijiflaaDoorWInv
import Derived.Test.YtnfpbnnhijiflaaDoorWFootNe
namespace Go.Proofs.YtnfpbnnhijiflaaDoorW.PrintWords
open Go.RowKit
end Go.Proofs.YtnfpbnnhijiflaaDoorW.PrintWords
namespace Go.Proofs.YtnfpbnnhijiflaaDoorW.PrintLast
section
variable {ops : Array Oper} {a : Act} {o og : Oper} {g : Nat} {t : Tmp} {u : Bool}
end
end Go.Proofs.YtnfpbnnhijiflaaDoorW.PrintLast

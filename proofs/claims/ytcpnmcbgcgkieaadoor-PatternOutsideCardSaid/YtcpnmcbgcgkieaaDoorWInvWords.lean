-- The print's words (laid by the kit's print.sh), without what this seat does not use (wip/prune.py).
import Derived.Test.YtcpnmcbgcgkieaaDoorWInv
import Derived.Test.YtcpnmcbgcgkieaaDoorWFootNe
namespace Go.Proofs.YtcpnmcbgcgkieaaDoorW.PrintWords
open Go.RowKit
end Go.Proofs.YtcpnmcbgcgkieaaDoorW.PrintWords
namespace Go.Proofs.YtcpnmcbgcgkieaaDoorW.PrintLast
section
variable {ops : Array Oper} {a : Act} {o og : Oper} {g : Nat} {t : Tmp} {u : Bool}
end
end Go.Proofs.YtcpnmcbgcgkieaaDoorW.PrintLast

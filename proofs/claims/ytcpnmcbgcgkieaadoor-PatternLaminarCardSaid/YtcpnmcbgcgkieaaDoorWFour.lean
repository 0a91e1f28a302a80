-- The print's words (laid by the kit's print.sh), without what this seat does not use (wip/prune.py).
import Derived.Test.YtcpnmcbgcgkieaaDoorWTab
namespace Go.Proofs.YtcpnmcbgcgkieaaDoorW.PrintLast
section
variable {P : Program} {ops : Array Oper} {Q : Exit → Act → World → Prop} {md : Region.Mode} {S : World → Prop} {ds : List Nat} {T : Bool × List (List Nat × List Nat)}
end
end Go.Proofs.YtcpnmcbgcgkieaaDoorW.PrintLast

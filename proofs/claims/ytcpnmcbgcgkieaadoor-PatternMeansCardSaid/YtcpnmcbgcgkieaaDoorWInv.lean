-- The print's words (laid by the kit's print.sh), without what this seat does not use (wip/prune.py).
import Derived.Test.YtcpnmcbgcgkieaaDoorWTab
namespace Go.Proofs.YtcpnmcbgcgkieaaDoorW.PrintLast
section
variable {P : Program} {ops : Array Oper} {Q : Exit → Act → World → Prop} {md : Region.Mode} {T : Bool × List (List Nat × List Nat)} {B : List Nat} {O : List Nat} {b : Nat → Bool} {i j n : Nat}
end
end Go.Proofs.YtcpnmcbgcgkieaaDoorW.PrintLast

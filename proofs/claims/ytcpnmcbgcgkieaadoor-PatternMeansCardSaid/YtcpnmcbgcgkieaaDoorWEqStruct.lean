-- The print's words (laid by the kit's print.sh), without what this seat does not use (wip/prune.py).
import Derived.Test.YtcpnmcbgcgkieaaDoorWWords
import Derived.Laws.StructEq
namespace Go.Proofs.YtcpnmcbgcgkieaaDoorW.PrintWords
open Go.RowKit
section
variable {P : Program} {d : Nat} {xs ys : Array Value} {f : Field} {fs : List Field} {a b : Value} {r s : Bool} {w : World}
end
end Go.Proofs.YtcpnmcbgcgkieaaDoorW.PrintWords

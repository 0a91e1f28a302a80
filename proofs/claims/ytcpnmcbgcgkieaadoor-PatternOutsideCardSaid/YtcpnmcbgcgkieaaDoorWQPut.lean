-- The print's words (laid by the kit's print.sh), without what this seat does not use (wip/prune.py).
import Derived.Test.YtcpnmcbgcgkieaaDoorWWords
import Derived.Test.YtcpnmcbgcgkieaaDoorWLast
namespace Go.Proofs.YtcpnmcbgcgkieaaDoorW.PrintWords
open Go.RowKit
namespace Kd
section
variable {α : Type} {d : Kd α} {e base g o n cap : Nat} {ok okp : Nat → Prop} {w W : World} {v : Value} {xs : List α}
end
section
variable {α : Type} {enc : α → Value} {h1 : ∀ x, (enc x).oneCell' = true} {e base g o n cap : Nat} {ok : Nat → Prop} {W : World} {xs : List α}
end
end Kd
end Go.Proofs.YtcpnmcbgcgkieaaDoorW.PrintWords

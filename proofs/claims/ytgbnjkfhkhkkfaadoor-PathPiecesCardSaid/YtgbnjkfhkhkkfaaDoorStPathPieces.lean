-- Written by a program of this session (wip/rows.py).
import Derived.Test.YtgbnjkfhkhkkfaaDoorPx8
import Derived.Test.YtgbnjkfhkhkkfaaDoorOpens
namespace Go.Proofs.YtgbnjkfhkhkkfaaDoor.P
open Go.RowKit Go.Proofs.YtgbnjkfhkhkkfaaDoorW.PrintWords Go.Proofs.YtgbnjkfhkhkkfaaDoor.Args
/-- THE PURE STATEMENT of stockyard/stockyardlaw02.PathPieces. -/
def St.PathPieces : Prop := ∀ (x0 : ByteArray), WfS x0 → ∃ k, stockyardlaw02_PathPieces.f k x0 = some true
end Go.Proofs.YtgbnjkfhkhkkfaaDoor.P

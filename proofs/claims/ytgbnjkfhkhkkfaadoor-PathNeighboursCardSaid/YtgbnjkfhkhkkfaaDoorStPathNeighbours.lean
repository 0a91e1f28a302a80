-- Written by a program of this session (wip/rows.py).
import Derived.Test.YtgbnjkfhkhkkfaaDoorPx6
import Derived.Test.YtgbnjkfhkhkkfaaDoorOpens
namespace Go.Proofs.YtgbnjkfhkhkkfaaDoor.P
open Go.RowKit Go.Proofs.YtgbnjkfhkhkkfaaDoorW.PrintWords Go.Proofs.YtgbnjkfhkhkkfaaDoor.Args
/-- THE PURE STATEMENT of stockyard/stockyardlaw02.PathNeighbours. -/
def St.PathNeighbours : Prop := ∀ (x0 : ByteArray) (x1 : ByteArray) (x2 : ByteArray) (x3 : ByteArray), WfS x0 → WfS x1 → WfS x2 → WfS x3 → ∃ k, stockyardlaw02_PathNeighbours.f k x0 x1 x2 x3 = some true
end Go.Proofs.YtgbnjkfhkhkkfaaDoor.P

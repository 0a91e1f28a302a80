-- Written by a program of this session (wip/rows.py).
import Derived.Test.YtgbnjkfhkhkkfaaDoorPx3
import Derived.Test.YtgbnjkfhkhkkfaaDoorOpens
namespace Go.Proofs.YtgbnjkfhkhkkfaaDoor.P
open Go.RowKit Go.Proofs.YtgbnjkfhkhkkfaaDoorW.PrintWords Go.Proofs.YtgbnjkfhkhkkfaaDoor.Args
/-- THE PURE STATEMENT of stockyard/stockyardlaw02.PathOrders. -/
def St.PathOrders : Prop := ∀ (x0 : ByteArray) (x1 : ByteArray) (x2 : ByteArray), WfS x0 → WfS x1 → WfS x2 → ∃ k, stockyardlaw02_PathOrders.f k x0 x1 x2 = some true
end Go.Proofs.YtgbnjkfhkhkkfaaDoor.P

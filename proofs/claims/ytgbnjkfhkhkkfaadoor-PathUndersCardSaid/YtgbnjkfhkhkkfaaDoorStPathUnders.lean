-- Written by a program of this session (wip/rows.py).
import Derived.Test.YtgbnjkfhkhkkfaaDoorPx6
import Derived.Test.YtgbnjkfhkhkkfaaDoorOpens
namespace Go.Proofs.YtgbnjkfhkhkkfaaDoor.P
open Go.RowKit Go.Proofs.YtgbnjkfhkhkkfaaDoorW.PrintWords Go.Proofs.YtgbnjkfhkhkkfaaDoor.Args
/-- THE PURE STATEMENT of stockyard/stockyardlaw02.PathUnders. -/
def St.PathUnders : Prop := ∀ (x0 : ByteArray) (x1 : ByteArray), WfS x0 → WfS x1 → ∃ k, stockyardlaw02_PathUnders.f k x0 x1 = some true
end Go.Proofs.YtgbnjkfhkhkkfaaDoor.P

-- Written by a program of this session (wip/rows.py).
import Derived.Test.YtgbnjkfhkhkkfaaDoorPx7
import Derived.Test.YtgbnjkfhkhkkfaaDoorOpens
namespace Go.Proofs.YtgbnjkfhkhkkfaaDoor.P
open Go.RowKit Go.Proofs.YtgbnjkfhkhkkfaaDoorW.PrintWords Go.Proofs.YtgbnjkfhkhkkfaaDoor.Args
/-- THE PURE STATEMENT of stockyard/stockyardlaw02.PathJoins. -/
def St.PathJoins : Prop := ∀ (x0 : List ByteArray), (WfL 16 WfS) x0 → ∃ k, stockyardlaw02_PathJoins.f k x0 = some true
end Go.Proofs.YtgbnjkfhkhkkfaaDoor.P

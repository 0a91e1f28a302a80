-- Written by a program of this session (wip/rows.py).
import Derived.Test.YthclkdplihchjaaDoorPx27
import Derived.Test.YthclkdplihchjaaDoorOpens
namespace Go.Proofs.YthclkdplihchjaaDoor.P
open Go.RowKit Go.Proofs.YthclkdplihchjaaDoorW.PrintWords Go.Proofs.YthclkdplihchjaaDoor.Args
/-- THE PURE STATEMENT of stockyard/stockyardlaw04.RuleNarrowMeans. -/
def St.RuleNarrowMeans : Prop := ∀ (x0 : S39) (x1 : S24) (x2 : ByteArray), wf39 x0 → wf24 x1 → WfS x2 → ∃ k, stockyardlaw04_RuleNarrowMeans.f k x0.f0 x0.f1.f0 x0.f1.f1 x0.f2.f0 x0.f2.f1 x1.f0 x1.f1 x2 = some true
end Go.Proofs.YthclkdplihchjaaDoor.P

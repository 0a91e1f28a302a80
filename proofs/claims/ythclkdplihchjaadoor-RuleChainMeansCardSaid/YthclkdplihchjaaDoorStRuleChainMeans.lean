-- Written by a program of this session (wip/rows.py).
import Derived.Test.YthclkdplihchjaaDoorPx25
import Derived.Test.YthclkdplihchjaaDoorOpens
namespace Go.Proofs.YthclkdplihchjaaDoor.P
open Go.RowKit Go.Proofs.YthclkdplihchjaaDoorW.PrintWords Go.Proofs.YthclkdplihchjaaDoor.Args
/-- THE PURE STATEMENT of stockyard/stockyardlaw04.RuleChainMeans. -/
def St.RuleChainMeans : Prop := ∀ (x0 : S39) (x1 : S39) (x2 : ByteArray), wf39 x0 → wf39 x1 → WfS x2 → ∃ k, stockyardlaw04_RuleChainMeans.f k x0.f0 x0.f1.f0 x0.f1.f1 x0.f2.f0 x0.f2.f1 x1.f0 x1.f1.f0 x1.f1.f1 x1.f2.f0 x1.f2.f1 x2 = some true
end Go.Proofs.YthclkdplihchjaaDoor.P

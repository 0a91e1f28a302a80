-- Written by a program of this session (wip/rows.py).
import Derived.Test.YthclkdplihchjaaDoorPx24
import Derived.Test.YthclkdplihchjaaDoorOpens
namespace Go.Proofs.YthclkdplihchjaaDoor.P
open Go.RowKit Go.Proofs.YthclkdplihchjaaDoorW.PrintWords Go.Proofs.YthclkdplihchjaaDoor.Args
/-- THE PURE STATEMENT of stockyard/stockyardlaw04.RuleAssociates. -/
def St.RuleAssociates : Prop := ∀ (x0 : S39) (x1 : S39) (x2 : S39), wf39 x0 → wf39 x1 → wf39 x2 → ∃ k, stockyardlaw04_RuleAssociates.f k x0.f0 x0.f1.f0 x0.f1.f1 x0.f2.f0 x0.f2.f1 x1.f0 x1.f1.f0 x1.f1.f1 x1.f2.f0 x1.f2.f1 x2.f0 x2.f1.f0 x2.f1.f1 x2.f2.f0 x2.f2.f1 = some true
end Go.Proofs.YthclkdplihchjaaDoor.P

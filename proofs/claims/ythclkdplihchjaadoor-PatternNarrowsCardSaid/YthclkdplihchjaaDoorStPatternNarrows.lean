-- Written by a program of this session (wip/rows.py).
import Derived.Test.YthclkdplihchjaaDoorPx24
import Derived.Test.YthclkdplihchjaaDoorOpens
namespace Go.Proofs.YthclkdplihchjaaDoor.P
open Go.RowKit Go.Proofs.YthclkdplihchjaaDoorW.PrintWords Go.Proofs.YthclkdplihchjaaDoor.Args
/-- THE PURE STATEMENT of stockyard/stockyardlaw03.PatternNarrows. -/
def St.PatternNarrows : Prop := ∀ (x0 : S24) (x1 : S24) (x2 : List (S28)), wf24 x0 → wf24 x1 → (WfL 32 wf28) x2 → ∃ k, stockyardlaw03_PatternNarrows.f k x0.f0 x0.f1 x1.f0 x1.f1 x2 = some true
end Go.Proofs.YthclkdplihchjaaDoor.P

-- Written by a program of this session (wip/rows.py).
import Derived.Test.YthclkdplihchjaaDoorPx23
import Derived.Test.YthclkdplihchjaaDoorOpens
namespace Go.Proofs.YthclkdplihchjaaDoor.P
open Go.RowKit Go.Proofs.YthclkdplihchjaaDoorW.PrintWords Go.Proofs.YthclkdplihchjaaDoor.Args
/-- THE PURE STATEMENT of stockyard/stockyardlaw03.PatternSubstitutes. -/
def St.PatternSubstitutes : Prop := ∀ (x0 : S24) (x1 : List (S28)), wf24 x0 → (WfL 32 wf28) x1 → ∃ k, stockyardlaw03_PatternSubstitutes.f k x0.f0 x0.f1 x1 = some true
end Go.Proofs.YthclkdplihchjaaDoor.P

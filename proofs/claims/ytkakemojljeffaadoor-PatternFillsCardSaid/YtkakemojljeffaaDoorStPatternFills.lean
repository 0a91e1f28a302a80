-- Written by a program of this session (wip/rows.py).
import Derived.Test.YtkakemojljeffaaDoorPx21
import Derived.Test.YtkakemojljeffaaDoorOpens
namespace Go.Proofs.YtkakemojljeffaaDoor.P
open Go.RowKit Go.Proofs.YtkakemojljeffaaDoorW.PrintWords Go.Proofs.YtkakemojljeffaaDoor.Args
/-- THE PURE STATEMENT of stockyard/stockyardlaw03.PatternFills. -/
def St.PatternFills : Prop := ∀ (x0 : S25) (x1 : List ByteArray), wf25 x0 → (WfL 16 WfS) x1 → ∃ k, stockyardlaw03_PatternFills.f k x0.f0 x0.f1 x1 = some true
end Go.Proofs.YtkakemojljeffaaDoor.P

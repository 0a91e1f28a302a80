-- Written by a program of this session (wip/rows.py).
import Derived.Test.YtkakemojljeffaaDoorPx19
import Derived.Test.YtkakemojljeffaaDoorOpens
namespace Go.Proofs.YtkakemojljeffaaDoor.P
open Go.RowKit Go.Proofs.YtkakemojljeffaaDoorW.PrintWords Go.Proofs.YtkakemojljeffaaDoor.Args
/-- THE PURE STATEMENT of stockyard/stockyardlaw03.PatternCaptures. -/
def St.PatternCaptures : Prop := ∀ (x0 : S25) (x1 : ByteArray) (x2 : List ByteArray), wf25 x0 → WfS x1 → (WfL 16 WfS) x2 → ∃ k, stockyardlaw03_PatternCaptures.f k x0.f0 x0.f1 x1 x2 = some true
end Go.Proofs.YtkakemojljeffaaDoor.P

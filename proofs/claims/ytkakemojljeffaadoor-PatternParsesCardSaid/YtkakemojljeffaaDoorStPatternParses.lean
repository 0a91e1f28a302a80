-- Written by a program of this session (wip/rows.py).
import Derived.Test.YtkakemojljeffaaDoorPx8
import Derived.Test.YtkakemojljeffaaDoorOpens
namespace Go.Proofs.YtkakemojljeffaaDoor.P
open Go.RowKit Go.Proofs.YtkakemojljeffaaDoorW.PrintWords Go.Proofs.YtkakemojljeffaaDoor.Args
/-- THE PURE STATEMENT of stockyard/stockyardlaw03.PatternParses. -/
def St.PatternParses : Prop := ∀ (x0 : ByteArray), WfS x0 → ∃ k, stockyardlaw03_PatternParses.f k x0 = some true
end Go.Proofs.YtkakemojljeffaaDoor.P

-- Written by a program of this session (wip/rows.py).
import Derived.Test.YtkakemojljeffaaDoorPx14
import Derived.Test.YtkakemojljeffaaDoorOpens
namespace Go.Proofs.YtkakemojljeffaaDoor.P
open Go.RowKit Go.Proofs.YtkakemojljeffaaDoorW.PrintWords Go.Proofs.YtkakemojljeffaaDoor.Args
/-- THE PURE STATEMENT of stockyard/stockyardlaw03.PatternFormats. -/
def St.PatternFormats : Prop := ∀ (x0 : S25), wf25 x0 → ∃ k, stockyardlaw03_PatternFormats.f k x0.f0 x0.f1 = some true
end Go.Proofs.YtkakemojljeffaaDoor.P

-- Written by a program of this session (wip/rows.py).
import Derived.Test.YtkakemojljeffaaDoorPx17
import Derived.Test.YtkakemojljeffaaDoorOpens
namespace Go.Proofs.YtkakemojljeffaaDoor.P
open Go.RowKit Go.Proofs.YtkakemojljeffaaDoorW.PrintWords Go.Proofs.YtkakemojljeffaaDoor.Args
/-- THE PURE STATEMENT of stockyard/stockyardlaw03.PatternLooks. -/
def St.PatternLooks : Prop := ∀ (x0 : S25), wf25 x0 → ∃ k, stockyardlaw03_PatternLooks.f k x0.f0 x0.f1 = some true
end Go.Proofs.YtkakemojljeffaaDoor.P

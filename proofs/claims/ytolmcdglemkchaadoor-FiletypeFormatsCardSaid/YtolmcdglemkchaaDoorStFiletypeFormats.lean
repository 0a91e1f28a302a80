-- Written by a program of this session (wip/rows.py).
import Derived.Test.YtolmcdglemkchaaDoorPx3
import Derived.Test.YtolmcdglemkchaaDoorOpens
namespace Go.Proofs.YtolmcdglemkchaaDoor.P
open Go.RowKit Go.Proofs.YtolmcdglemkchaaDoorW.PrintWords Go.Proofs.YtolmcdglemkchaaDoor.Args
/-- THE PURE STATEMENT of stockyard/stockyardlaw09.FiletypeFormats. -/
def St.FiletypeFormats : Prop := ∀ (x0 : S23), wf23 x0 → ∃ k, stockyardlaw09_FiletypeFormats.f k x0.f0 x0.f1 x0.f2 x0.f3 = some true
end Go.Proofs.YtolmcdglemkchaaDoor.P

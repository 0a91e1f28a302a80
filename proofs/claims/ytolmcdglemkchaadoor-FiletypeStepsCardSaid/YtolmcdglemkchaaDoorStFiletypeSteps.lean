-- Written by a program of this session (wip/rows.py).
import Derived.Test.YtolmcdglemkchaaDoorPx4
import Derived.Test.YtolmcdglemkchaaDoorOpens
namespace Go.Proofs.YtolmcdglemkchaaDoor.P
open Go.RowKit Go.Proofs.YtolmcdglemkchaaDoorW.PrintWords Go.Proofs.YtolmcdglemkchaaDoor.Args
/-- THE PURE STATEMENT of stockyard/stockyardlaw09.FiletypeSteps. -/
def St.FiletypeSteps : Prop := ∀ (x0 : ByteArray) (x1 : ByteArray) (x2 : ByteArray), WfS x0 → WfS x1 → WfS x2 → ∃ k, stockyardlaw09_FiletypeSteps.f k x0 x1 x2 = some true
end Go.Proofs.YtolmcdglemkchaaDoor.P

-- Written by a program of this session (wip/rows.py).
import Derived.Test.YtolmcdglemkchaaDoorPx3
import Derived.Test.YtolmcdglemkchaaDoorOpens
namespace Go.Proofs.YtolmcdglemkchaaDoor.P
open Go.RowKit Go.Proofs.YtolmcdglemkchaaDoorW.PrintWords Go.Proofs.YtolmcdglemkchaaDoor.Args
/-- THE PURE STATEMENT of stockyard/stockyardlaw09.FiletypeAll. -/
def St.FiletypeAll : Prop := ∃ k, stockyardlaw09_FiletypeAll.f k  = some true
end Go.Proofs.YtolmcdglemkchaaDoor.P

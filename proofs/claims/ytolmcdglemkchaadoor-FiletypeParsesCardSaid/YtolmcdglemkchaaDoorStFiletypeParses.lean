-- Written by a program of this session (wip/rows.py).
import Derived.Test.YtolmcdglemkchaaDoorPx3
import Derived.Test.YtolmcdglemkchaaDoorOpens
namespace Go.Proofs.YtolmcdglemkchaaDoor.P
open Go.RowKit Go.Proofs.YtolmcdglemkchaaDoorW.PrintWords Go.Proofs.YtolmcdglemkchaaDoor.Args
/-- THE PURE STATEMENT of stockyard/stockyardlaw09.FiletypeParses. -/
def St.FiletypeParses : Prop := ∀ (x0 : ByteArray), WfS x0 → ∃ k, stockyardlaw09_FiletypeParses.f k x0 = some true
end Go.Proofs.YtolmcdglemkchaaDoor.P

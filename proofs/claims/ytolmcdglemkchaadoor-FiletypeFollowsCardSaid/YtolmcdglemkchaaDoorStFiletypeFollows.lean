-- Written by a program of this session (wip/rows.py).
import Derived.Test.YtolmcdglemkchaaDoorPx4
import Derived.Test.YtolmcdglemkchaaDoorOpens
namespace Go.Proofs.YtolmcdglemkchaaDoor.P
open Go.RowKit Go.Proofs.YtolmcdglemkchaaDoorW.PrintWords Go.Proofs.YtolmcdglemkchaaDoor.Args
/-- THE PURE STATEMENT of stockyard/stockyardlaw09.FiletypeFollows. -/
def St.FiletypeFollows : Prop := ∀ (x0 : ByteArray) (x1 : ByteArray), WfS x0 → WfS x1 → ∃ k, stockyardlaw09_FiletypeFollows.f k x0 x1 = some true
end Go.Proofs.YtolmcdglemkchaaDoor.P

-- Written by a program of this session (wip/rows.py).
import Derived.Test.YtnfpbnnhijiflaaDoorPx16
import Derived.Test.YtnfpbnnhijiflaaDoorOpens
namespace Go.Proofs.YtnfpbnnhijiflaaDoor.P
open Go.RowKit Go.Proofs.YtnfpbnnhijiflaaDoorW.PrintWords Go.Proofs.YtnfpbnnhijiflaaDoor.Args
/-- THE PURE STATEMENT of stockyard/stockyardlaw04.RuleMaps. -/
def St.RuleMaps : Prop := ∀ (x0 : S26) (x1 : ByteArray), wf26 x0 → WfS x1 → ∃ k, stockyardlaw04_RuleMaps.f k x0.f0 x0.f1.f0 x0.f1.f1 x0.f2.f0 x0.f2.f1 x1 = some true
end Go.Proofs.YtnfpbnnhijiflaaDoor.P

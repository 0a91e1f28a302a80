-- Written by a program of this session (wip/rows.py).
import Derived.Test.YtcpnmcbgcgkieaaDoorPx13
import Derived.Test.YtcpnmcbgcgkieaaDoorOpens
namespace Go.Proofs.YtcpnmcbgcgkieaaDoor.P
open Go.RowKit Go.Proofs.YtcpnmcbgcgkieaaDoorW.PrintWords Go.Proofs.YtcpnmcbgcgkieaaDoor.Args
/-- THE PURE STATEMENT of stockyard/stockyardlaw03.PatternMeets. -/
def St.PatternMeets : Prop := ∀ (x0 : S24) (x1 : S24), wf24 x0 → wf24 x1 → ∃ k, stockyardlaw03_PatternMeets.f k x0.f0 x0.f1 x1.f0 x1.f1 = some true
end Go.Proofs.YtcpnmcbgcgkieaaDoor.P

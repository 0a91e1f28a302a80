-- Written by a program of this session (wip/rows.py).
import Derived.Test.YtcpnmcbgcgkieaaDoorPx21
import Derived.Test.YtcpnmcbgcgkieaaDoorOpens
namespace Go.Proofs.YtcpnmcbgcgkieaaDoor.P
open Go.RowKit Go.Proofs.YtcpnmcbgcgkieaaDoorW.PrintWords Go.Proofs.YtcpnmcbgcgkieaaDoor.Args
/-- THE PURE STATEMENT of stockyard/stockyardlaw03.PatternLaminar. -/
def St.PatternLaminar : Prop := ∀ (x0 : ByteArray) (x1 : ByteArray), WfS x0 → WfS x1 → ∃ k, stockyardlaw03_PatternLaminar.f k x0 x1 = some true
end Go.Proofs.YtcpnmcbgcgkieaaDoor.P

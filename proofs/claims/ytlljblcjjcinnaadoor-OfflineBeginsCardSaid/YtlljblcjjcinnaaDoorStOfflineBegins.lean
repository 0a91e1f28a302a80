-- Written by a program of this session (wip/rows.py).
import Derived.Test.YtlljblcjjcinnaaDoorPx9
import Derived.Test.YtlljblcjjcinnaaDoorOpens
namespace Go.Proofs.YtlljblcjjcinnaaDoor.P
open Go.RowKit Go.Proofs.YtlljblcjjcinnaaDoorW.PrintWords Go.Proofs.YtlljblcjjcinnaaDoor.Args
/-- THE PURE STATEMENT of stockyard/stockyardlaw20.OfflineBegins. -/
def St.OfflineBegins : Prop := ∀ (x0 : S23) (x1 : Int), wf23 x0 → (WfI .i64) x1 → ∃ k, stockyardlaw20_OfflineBegins.f k x0.f0 x0.f1 x0.f2 x0.f3 x0.f4 x1 = some true
end Go.Proofs.YtlljblcjjcinnaaDoor.P

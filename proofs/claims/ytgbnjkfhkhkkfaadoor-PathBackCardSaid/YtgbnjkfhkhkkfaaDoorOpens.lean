-- Written by a program of this session (wip/rows.py).
import Derived.Test.YtgbnjkfhkhkkfaaDoorPx0
import Derived.Test.YtgbnjkfhkhkkfaaDoorArgs
import Derived.KernelRfl
namespace Go.Proofs.YtgbnjkfhkhkkfaaDoor.P
open Go.RowKit Go.Proofs.YtgbnjkfhkhkkfaaDoorW.PrintWords Go.Proofs.YtgbnjkfhkhkkfaaDoor.Args
set_option linter.unusedVariables false
theorem o9 : Opens Tryd.prog 9 Kd.string WfS := Opens.string Tryd.underlying9 (by kernel_rfl)
theorem o28 : Opens Tryd.prog 28 (Kd.slice 9 Kd.string) (WfL 16 WfS) := Opens.slice Tryd.underlying28 (by kernel_rfl) (by kernel_rfl) o9
end Go.Proofs.YtgbnjkfhkhkkfaaDoor.P

-- Written by a program of this session (wip/rows.py).
import Derived.Test.YtcpnmcbgcgkieaaDoorPx0
import Derived.Test.YtcpnmcbgcgkieaaDoorArgs
import Derived.KernelRfl
namespace Go.Proofs.YtcpnmcbgcgkieaaDoor.P
open Go.RowKit Go.Proofs.YtcpnmcbgcgkieaaDoorW.PrintWords Go.Proofs.YtcpnmcbgcgkieaaDoor.Args
set_option linter.unusedVariables false
theorem o9 : Opens Tryd.prog 9 Kd.string WfS := Opens.string Tryd.underlying9 (by kernel_rfl)
theorem o22 : Opens Tryd.prog 22 (Kd.slice 9 Kd.string) (WfL 16 WfS) := Opens.slice Tryd.underlying22 (by kernel_rfl) (by kernel_rfl) o9
theorem o4 : Opens Tryd.prog 4 Kd.bool WfB := Opens.bool Tryd.underlying4 (by kernel_rfl)
def wf24 (x : S24) : Prop := (WfL 16 WfS) x.f0 ∧ WfB x.f1
theorem o24 : Opens Tryd.prog 24 k24 wf24 := Opens.struct Tryd.underlying24 (by kernel_rfl) (OpensL.cons rfl o22 (OpensL.one rfl o4)) (fun a => ⟨a.1, a.2⟩) (fun _ => rfl)
end Go.Proofs.YtcpnmcbgcgkieaaDoor.P

-- Written by a program of this session (wip/rows.py).
import Derived.Test.YtolmcdglemkchaaDoorPx0
import Derived.Test.YtolmcdglemkchaaDoorArgs
import Derived.KernelRfl
namespace Go.Proofs.YtolmcdglemkchaaDoor.P
open Go.RowKit Go.Proofs.YtolmcdglemkchaaDoorW.PrintWords Go.Proofs.YtolmcdglemkchaaDoor.Args
set_option linter.unusedVariables false
theorem o3 : Opens Tryd.prog 3 (Kd.int .i64) (WfI .i64) := Opens.int Tryd.underlying3 (by kernel_rfl)
theorem o4 : Opens Tryd.prog 4 Kd.bool WfB := Opens.bool Tryd.underlying4 (by kernel_rfl)
def wf23 (x : S23) : Prop := (WfI .i64) x.f0 ∧ WfB x.f1 ∧ WfB x.f2 ∧ WfB x.f3
theorem o23 : Opens Tryd.prog 23 k23 wf23 := Opens.struct Tryd.underlying23 (by kernel_rfl) (OpensL.cons rfl o3 (OpensL.cons rfl o4 (OpensL.cons rfl o4 (OpensL.one rfl o4)))) (fun a => ⟨a.1, a.2.1, a.2.2.1, a.2.2.2⟩) (fun _ => rfl)
theorem o9 : Opens Tryd.prog 9 Kd.string WfS := Opens.string Tryd.underlying9 (by kernel_rfl)
end Go.Proofs.YtolmcdglemkchaaDoor.P

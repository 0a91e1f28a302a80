-- Written by a program of this session (wip/rows.py).
import Derived.Test.YtlljblcjjcinnaaDoorPx0
import Derived.Test.YtlljblcjjcinnaaDoorArgs
import Derived.KernelRfl
namespace Go.Proofs.YtlljblcjjcinnaaDoor.P
open Go.RowKit Go.Proofs.YtlljblcjjcinnaaDoorW.PrintWords Go.Proofs.YtlljblcjjcinnaaDoor.Args
set_option linter.unusedVariables false
theorem o9 : Opens Tryd.prog 9 Kd.string WfS := Opens.string Tryd.underlying9 (by kernel_rfl)
theorem o3 : Opens Tryd.prog 3 (Kd.int .i64) (WfI .i64) := Opens.int Tryd.underlying3 (by kernel_rfl)
def wf23 (x : S23) : Prop := WfS x.f0 ∧ (WfI .i64) x.f1 ∧ (WfI .i64) x.f2 ∧ (WfI .i64) x.f3 ∧ (WfI .i64) x.f4
theorem o23 : Opens Tryd.prog 23 k23 wf23 := Opens.struct Tryd.underlying23 (by kernel_rfl) (OpensL.cons rfl o9 (OpensL.cons rfl o3 (OpensL.cons rfl o3 (OpensL.cons rfl o3 (OpensL.one rfl o3))))) (fun a => ⟨a.1, a.2.1, a.2.2.1, a.2.2.2.1, a.2.2.2.2⟩) (fun _ => rfl)
end Go.Proofs.YtlljblcjjcinnaaDoor.P

-- Written by a program of this session (wip/rows.py).
import Derived.Test.YtkakemojljeffaaDoorPx0
import Derived.Test.YtkakemojljeffaaDoorArgs
import Derived.KernelRfl
namespace Go.Proofs.YtkakemojljeffaaDoor.P
open Go.RowKit Go.Proofs.YtkakemojljeffaaDoorW.PrintWords Go.Proofs.YtkakemojljeffaaDoor.Args
set_option linter.unusedVariables false
theorem o9 : Opens Tryd.prog 9 Kd.string WfS := Opens.string Tryd.underlying9 (by kernel_rfl)
theorem o23 : Opens Tryd.prog 23 (Kd.slice 9 Kd.string) (WfL 16 WfS) := Opens.slice Tryd.underlying23 (by kernel_rfl) (by kernel_rfl) o9
theorem o4 : Opens Tryd.prog 4 Kd.bool WfB := Opens.bool Tryd.underlying4 (by kernel_rfl)
def wf25 (x : S25) : Prop := (WfL 16 WfS) x.f0 ∧ WfB x.f1
theorem o25 : Opens Tryd.prog 25 k25 wf25 := Opens.struct Tryd.underlying25 (by kernel_rfl) (OpensL.cons rfl o23 (OpensL.one rfl o4)) (fun a => ⟨a.1, a.2⟩) (fun _ => rfl)
end Go.Proofs.YtkakemojljeffaaDoor.P

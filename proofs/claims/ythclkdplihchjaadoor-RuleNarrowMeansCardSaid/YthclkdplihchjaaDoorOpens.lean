-- Written by a program of this session (wip/rows.py).
import Derived.Test.YthclkdplihchjaaDoorPx0
import Derived.Test.YthclkdplihchjaaDoorArgs
import Derived.KernelRfl
namespace Go.Proofs.YthclkdplihchjaaDoor.P
open Go.RowKit Go.Proofs.YthclkdplihchjaaDoorW.PrintWords Go.Proofs.YthclkdplihchjaaDoor.Args
set_option linter.unusedVariables false
theorem o9 : Opens Tryd.prog 9 Kd.string WfS := Opens.string Tryd.underlying9 (by kernel_rfl)
theorem o22 : Opens Tryd.prog 22 (Kd.slice 9 Kd.string) (WfL 16 WfS) := Opens.slice Tryd.underlying22 (by kernel_rfl) (by kernel_rfl) o9
theorem o4 : Opens Tryd.prog 4 Kd.bool WfB := Opens.bool Tryd.underlying4 (by kernel_rfl)
def wf24 (x : S24) : Prop := (WfL 16 WfS) x.f0 ∧ WfB x.f1
theorem o24 : Opens Tryd.prog 24 k24 wf24 := Opens.struct Tryd.underlying24 (by kernel_rfl) (OpensL.cons rfl o22 (OpensL.one rfl o4)) (fun a => ⟨a.1, a.2⟩) (fun _ => rfl)
def wf28 (x : S28) : Prop := (WfL 16 WfS) x.f0 ∧ WfB x.f1
theorem o28 : Opens Tryd.prog 28 k28 wf28 := Opens.struct Tryd.underlying28 (by kernel_rfl) (OpensL.cons rfl o22 (OpensL.one rfl o4)) (fun a => ⟨a.1, a.2⟩) (fun _ => rfl)
theorem o25 : Opens Tryd.prog 25 (Kd.slice 28 k28) (WfL 32 wf28) := Opens.slice Tryd.underlying25 (by kernel_rfl) (by kernel_rfl) o28
def wf39 (x : S39) : Prop := WfB x.f0 ∧ wf24 x.f1 ∧ wf24 x.f2
theorem o39 : Opens Tryd.prog 39 k39 wf39 := Opens.struct Tryd.underlying39 (by kernel_rfl) (OpensL.cons rfl o4 (OpensL.cons rfl o24 (OpensL.one rfl o24))) (fun a => ⟨a.1, a.2.1, a.2.2⟩) (fun _ => rfl)
end Go.Proofs.YthclkdplihchjaaDoor.P

/-
  Layer 3: bindings that come in, as plain lists. No project text.
-/
import Derived.Test.YthclkdplihchjaaDoorBndD
import Derived.Test.YthclkdplihchjaaDoorOpens
namespace Go.Proofs.YthclkdplihchjaaDoor.P
open Go.RowKit Go.Proofs.YthclkdplihchjaaDoorW.PrintWords Go.Proofs.YthclkdplihchjaaDoor.Args
set_option linter.unusedVariables false
set_option linter.unusedSimpArgs false

theorem arg_bnd {xs : List S28} (hxs : WfL 32 wf28 xs) : ∃ l : List (List Bs × Bool), xs = Bnd l ∧ ∀ x ∈ l, x.1.length ≤ 1125899906842624 ∧ ∀ y ∈ x.1, y.length ≤ 140737488351232 := by
  refine ⟨xs.map fun x => (x.f0.map L, x.f1), ?_, ?_⟩
  · unfold Bnd
    rw [List.map_map]
    have : ((fun x : List Bs × Bool => mkB x.1 x.2) ∘ fun x : S28 => (x.f0.map L, x.f1)) = id := by
      funext x
      simp [mkB, Ss_map_L]
    rw [this, List.map_id]
  · intro x hx
    obtain ⟨y, hy, rfl⟩ := List.mem_map.1 hx
    have hw := hxs.2 y hy
    obtain ⟨q, e1, e2, e3⟩ := arg_parts hw.1
    have e4 : y.f0.map L = q := by
      rw [e1]
      simp [Ss, Function.comp_def]
    simp only [e4]
    exact ⟨e2, e3⟩
end Go.Proofs.YthclkdplihchjaaDoor.P

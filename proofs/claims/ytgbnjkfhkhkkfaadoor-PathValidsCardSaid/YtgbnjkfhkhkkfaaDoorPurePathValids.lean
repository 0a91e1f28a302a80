/-
  The pure statement of PathValids: Valid and Component answer as the reference does.
-/
import Derived.Test.YtgbnjkfhkhkkfaaDoorStPathValids
import Derived.Test.YtgbnjkfhkhkkfaaDoorPath2
namespace Go.Proofs.YtgbnjkfhkhkkfaaDoor.P
open Go.RowKit Go.Proofs.YtgbnjkfhkhkkfaaDoorW.PrintWords Go.Proofs.YtgbnjkfhkhkkfaaDoor.Args
set_option linter.unusedVariables false
set_option linter.unusedSimpArgs false

theorem Pure.PathValids : St.PathValids := by
  intro s hs
  refine Ev.rounds ?_
  simp only [stockyardlaw02_PathValids.f, long_eq, Option.bind_some]
  by_cases hl : (s.size : Int) > 400
  · simp only [hl, decide_true, if_true]
    rw [Ev.bind_some]
    exact awake02
  · have h1 : s.size ≤ 1048576 := by omega
    simp only [hl, decide_false, Bool.false_eq_true, if_false]
    rw [Ev.bind_iff (refpath_ev s h1), Ev.bind_iff (valid_ev s h1)]
    have e : ((pathL (L s)).isSome == (dirR (pathL (L s))).2) = true := by cases pathL (L s) <;> rfl
    simp only [e, if_true]
    rw [Ev.bind_iff (comp_ev s (by omega)), Ev.bind_iff (refcomp_ev s (by omega))]
    simp only [beq_self_eq_true, if_true]
    rw [Ev.bind_some]
    exact awake02
end Go.Proofs.YtgbnjkfhkhkkfaaDoor.P

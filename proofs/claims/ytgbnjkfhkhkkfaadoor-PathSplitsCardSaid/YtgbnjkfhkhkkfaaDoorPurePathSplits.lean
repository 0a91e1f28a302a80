/-
  The pure statement of PathSplits: Split gives the reference's components, or the error.
-/
import Derived.Test.YtgbnjkfhkhkkfaaDoorStPathSplits
import Derived.Test.YtgbnjkfhkhkkfaaDoorPath2
namespace Go.Proofs.YtgbnjkfhkhkkfaaDoor.P
open Go.RowKit Go.Proofs.YtgbnjkfhkhkkfaaDoorW.PrintWords Go.Proofs.YtgbnjkfhkhkkfaaDoor.Args
set_option linter.unusedVariables false
set_option linter.unusedSimpArgs false

theorem Pure.PathSplits : St.PathSplits := by
  intro s hs
  refine Ev.rounds ?_
  simp only [stockyardlaw02_PathSplits.f, long_eq, Option.bind_some]
  by_cases hl : (s.size : Int) > 400
  · simp only [hl, decide_true, if_true]
    rw [Ev.bind_some]
    exact awake02
  · have h1 : s.size ≤ 1048576 := by omega
    have hsz := size_eq s
    simp only [hl, decide_false, Bool.false_eq_true, if_false]
    rw [Ev.bind_iff (split_path_ev s h1), Ev.bind_iff (refpath_ev s h1)]
    cases hp : pathL (L s) with
    | none =>
      simp only [pathR, dirR, Bool.false_eq_true, if_false, List.length_nil, if_true, Int.natCast_zero, Int.cast_ofNat_Int]
      rw [Ev.bind_some]
      exact awake02
    | some p =>
      have l1 := pathL_length hp
      simp only [pathR, dirR, if_true]
      rw [Ev.bind_iff (same_ev _ _ (by rw [Ss_length]; omega) (by rw [Ss_length]; omega))]
      simp only [decide_true, if_true]
      rw [Ev.bind_some]
      exact awake02
end Go.Proofs.YtgbnjkfhkhkkfaaDoor.P

/-
  The pure statement of PathUnders: Under answers as the reference does.
-/
import Derived.Test.YtgbnjkfhkhkkfaaDoorStPathUnders
import Derived.Test.YtgbnjkfhkhkkfaaDoorPath2
namespace Go.Proofs.YtgbnjkfhkhkkfaaDoor.P
open Go.RowKit Go.Proofs.YtgbnjkfhkhkkfaaDoorW.PrintWords Go.Proofs.YtgbnjkfhkhkkfaaDoor.Args
set_option linter.unusedVariables false
set_option linter.unusedSimpArgs false

theorem Pure.PathUnders : St.PathUnders := by
  intro a b ha hb
  refine Ev.rounds ?_
  have none_ : Ev (fun k => (stockyardlaw02_awake.f k).bind fun t => some t) true := by rw [Ev.bind_some]; exact awake02
  have long : Ev (fun k => stockyardlaw02_PathUnders.j0 k a b true) true := by
    refine Ev.succ ?_
    simp only [stockyardlaw02_PathUnders.j0, if_true]
    exact none_
  simp only [stockyardlaw02_PathUnders.f, long_eq, Option.bind_some]
  by_cases hl : (a.size : Int) > 400
  · simp only [hl, decide_true, if_true]
    exact long
  · simp only [hl, decide_false, Bool.false_eq_true, if_false]
    by_cases hl2 : (b.size : Int) > 400
    · simp only [hl2, decide_true]
      exact long
    · simp only [hl2, decide_false]
      have h1 : a.size ≤ 1048576 := by omega
      have h2 : b.size ≤ 1048576 := by omega
      have s1 := size_eq a
      have s2 := size_eq b
      refine Ev.succ ?_
      simp only [stockyardlaw02_PathUnders.j0, Bool.false_eq_true, if_false]
      rw [Ev.bind_iff (path_under_ev a b h1 h2), Ev.bind_iff (refparts_ev a h1), Ev.bind_iff (refpath_ev b h2)]
      cases hp : dirL (L a) with
      | none =>
        simp only [dirR, underR, Bool.false_eq_true, if_false]
        refine Ev.succ ?_
        simp only [stockyardlaw02_PathUnders.j1, if_true, Bool.false_eq_true, if_false]
        exact none_
      | some p =>
        cases hq : pathL (L b) with
        | none =>
          simp only [dirR, underR, Bool.not_false, if_true]
          refine Ev.succ ?_
          simp only [stockyardlaw02_PathUnders.j1, if_true, Bool.false_eq_true, if_false]
          exact none_
        | some q =>
          have l1 := dirL_length hp
          have l2 := pathL_length hq
          simp only [dirR, underR, Bool.not_true, if_true]
          refine Ev.succ ?_
          simp only [stockyardlaw02_PathUnders.j1, Bool.false_eq_true, if_false, if_true]
          rw [Ev.bind_iff (refunder_ev p q (by omega) (by omega))]
          simp only [beq_self_eq_true, if_true]
          exact none_
end Go.Proofs.YtgbnjkfhkhkkfaaDoor.P

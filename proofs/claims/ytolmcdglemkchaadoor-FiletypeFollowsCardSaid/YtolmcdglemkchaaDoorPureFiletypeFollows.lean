/-
  The pure statement of FiletypeFollows.
-/
import Derived.Test.YtolmcdglemkchaaDoorStFiletypeFollows
import Derived.Test.YtolmcdglemkchaaDoorFol
namespace Go.Proofs.YtolmcdglemkchaaDoor.P
open Go.RowKit Go.Proofs.YtolmcdglemkchaaDoorW.PrintWords Go.Proofs.YtolmcdglemkchaaDoor.Args
set_option linter.unusedVariables false
set_option linter.unusedSimpArgs false

theorem Pure.FiletypeFollows : St.FiletypeFollows := by
  intro s t hs ht
  refine Ev.rounds ?_
  have none_ : Ev (fun k => (stockyardlaw09_awake.f k).bind fun t => some t) true := by rw [Ev.bind_some]; exact awake09
  have long : Ev (fun k => stockyardlaw09_FiletypeFollows.j0 k s t true) true := by
    refine Ev.succ ?_
    simp only [stockyardlaw09_FiletypeFollows.j0, if_true]
    exact none_
  simp only [stockyardlaw09_FiletypeFollows.f]
  by_cases h1 : (s.size : Int) > 300
  · simp only [if_pos h1]
    exact long
  · simp only [if_neg h1]
    by_cases h2 : (t.size : Int) > 300
    · simp only [h2, decide_true]
      exact long
    · simp only [h2, decide_false]
      refine Ev.succ ?_
      simp only [stockyardlaw09_FiletypeFollows.j0, Bool.false_eq_true, if_false]
      rw [Ev.bind_iff (follow_ev s t (by omega) (by omega)), Ev.bind_iff (reffollow_ev s t (by omega) (by omega))]
      simp only [if_true]
      exact none_
end Go.Proofs.YtolmcdglemkchaaDoor.P

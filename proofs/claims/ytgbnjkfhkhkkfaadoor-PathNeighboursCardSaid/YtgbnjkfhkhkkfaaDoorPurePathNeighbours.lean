/-
  The pure statement of PathNeighbours: the paths under one directory are neighbours.
-/
import Derived.Test.YtgbnjkfhkhkkfaaDoorStPathNeighbours
import Derived.Test.YtgbnjkfhkhkkfaaDoorPath2
namespace Go.Proofs.YtgbnjkfhkhkkfaaDoor.P
open Go.RowKit Go.Proofs.YtgbnjkfhkhkkfaaDoorW.PrintWords Go.Proofs.YtgbnjkfhkhkkfaaDoor.Args
set_option linter.unusedVariables false
set_option linter.unusedSimpArgs false

theorem under_iff (d p : List Bs) : underL d p = true ↔ d <+: p ∧ d.length < p.length := by
  unfold underL
  rw [decide_eq_true_iff, List.prefix_iff_eq_take]
  exact ⟨fun h => ⟨h.2.symm, h.1⟩, fun h => ⟨h.2, h.1.symm⟩⟩
theorem Pure.PathNeighbours : St.PathNeighbours := by
  intro d a b c hd ha hb hc
  refine Ev.rounds ?_
  have none_ : Ev (fun k => (stockyardlaw02_awake.f k).bind fun t => some t) true := by rw [Ev.bind_some]; exact awake02
  have long : Ev (fun k => stockyardlaw02_PathNeighbours.j0 k d a b c true) true := by
    refine Ev.succ ?_
    simp only [stockyardlaw02_PathNeighbours.j0, if_true]
    exact none_
  have out : ∀ x y, Ev (fun k => stockyardlaw02_PathNeighbours.j1 k x y true) true := by
    intro x y
    refine Ev.succ ?_
    simp only [stockyardlaw02_PathNeighbours.j1, if_true]
    exact none_
  simp only [stockyardlaw02_PathNeighbours.f, long_eq, Option.bind_some]
  by_cases hl0 : (d.size : Int) > 400
  · simp only [hl0, decide_true, if_true]
    exact long
  simp only [hl0, decide_false, Bool.false_eq_true, if_false]
  by_cases hl : (a.size : Int) > 400
  · simp only [hl, decide_true, if_true]
    exact long
  simp only [hl, decide_false, Bool.false_eq_true, if_false]
  by_cases hl2 : (b.size : Int) > 400
  · simp only [hl2, decide_true, if_true]
    exact long
  simp only [hl2, decide_false, Bool.false_eq_true, if_false]
  by_cases hl3 : (c.size : Int) > 400
  · simp only [hl3, decide_true]
    exact long
  simp only [hl3, decide_false]
  have h0 : d.size ≤ 1048576 := by omega
  have h1 : a.size ≤ 1048576 := by omega
  have h2 : b.size ≤ 1048576 := by omega
  have h3 : c.size ≤ 1048576 := by omega
  refine Ev.succ ?_
  simp only [stockyardlaw02_PathNeighbours.j0, Bool.false_eq_true, if_false]
  rw [Ev.bind_iff (path_under_ev d a h0 h1), Ev.bind_iff (path_under_ev d c h0 h3), Ev.bind_iff (path_compare_ev a b h1 h2), Ev.bind_iff (path_compare_ev b c h2 h3)]
  have n20 : ¬ ((20 : Int) = 0) := by decide
  cases hx : dirL (L d) with
  | none => simp only [underR, n20, if_false]; exact out _ _
  | some x =>
  cases hp : pathL (L a) with
  | none => simp only [underR, n20, if_false]; exact out _ _
  | some p =>
  cases hr : pathL (L c) with
  | none => simp only [underR, n20, if_false, if_true]; exact out _ _
  | some r =>
  cases hq : pathL (L b) with
  | none => simp only [underR, cmpR, n20, if_false, if_true]; exact out _ _
  | some q =>
  simp only [underR, cmpR, if_true]
  by_cases u1 : underL x p = true
  · by_cases u2 : underL x r = true
    · simp only [u1, u2, if_true]
      by_cases c1 : cmpP p q > 0
      · simp only [c1, if_true]
        exact out _ _
      · simp only [c1, if_false]
        by_cases c2 : cmpP q r > 0
        · simp only [c2, decide_true]
          exact out _ _
        · simp only [c2, decide_false]
          refine Ev.succ ?_
          simp only [stockyardlaw02_PathNeighbours.j1, Bool.false_eq_true, if_false]
          have v1 := (under_iff x p).1 u1
          have v2 := (under_iff x r).1 u2
          have w1 : cmpP p q ≤ 0 := by omega
          have w2 : cmpP q r ≤ 0 := by omega
          have v3 := lex_between cmpS_cmp v1.1 v1.2 v2.1 w1 w2
          have v4 := (under_iff x q).2 v3
          rw [Ev.bind_iff (path_under_ev d b h0 h2), hx, hq]
          simp only [underR, v4, if_true]
          exact none_
    · have u2' : underL x r = false := by simpa using u2
      simp only [u1, u2', if_true, Bool.false_eq_true, if_false]
      exact out _ _
  · have u1' : underL x p = false := by simpa using u1
    simp only [u1', Bool.false_eq_true, if_false]
    exact out _ _
end Go.Proofs.YtgbnjkfhkhkkfaaDoor.P

/-
  The pure statement of PathOrders: Compare is a total order of the paths.
-/
import Derived.Test.YtgbnjkfhkhkkfaaDoorStPathOrders
import Derived.Test.YtgbnjkfhkhkkfaaDoorPath2
namespace Go.Proofs.YtgbnjkfhkhkkfaaDoor.P
open Go.RowKit Go.Proofs.YtgbnjkfhkhkkfaaDoorW.PrintWords Go.Proofs.YtgbnjkfhkhkkfaaDoor.Args
set_option linter.unusedVariables false
set_option linter.unusedSimpArgs false

/-- Different texts of paths have different components. -/
theorem pathL_inj {a b p : Bs} {q : List Bs} (h1 : pathL a = some q) (h2 : pathL b = some q) : a = b := by
  have d1 := (pathL_length h1).2.2
  have d2 := (pathL_length h2).2.2
  unfold dirL at d1 d2
  split at d1
  · rename_i c1
    split at d2
    · rename_i c2
      injection d1 with d1
      injection d2 with d2
      obtain ⟨x, rfl⟩ := List.isPrefixOf_iff_prefix.1 c1.1
      obtain ⟨y, rfl⟩ := List.isPrefixOf_iff_prefix.1 c2.1
      have e : joinL (splitL (([47, 47] ++ x).drop 2)) = joinL (splitL (([47, 47] ++ y).drop 2)) := by rw [d1, d2]
      rw [join_split, join_split] at e
      simp only [List.cons_append, List.nil_append, List.drop_succ_cons, List.drop_zero] at e
      rw [e]
    · cases d2
  · cases d1
theorem Pure.PathOrders : St.PathOrders := by
  intro a b c ha hb hc
  refine Ev.rounds ?_
  have none_ : Ev (fun k => (stockyardlaw02_awake.f k).bind fun t => some t) true := by rw [Ev.bind_some]; exact awake02
  have long : Ev (fun k => stockyardlaw02_PathOrders.j0 k a b c true) true := by
    refine Ev.succ ?_
    simp only [stockyardlaw02_PathOrders.j0, if_true]
    exact none_
  simp only [stockyardlaw02_PathOrders.f, long_eq, Option.bind_some]
  by_cases hl : (a.size : Int) > 400
  · simp only [hl, decide_true, if_true]
    exact long
  simp only [hl, decide_false, Bool.false_eq_true, if_false]
  by_cases hl2 : (b.size : Int) > 400
  · simp only [hl2, decide_true, if_true]
    exact long
  simp only [hl2, decide_false, Bool.false_eq_true, if_false]
  by_cases hl3 : (c.size : Int) > 400
  · simp only [hl3, decide_true, if_true]
    exact long
  simp only [hl3, decide_false, Bool.false_eq_true, if_false]
  have h1 : a.size ≤ 1048576 := by omega
  have h2 : b.size ≤ 1048576 := by omega
  have h3 : c.size ≤ 1048576 := by omega
  rw [Ev.bind_iff (valid_ev a h1)]
  cases hp : pathL (L a) with
  | none => simpa using long
  | some p =>
  simp only [Option.isSome_some, if_true]
  rw [Ev.bind_iff (valid_ev b h2)]
  cases hq : pathL (L b) with
  | none => simpa using long
  | some q =>
  simp only [Option.isSome_some, if_true]
  rw [Ev.bind_iff (valid_ev c h3)]
  cases hr : pathL (L c) with
  | none => simpa using long
  | some r =>
  simp only [Option.isSome_some, Bool.not_true]
  refine Ev.succ ?_
  simp only [stockyardlaw02_PathOrders.j0, Bool.false_eq_true, if_false]
  rw [Ev.bind_iff (path_compare_ev a b h1 h2), Ev.bind_iff (path_compare_ev b a h2 h1), Ev.bind_iff (path_compare_ev b c h2 h3), Ev.bind_iff (path_compare_ev a c h1 h3), hp, hq, hr]
  simp only [cmpR, if_true]
  have A := cmpP_cmp.anti p q
  have Z := cmpP_cmp.zero p q
  have R := cmpP_cmp.range p q
  have T := cmpP_cmp.trans p q r
  have X : cmpP p q ≤ 0 → cmpP q r ≤ 0 → cmpP p r = 0 → cmpP p q = 0 ∧ cmpP q r = 0 := fun u v w => cmpP_cmp.strict u v w
  have E : (cmpP p q == 0) = (a.toList == b.toList) := by
    rw [toList_eq, toList_eq, Bool.eq_iff_iff, beq_iff_eq, beq_iff_eq, Z]
    constructor
    · intro e
      subst e
      exact pathL_inj (p := []) hp hq
    · intro e
      rw [e, hq] at hp
      exact (Option.some.inj hp).symm
  have W : wrap64 (-cmpP q p) = cmpP p q := by rw [wrap64_id (by omega) (by omega)]; omega
  have NE : ((cmpP p q == 0) != (a.toList == b.toList)) = false := by rw [E]; simp
  simp only [W, NE, if_true, Bool.false_eq_true, if_false]
  have n1 : ¬ cmpP p q < -1 := by omega
  have n2 : ¬ cmpP p q > 1 := by omega
  simp only [n1, if_false, n2, decide_false]
  refine Ev.succ ?_
  simp only [stockyardlaw02_PathOrders.j1, Bool.false_eq_true, if_false]
  by_cases u : cmpP p q ≤ 0
  · by_cases v : cmpP q r ≤ 0
    · have t := T u v
      have n3 : ¬ cmpP p r > 0 := by omega
      simp only [u, v, n3, if_true, if_false]
      by_cases e : cmpP p r = 0
      · have y := X u v e
        simp only [e, y.1, y.2, if_true]
        exact none_
      · simp only [e, if_false]
        exact none_
    · simp only [u, v, if_true, if_false]
      exact none_
  · simp only [u, if_false]
    exact none_
end Go.Proofs.YtgbnjkfhkhkkfaaDoor.P

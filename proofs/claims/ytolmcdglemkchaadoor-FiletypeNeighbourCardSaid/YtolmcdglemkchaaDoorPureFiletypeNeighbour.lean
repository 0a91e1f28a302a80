/-
  The pure statement of FiletypeNeighbour.
-/
import Derived.Test.YtolmcdglemkchaaDoorStFiletypeNeighbour
import Derived.Test.YtolmcdglemkchaaDoorFol2
namespace Go.Proofs.YtolmcdglemkchaaDoor.P
open Go.RowKit Go.Proofs.YtolmcdglemkchaaDoorW.PrintWords Go.Proofs.YtolmcdglemkchaaDoor.Args
set_option linter.unusedVariables false
set_option linter.unusedSimpArgs false

theorem Pure.FiletypeNeighbour : St.FiletypeNeighbour := by
  intro s t hs ht
  refine Ev.rounds ?_
  have zs := size_eq s
  have zt := size_eq t
  have none_ : Ev (fun k => (stockyardlaw09_awake.f k).bind fun t => some t) true := by rw [Ev.bind_some]; exact awake09
  have long : Ev (fun k => stockyardlaw09_FiletypeNeighbour.j0 k s t true) true := by
    refine Ev.succ ?_
    simp only [stockyardlaw09_FiletypeNeighbour.j0, if_true]
    exact none_
  simp only [stockyardlaw09_FiletypeNeighbour.f]
  by_cases h1 : (s.size : Int) > 300
  · simp only [if_pos h1]
    exact long
  simp only [if_neg h1]
  by_cases h2 : (t.size : Int) > 100
  · simp only [if_pos h2]
    exact long
  simp only [if_neg h2]
  rw [Ev.bind_iff (valid_ev s (by omega))]
  cases hp : pathL (L s) with
  | none =>
    simp only [Option.isSome_none, Bool.false_eq_true, if_false]
    exact long
  | some p =>
    simp only [Option.isSome_some, if_true]
    rw [Ev.bind_iff (comp_ev t (by omega))]
    cases hc : compL (L t) with
    | false =>
      simp only [Bool.not_false]
      exact long
    | true =>
      simp only [Bool.not_true]
      refine Ev.succ ?_
      simp only [stockyardlaw09_FiletypeNeighbour.j0, Bool.false_eq_true, if_false]
      have f := comp_facts hc
      have hpt := path_text hp
      have htg : targetL (L t) = true := decide_eq_true ⟨f.1, by omega, f.2.2.2.1, f.2.2.2.2.1⟩
      have hh : (L t).head? ≠ some 47 := by
        intro e
        exact f.2.2.2.2.2 (List.mem_of_mem_head? e)
      have hne : p.dropLast ≠ [] := by
        intro e
        have := congrArg List.length e
        simp at this
        omega
      have hfol : followL (L s) (L t) = (S (textL p.dropLast ++ 47 :: L t), 0) := by
        rw [followL_ok hp htg hh, splitL_none f.2.2.2.2.2, steps_comp hc, stepsL, endL]
        rw [if_neg (by rw [List.length_append, List.length_dropLast, List.length_singleton]; omega), text_snoc _ _ hne]
      have hpar := parent_ev s (by omega)
      rw [hp] at hpar
      have hsz : (textL p.dropLast).length ≤ 400 := by
        have e1 : L s = textL (p.dropLast ++ [p.getLast (by intro e; subst e; simp at hpt)]) := by rw [List.dropLast_concat_getLast]; exact hpt.1
        rw [text_snoc _ _ hne] at e1
        have := congrArg List.length e1
        rw [List.length_append] at this
        omega
      rw [Ev.bind_iff hpar, Ev.bind_iff (follow_ev s t (by omega) (by omega)), hfol]
      have e0 : (S (textL p.dropLast) ++ (⟨#[47]⟩ : ByteArray)).size ≤ 401 := by
        rw [ByteArray.size_append, size_S]
        have : (⟨#[47]⟩ : ByteArray).size = 1 := rfl
        omega
      have e1 : (S (textL p.dropLast)).size ≤ 400 := by rw [size_S]; exact hsz
      simp (disch := omega) only [if_true, if_pos]
      have e2 : (S (textL p.dropLast ++ 47 :: L t)).toList = ((S (textL p.dropLast) ++ (⟨#[47]⟩ : ByteArray)) ++ t).toList := by
        rw [toList_eq, toList_eq, append_eq, append_eq, L_S, L_S, L_lit, List.append_assoc]
        rfl
      simp only [if_pos e2]
      exact none_
end Go.Proofs.YtolmcdglemkchaaDoor.P

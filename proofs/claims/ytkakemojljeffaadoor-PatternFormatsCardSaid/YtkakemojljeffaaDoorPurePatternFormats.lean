/-
  The pure statement of PatternFormats. No project text.
-/
import Derived.Test.YtkakemojljeffaaDoorStPatternFormats
import Derived.Test.YtkakemojljeffaaDoorPatF
import Derived.Test.YtkakemojljeffaaDoorPatS
import Derived.Test.YtkakemojljeffaaDoorPx14
import Derived.Test.YtkakemojljeffaaDoorPx3
namespace Go.Proofs.YtkakemojljeffaaDoor.P
open Go.RowKit Go.Proofs.YtkakemojljeffaaDoorW.PrintWords Go.Proofs.YtkakemojljeffaaDoor.Args
set_option linter.unusedVariables false
set_option linter.unusedSimpArgs false

theorem Pure.PatternFormats : St.PatternFormats := by
  intro p hp
  refine Ev.rounds ?_
  have none_ : Ev (fun k => (stockyardlaw03_awake.f k).bind fun t => some t) true := by rw [Ev.bind_some]; exact awake03
  obtain ⟨ps, e, h1, h2⟩ := arg_parts hp.1
  simp only [stockyardlaw03_PatternFormats.f, e]
  rw [Ev.bind_iff (small_ev ps _ h1 h2)]
  by_cases hsm : smallB ps = true
  · simp only [hsm, if_true]
    have h3 := small_ok hsm
    have hx : ∀ x ∈ ps, x.length ≤ 1048576 := fun x hx => by have := h3.2 x hx; omega
    have hcp : ([] : List ByteArray).length + (Ss ps).length < 8796093022208 := by rw [Ss_length]; simp only [List.length_nil]; omega
    simp only [stockyardlaw03_copied.f, if_pos hcp, Option.bind_some, List.nil_append]
    rw [Ev.bind_iff (format_ev ps _ (by omega) hx), Ev.bind_iff (refcheck_ev ps _ (by omega) hx), Ev.bind_iff (same3_ev _ _ _ _ (by rw [Ss_length]; omega))]
    have hf2 : (formatR ps p.f1).2 = checkI ps p.f1 := by
      unfold formatR
      by_cases hc : checkI ps p.f1 = 0
      · simp [hc]
      · simp [hc]
    simp only [and_self, decide_true, if_true, if_pos hf2]
    rw [Ev.bind_iff (check_ev ps _ (by omega) hx)]
    have e2 : (checkI ps p.f1 != checkI ps p.f1) = false := by simp
    simp only [e2]
    refine Ev.succ ?_
    simp only [stockyardlaw03_PatternFormats.j0, Bool.false_eq_true, if_false]
    rw [reftext_eq ps _ (by omega) hx]
    unfold formatR
    by_cases hc : checkI ps p.f1 = 0
    · simp only [hc, if_true, Option.bind_some]
      exact none_
    · simp only [hc, if_false, toList_eq, L_S, if_true]
      exact none_
  · simp only [hsm, if_false, Bool.false_eq_true]
    exact none_
end Go.Proofs.YtkakemojljeffaaDoor.P

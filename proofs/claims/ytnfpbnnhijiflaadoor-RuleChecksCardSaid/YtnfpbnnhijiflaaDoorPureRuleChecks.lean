/-
  The pure statement of RuleChecks. No project text.
-/
import Derived.Test.YtnfpbnnhijiflaaDoorStRuleChecks
import Derived.Test.YtnfpbnnhijiflaaDoorRRule
import Derived.Test.YtnfpbnnhijiflaaDoorPatS
import Derived.Test.YtnfpbnnhijiflaaDoorPx10
import Derived.Test.YtnfpbnnhijiflaaDoorPx4
import Derived.Test.YtnfpbnnhijiflaaDoorPx8
namespace Go.Proofs.YtnfpbnnhijiflaaDoor.P
open Go.RowKit Go.Proofs.YtnfpbnnhijiflaaDoorW.PrintWords Go.Proofs.YtnfpbnnhijiflaaDoor.Args
set_option linter.unusedVariables false
set_option linter.unusedSimpArgs false

theorem Pure.RuleChecks : St.RuleChecks := by
  intro x hx
  refine Ev.rounds ?_
  have none_ : Ev (fun k => (stockyardlaw04_awake.f k).bind fun t => some t) true := by rw [Ev.bind_some]; exact awake04
  obtain ⟨p, e, p1, p2⟩ := arg_parts hx.2.1.1
  obtain ⟨q, e', q1, q2⟩ := arg_parts hx.2.2.1
  simp only [stockyardlaw04_RuleChecks.f, e, e']
  generalize x.f1.f1 = a
  generalize x.f2.f1 = b
  rw [Ev.bind_iff (fit_ev x.f0 p a q b p1 p2 q1 q2)]
  by_cases hf : (small4B p && small4B q) = true
  · simp only [hf, if_true]
    rw [Bool.and_eq_true] at hf
    have h1 := small4_ok hf.1
    have h2 := small4_ok hf.2
    have hp2 : ∀ x ∈ p, x.length ≤ 1000 := fun x hx => by have := h1.2 x hx; omega
    have hq2 : ∀ x ∈ q, x.length ≤ 1000 := fun x hx => by have := h2.2 x hx; omega
    simp only [turn_eq x.f0 p a q b (by omega) (by omega), Option.bind_some]
    rw [Ev.bind_iff (rulecheck_ev x.f0 p a q b h1.1 hp2 h2.1 hq2), Ev.bind_iff (refrulecheck_ev x.f0 p a q b h1.1 hp2 h2.1 hq2)]
    simp only [if_true, refturn_eq x.f0 p a q b (by omega) (by omega), Option.bind_some]
    have hsame : Ev (fun k => stockyardref04_Same.f k x.f0 (Ss q) b (Ss p) a x.f0 (Ss q) b (Ss p) a) true := by
      simp only [stockyardref04_Same.f, beq_self_eq_true, if_true]
      rw [Ev.bind_iff (same3_ev _ _ _ _ (by rw [Ss_length]; omega))]
      simp only [and_self, decide_true, if_true]
      rw [Ev.bind_some]
      refine Ev.of_eq (same3_ev _ _ _ _ (by rw [Ss_length]; omega)) ?_
      simp
    rw [Ev.bind_iff hsame]
    simp only [if_true]
    exact none_
  · simp only [hf, if_false, Bool.false_eq_true]
    exact none_
end Go.Proofs.YtnfpbnnhijiflaaDoor.P

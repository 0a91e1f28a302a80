/-
  The pure statement of FiletypeParses.
-/
import Derived.Test.YtolmcdglemkchaaDoorStFiletypeParses
import Derived.Test.YtolmcdglemkchaaDoorFty
namespace Go.Proofs.YtolmcdglemkchaaDoor.P
open Go.RowKit Go.Proofs.YtolmcdglemkchaaDoorW.PrintWords Go.Proofs.YtolmcdglemkchaaDoor.Args
set_option linter.unusedVariables false
set_option linter.unusedSimpArgs false

theorem Pure.FiletypeParses : St.FiletypeParses := by
  intro s hs
  refine Ev.rounds ?_
  simp only [stockyardlaw09_FiletypeParses.f]
  by_cases h : ∃ t ∈ allT, L (txtT t) = L s
  · obtain ⟨t, ht, he⟩ := h
    have e := L_inj he
    subst e
    rw [parses_own ht]
    simp only [Option.bind_some]
    rw [Ev.bind_iff (refparses_own ht)]
    simp only [beq_self_eq_true, Bool.and_self, if_true]
    rw [Ev.bind_some]
    exact awake09
  · have hn : ∀ t ∈ allT, L (txtT t) ≠ L s := fun t ht he => h ⟨t, ht, he⟩
    rw [parse_none s hs hn]
    simp only [Option.bind_some]
    rw [Ev.bind_iff (refparse_none s hn)]
    simp only [beq_self_eq_true, Bool.and_self, if_true]
    rw [Ev.bind_some]
    exact awake09
end Go.Proofs.YtolmcdglemkchaaDoor.P

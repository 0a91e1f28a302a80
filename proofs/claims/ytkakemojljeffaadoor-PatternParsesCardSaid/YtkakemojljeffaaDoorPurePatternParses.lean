/-
  The pure statement of PatternParses. No project text.
-/
import Derived.Test.YtkakemojljeffaaDoorStPatternParses
import Derived.Test.YtkakemojljeffaaDoorPatS
import Derived.Test.YtkakemojljeffaaDoorPatR
import Derived.Test.YtkakemojljeffaaDoorPx3
import Derived.Test.YtkakemojljeffaaDoorPx8
namespace Go.Proofs.YtkakemojljeffaaDoor.P
open Go.RowKit Go.Proofs.YtkakemojljeffaaDoorW.PrintWords Go.Proofs.YtkakemojljeffaaDoor.Args
set_option linter.unusedVariables false
set_option linter.unusedSimpArgs false

theorem Pure.PatternParses : St.PatternParses := by
  intro s hs
  refine Ev.rounds ?_
  have none_ : ∀ f : Unit, Ev (fun k => (stockyardlaw03_awake.f k).bind fun t => some t) true := by intro _; rw [Ev.bind_some]; exact awake03
  simp only [stockyardlaw03_PatternParses.f]
  by_cases hl : (s.size : Int) > 400
  · simp only [if_pos hl]
    exact none_ ()
  · simp only [if_neg hl]
    rw [Ev.bind_iff (parse_ev s (by omega)), Ev.bind_iff (refparse_ev s (by omega))]
    simp only [if_true]
    have hlen : (parseR (L s)).1.length ≤ 4611686018427387904 := by
      have hsz := size_eq s
      unfold parseR
      split
      · simp only [Ss_length]
        have h1 := splitL_len_le ((L s).drop 2)
        rw [List.length_drop] at h1
        unfold partsOf
        split
        · simp only [List.length_dropLast]
          omega
        · simp only
          omega
      · simp
    rw [Ev.bind_iff (same3_ev _ _ _ _ hlen)]
    simp only [and_self, decide_true, if_true]
    exact none_ ()
end Go.Proofs.YtkakemojljeffaaDoor.P

/-
  The pure statement of PatternMatches. No project text.
-/
import Derived.Test.YtkakemojljeffaaDoorStPatternMatches
import Derived.Test.YtkakemojljeffaaDoorPatM
import Derived.Test.YtkakemojljeffaaDoorPx11
import Derived.Test.YtkakemojljeffaaDoorPx3
namespace Go.Proofs.YtkakemojljeffaaDoor.P
open Go.RowKit Go.Proofs.YtkakemojljeffaaDoorW.PrintWords Go.Proofs.YtkakemojljeffaaDoor.Args
set_option linter.unusedVariables false
set_option linter.unusedSimpArgs false

theorem Pure.PatternMatches : St.PatternMatches := by
  intro p s hp hs
  refine Ev.rounds ?_
  have none_ : Ev (fun k => (stockyardlaw03_awake.f k).bind fun t => some t) true := by rw [Ev.bind_some]; exact awake03
  obtain ⟨ps, e, h1, h2⟩ := arg_parts hp.1
  simp only [stockyardlaw03_PatternMatches.f, e]
  rw [Ev.bind_iff (small_ev ps _ h1 h2)]
  have far : ∀ (x : List ByteArray) (b : Bool), Ev (fun k => stockyardlaw03_PatternMatches.j0 k s true x b) true := by
    intro x b
    refine Ev.succ ?_
    simp only [stockyardlaw03_PatternMatches.j0, if_true]
    exact none_
  by_cases hsm : smallB ps = true
  · simp only [hsm, if_true]
    by_cases hl : (s.size : Int) > 400
    · simp only [hl, decide_true]
      exact far _ _
    · simp only [hl, decide_false]
      have h3 := small_ok hsm
      refine Ev.succ ?_
      simp only [stockyardlaw03_PatternMatches.j0, Bool.false_eq_true, if_false]
      rw [Ev.bind_iff (match_ev ps _ s (by omega) (fun x hx => by have := h3.2 x hx; omega) (by omega)), Ev.bind_iff (refmatch_ev ps _ s (by omega) (fun x hx => by have := h3.2 x hx; omega) (by omega))]
      simp only [beq_self_eq_true, if_true]
      have hlen : (dirR (matchP ps p.f1 (L s))).1.length ≤ 4611686018427387904 := by
        cases hm : matchP ps p.f1 (L s) with
        | none => simp [dirR]
        | some o =>
          simp only [dirR, Ss_length]
          have := match_length hm
          omega
      rw [Ev.bind_iff (equal3_ev _ _ hlen)]
      simp only [decide_true, if_true]
      exact none_
  · simp only [hsm, if_false, Bool.false_eq_true]
    exact far _ _
end Go.Proofs.YtkakemojljeffaaDoor.P

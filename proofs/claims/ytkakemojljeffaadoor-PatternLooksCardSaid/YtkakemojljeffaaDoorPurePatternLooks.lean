/-
  The pure statement of PatternLooks. No project text.
-/
import Derived.Test.YtkakemojljeffaaDoorStPatternLooks
import Derived.Test.YtkakemojljeffaaDoorPatF
import Derived.Test.YtkakemojljeffaaDoorRKinds
import Derived.Test.YtkakemojljeffaaDoorPx17
import Derived.Test.YtkakemojljeffaaDoorPx3
namespace Go.Proofs.YtkakemojljeffaaDoor.P
open Go.RowKit Go.Proofs.YtkakemojljeffaaDoorW.PrintWords Go.Proofs.YtkakemojljeffaaDoor.Args
set_option linter.unusedVariables false
set_option linter.unusedSimpArgs false

def literalR (ps : List Bs) (b : Bool) : ByteArray × Bool := if checkI ps b = 0 ∧ starsN ps = 0 ∧ b = false then (S (patText ps b), true) else (S [], false)
theorem literal_ev (ps : List Bs) (b : Bool) (hl : ps.length ≤ 1048576) (hx : ∀ x ∈ ps, x.length ≤ 1048576) : Ev (fun k => pattern_Literal.f k (Ss ps) b) (literalR ps b) := by
  simp only [pattern_Literal.f]
  rw [Ev.bind_iff (kinds_ev ps b hl hx)]
  unfold kindsR literalR
  by_cases hc : checkI ps b = 0
  · simp only [hc, if_true, true_and]
    by_cases hs : starsN ps = 0
    · have c1 : ¬ ((0 : Nat) : Int) > 0 := by decide
      simp only [hs, if_neg c1, true_and]
      cases b
      · simp only [Bool.false_eq_true, if_false, if_true]
        rw [Ev.bind_iff (format_ev ps false hl hx)]
        unfold formatR
        simp only [hc, if_true]
        exact Ev.now _
      · simp only [if_true, Bool.true_eq_false, if_false]
        exact Ev.now _
    · have c1 : ((starsN ps : Nat) : Int) > 0 := by omega
      simp only [if_pos c1, hs, false_and, if_false]
      exact Ev.now _
  · simp only [hc, if_false, false_and]
    exact Ev.now _
theorem Pure.PatternLooks : St.PatternLooks := by
  intro p hp
  refine Ev.rounds ?_
  have none_ : Ev (fun k => (stockyardlaw03_awake.f k).bind fun t => some t) true := by rw [Ev.bind_some]; exact awake03
  obtain ⟨ps, e, h1, h2⟩ := arg_parts hp.1
  simp only [stockyardlaw03_PatternLooks.f, e]
  rw [Ev.bind_iff (small_ev ps _ h1 h2)]
  by_cases hsm : smallB ps = true
  · simp only [hsm, if_true]
    have h3 := small_ok hsm
    have hx : ∀ x ∈ ps, x.length ≤ 1048576 := fun x hx => by have := h3.2 x hx; omega
    have hl : ps.length ≤ 1048576 := by omega
    generalize p.f1 = b
    rw [Ev.bind_iff (kinds_ev ps b hl hx), Ev.bind_iff (literal_ev ps b hl hx), Ev.bind_iff (refcheck_ev ps b hl hx)]
    unfold kindsR literalR
    by_cases hc : checkI ps b = 0
    · simp only [hc, if_true, true_and]
      rw [Ev.bind_iff (refkinds_ev ps b hl hx)]
      have eb : (b != b) = false := by simp
      simp only [if_true, eb, Bool.false_eq_true, if_false]
      have last : ∀ (x : ByteArray) (y : Bool), (if y = true then x = S (patText ps b) else x = S []) → Ev (fun k => stockyardlaw03_PatternLooks.j0 k x y false (Ss ps) b) true := by
        intro x y hxy
        refine Ev.succ ?_
        simp only [stockyardlaw03_PatternLooks.j0, Bool.false_eq_true, if_false]
        rw [reftext_eq ps b hl hx]
        cases y
        · simp only [Bool.false_eq_true, if_false] at hxy
          subst hxy
          simp only [Bool.false_eq_true, if_false, toList_eq, L_S, if_true]
          exact none_
        · simp only [if_true] at hxy
          subst hxy
          simp only [if_true, Option.bind_some]
          exact none_
      by_cases hs : starsN ps = 0
      · have c0 : ((starsN ps : Nat) : Int) = 0 := by omega
        simp only [if_pos c0, hs, true_and]
        cases b
        · simp only [if_true, Bool.not_false, bne_self_eq_false]
          exact last _ _ rfl
        · simp only [Bool.true_eq_false, if_false, Bool.not_true, bne_self_eq_false]
          exact last _ _ rfl
      · have c0 : ¬ ((starsN ps : Nat) : Int) = 0 := by omega
        simp only [if_neg c0, hs, false_and, if_false, bne_self_eq_false]
        exact last _ _ rfl
    · simp only [hc, if_false, false_and, if_true, Bool.false_eq_true, toList_eq, L_S]
      exact none_
  · simp only [hsm, if_false, Bool.false_eq_true]
    exact none_
end Go.Proofs.YtkakemojljeffaaDoor.P

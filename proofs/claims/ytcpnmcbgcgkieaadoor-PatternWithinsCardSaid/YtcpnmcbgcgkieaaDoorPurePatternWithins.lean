/-
  The pure statement of PatternWithins. No project text.
-/
import Derived.Test.YtcpnmcbgcgkieaaDoorStPatternWithins
import Derived.Test.YtcpnmcbgcgkieaaDoorMeet1
import Derived.Test.YtcpnmcbgcgkieaaDoorRMeet
import Derived.Test.YtcpnmcbgcgkieaaDoorPx22
import Derived.Test.YtcpnmcbgcgkieaaDoorPx3
namespace Go.Proofs.YtcpnmcbgcgkieaaDoor.P
open Go.RowKit Go.Proofs.YtcpnmcbgcgkieaaDoorW.PrintWords Go.Proofs.YtcpnmcbgcgkieaaDoor.Args
set_option linter.unusedVariables false
set_option linter.unusedSimpArgs false

theorem Pure.PatternWithins : St.PatternWithins := by
  intro p q hp hq
  refine Ev.rounds ?_
  have none_ : Ev (fun k => (stockyardlaw03_awake.f k).bind fun t => some t) true := by rw [Ev.bind_some]; exact awake03
  obtain ⟨ps, e, h1, h2⟩ := arg_parts hp.1
  obtain ⟨qs, e', h3, h4⟩ := arg_parts hq.1
  simp only [stockyardlaw03_PatternWithins.f, e, e']
  have far : Ev (fun k => stockyardlaw03_PatternWithins.j0 k true (Ss ps) p.f1 (Ss qs) q.f1) true := by
    refine Ev.succ ?_
    simp only [stockyardlaw03_PatternWithins.j0, if_true]
    exact none_
  rw [Ev.bind_iff (small_ev ps _ h1 h2)]
  by_cases hsm : smallB ps = true
  · simp only [hsm, if_true]
    rw [Ev.bind_iff (small_ev qs _ h3 h4)]
    by_cases hsm2 : smallB qs = true
    · simp only [hsm2, Bool.not_true]
      have a1 := small_ok hsm
      have a2 := small_ok hsm2
      have b1 : ∀ x ∈ ps, x.length ≤ 1048576 := fun x hx => by have := a1.2 x hx; omega
      have b2 : ∀ x ∈ qs, x.length ≤ 1048576 := fun x hx => by have := a2.2 x hx; omega
      refine Ev.succ ?_
      simp only [stockyardlaw03_PatternWithins.j0, Bool.false_eq_true, if_false]
      rw [Ev.bind_iff (within_ev ps qs _ _ (by omega) (by omega) b1 b2), Ev.bind_iff (refwithin_ev ps qs _ _ (by omega) (by omega) b1 b2)]
      simp only [beq_self_eq_true, if_true]
      rw [Ev.bind_iff (within_ev qs ps _ _ (by omega) (by omega) b2 b1), Ev.bind_iff (refwithin_ev qs ps _ _ (by omega) (by omega) b2 b1)]
      simp only [beq_self_eq_true, if_true]
      exact none_
    · simp only [Bool.not_eq_true] at hsm2
      simp only [hsm2, Bool.not_false]
      exact far
  · simp only [hsm, if_false, Bool.false_eq_true]
    exact far
end Go.Proofs.YtcpnmcbgcgkieaaDoor.P

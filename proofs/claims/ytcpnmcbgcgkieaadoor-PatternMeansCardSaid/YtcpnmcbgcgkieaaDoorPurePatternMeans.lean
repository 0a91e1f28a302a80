/-
  The pure statement of PatternMeans. No project text.
-/
import Derived.Test.YtcpnmcbgcgkieaaDoorStPatternMeans
import Derived.Test.YtcpnmcbgcgkieaaDoorMeet1
import Derived.Test.YtcpnmcbgcgkieaaDoorPx20
import Derived.Test.YtcpnmcbgcgkieaaDoorPx3
namespace Go.Proofs.YtcpnmcbgcgkieaaDoor.P
open Go.RowKit Go.Proofs.YtcpnmcbgcgkieaaDoorW.PrintWords Go.Proofs.YtcpnmcbgcgkieaaDoor.Args
set_option linter.unusedVariables false
set_option linter.unusedSimpArgs false

theorem dirR_some (o : Option (List Bs)) : (dirR o).2 = o.isSome := by cases o <;> rfl
theorem Pure.PatternMeans : St.PatternMeans := by
  intro p q s hp hq hs
  refine Ev.rounds ?_
  have none_ : Ev (fun k => (stockyardlaw03_awake.f k).bind fun t => some t) true := by rw [Ev.bind_some]; exact awake03
  obtain ⟨ps, e, h1, h2⟩ := arg_parts hp.1
  obtain ⟨qs, e', h3, h4⟩ := arg_parts hq.1
  simp only [stockyardlaw03_PatternMeans.f, e, e']
  have far : Ev (fun k => stockyardlaw03_PatternMeans.j0 k s true (Ss ps) p.f1 (Ss qs) q.f1) true := by
    refine Ev.succ ?_
    simp only [stockyardlaw03_PatternMeans.j0, if_true]
    exact none_
  rw [Ev.bind_iff (small_ev ps _ h1 h2)]
  by_cases hsm : smallB ps = true
  · simp only [hsm, if_true]
    rw [Ev.bind_iff (small_ev qs _ h3 h4)]
    by_cases hsm2 : smallB qs = true
    · simp only [hsm2, if_true]
      by_cases hl : (s.size : Int) > 400
      · simp only [hl, decide_true]
        exact far
      · simp only [hl, decide_false]
        have a1 := small_ok hsm
        have a2 := small_ok hsm2
        have b1 : ∀ x ∈ ps, x.length ≤ 1048576 := fun x hx => by have := a1.2 x hx; omega
        have b2 : ∀ x ∈ qs, x.length ≤ 1048576 := fun x hx => by have := a2.2 x hx; omega
        refine Ev.succ ?_
        simp only [stockyardlaw03_PatternMeans.j0, Bool.false_eq_true, if_false]
        rw [Ev.bind_iff (match_ev ps _ s (by omega) b1 (by omega)), Ev.bind_iff (match_ev qs _ s (by omega) b2 (by omega)), Ev.bind_iff (meet_ev ps qs _ _ (by omega) (by omega) b1 b2)]
        have hw := within_ev ps qs p.f1 q.f1 (by omega) (by omega) b1 b2
        have hmm := meetP_match (ps := ps) (b := p.f1) (qs := qs) (b' := q.f1) (L s)
        have hin := fun h => inP_match (ps := ps) (b := p.f1) (qs := qs) (b' := q.f1) h (L s)
        simp only [dirR_some]
        have fin : ∀ x y z : Bool, (x && y) = z → (inP ps p.f1 qs q.f1 = true → x = true → y = true) → Ev (fun k => stockyardlaw03_PatternMeans.j1 k x y z (Ss ps) p.f1 (Ss qs) q.f1) true := by
          intro x y z hz hi
          refine Ev.succ ?_
          subst hz
          cases x with
          | true =>
            have e1 : (y != (true && y)) = false := by cases y <;> rfl
            simp only [stockyardlaw03_PatternMeans.j1, if_true, e1, Bool.false_eq_true, if_false]
            rw [Ev.bind_iff hw]
            by_cases hi2 : inP ps p.f1 qs q.f1 = true
            · simp only [hi2, if_true, hi hi2 rfl]
              exact none_
            · simp only [hi2, if_false, Bool.false_eq_true]
              exact none_
          | false =>
            have e1 : (false != (false && y)) = false := by cases y <;> rfl
            simp only [stockyardlaw03_PatternMeans.j1, Bool.false_eq_true, if_false, e1]
            rw [Ev.bind_iff hw]
            by_cases hi2 : inP ps p.f1 qs q.f1 = true
            · simp only [hi2, if_true]
              exact none_
            · simp only [hi2, if_false, Bool.false_eq_true]
              exact none_
        cases hm : meetP ps p.f1 qs q.f1 with
        | none =>
          rw [hm] at hmm
          simp only [meetV, Bool.false_eq_true, if_false]
          exact fin _ _ _ hmm hin
        | some m =>
          obtain ⟨o, r⟩ := m
          rw [hm] at hmm
          have hmem := meetP_mem hm
          simp only [meetV, if_true]
          have b3 : ∀ x ∈ o, x.length ≤ 1048576 := fun x hx => by
            rcases hmem.1 x hx with h | h
            · exact b1 x h
            · exact b2 x h
          rw [Ev.bind_iff (match_ev o r s (by rcases hmem.2 with h | h <;> omega) b3 (by omega))]
          simp only [dirR_some]
          exact fin _ _ _ hmm hin
    · simp only [hsm2, if_false, Bool.false_eq_true]
      exact far
  · simp only [hsm, if_false, Bool.false_eq_true]
    exact far
end Go.Proofs.YtcpnmcbgcgkieaaDoor.P

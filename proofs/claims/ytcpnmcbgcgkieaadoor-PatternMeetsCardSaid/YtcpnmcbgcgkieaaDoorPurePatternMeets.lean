/-
  The pure statement of PatternMeets. No project text.
-/
import Derived.Test.YtcpnmcbgcgkieaaDoorStPatternMeets
import Derived.Test.YtcpnmcbgcgkieaaDoorMeet1
import Derived.Test.YtcpnmcbgcgkieaaDoorRMeet
import Derived.Test.YtcpnmcbgcgkieaaDoorPatS
import Derived.Test.YtcpnmcbgcgkieaaDoorPx13
import Derived.Test.YtcpnmcbgcgkieaaDoorPx2
import Derived.Test.YtcpnmcbgcgkieaaDoorPx3
namespace Go.Proofs.YtcpnmcbgcgkieaaDoor.P
open Go.RowKit Go.Proofs.YtcpnmcbgcgkieaaDoorW.PrintWords Go.Proofs.YtcpnmcbgcgkieaaDoor.Args
set_option linter.unusedVariables false
set_option linter.unusedSimpArgs false

theorem meetV_ref (o : Option (List Bs × Bool)) : refmeetV o = meetV o := by cases o <;> rfl
theorem Pure.PatternMeets : St.PatternMeets := by
  intro p q hp hq
  refine Ev.rounds ?_
  have none_ : Ev (fun k => (stockyardlaw03_awake.f k).bind fun t => some t) true := by rw [Ev.bind_some]; exact awake03
  obtain ⟨ps, e, h1, h2⟩ := arg_parts hp.1
  obtain ⟨qs, e', h3, h4⟩ := arg_parts hq.1
  simp only [stockyardlaw03_PatternMeets.f, e, e']
  have far : Ev (fun k => stockyardlaw03_PatternMeets.j0 k true (Ss ps) p.f1 (Ss qs) q.f1) true := by
    refine Ev.succ ?_
    simp only [stockyardlaw03_PatternMeets.j0, if_true]
    exact none_
  rw [Ev.bind_iff (small_ev ps _ h1 h2)]
  by_cases hsm : smallB ps = true
  · simp only [hsm, if_true]
    rw [Ev.bind_iff (small_ev qs _ h3 h4)]
    by_cases hsm2 : smallB qs = true
    · simp only [hsm2, Bool.not_true]
      have a1 := small_ok hsm
      have a2 := small_ok hsm2
      have b1 : ∀ x ∈ ps, x.length ≤ 1048576 := fun x hx => by have := a1.2 x hx; omega
      have b2 : ∀ x ∈ qs, x.length ≤ 1048576 := fun x hx => by have := a2.2 x hx; omega
      have cp : stockyardlaw03_copied.f (Ss ps) p.f1 = some (Ss ps, p.f1) := by
        unfold stockyardlaw03_copied.f
        rw [if_pos (by rw [Ss_length, List.length_nil]; omega), List.nil_append]
      have cq : stockyardlaw03_copied.f (Ss qs) q.f1 = some (Ss qs, q.f1) := by
        unfold stockyardlaw03_copied.f
        rw [if_pos (by rw [Ss_length, List.length_nil]; omega), List.nil_append]
      refine Ev.succ ?_
      simp only [stockyardlaw03_PatternMeets.j0, Bool.false_eq_true, if_false, cp, cq, Option.bind_some]
      rw [Ev.bind_iff (meet_ev ps qs _ _ (by omega) (by omega) b1 b2), Ev.bind_iff (refmeet_ev ps qs _ _ (by omega) (by omega) b1 b2), meetV_ref]
      have hml : (meetV (meetP ps p.f1 qs q.f1)).1.length ≤ 1048576 := by
        cases hm : meetP ps p.f1 qs q.f1 with
        | none => simp [meetV]
        | some m =>
          obtain ⟨o, r⟩ := m
          have := meetP_mem hm
          simp only [meetV, Ss_length]
          rcases this.2 with h | h <;> omega
      have s1 := same3_ev (meetV (meetP ps p.f1 qs q.f1)).1 (meetV (meetP ps p.f1 qs q.f1)).1 (meetV (meetP ps p.f1 qs q.f1)).2.1 (meetV (meetP ps p.f1 qs q.f1)).2.1 (by omega)
      have s2 := same3_ev (Ss ps) (Ss ps) p.f1 p.f1 (by rw [Ss_length]; omega)
      have s3 := same3_ev (Ss qs) (Ss qs) q.f1 q.f1 (by rw [Ss_length]; omega)
      simp only [and_self, decide_true] at s1 s2 s3
      simp only [beq_self_eq_true, if_true]
      rw [Ev.bind_iff s1]
      simp only [if_true]
      rw [Ev.bind_iff s2]
      simp only [if_true]
      rw [Ev.bind_iff s3]
      simp only [if_true]
      exact none_
    · simp only [Bool.not_eq_true] at hsm2
      simp only [hsm2, Bool.not_false]
      exact far
  · simp only [hsm, if_false, Bool.false_eq_true]
    exact far
end Go.Proofs.YtcpnmcbgcgkieaaDoor.P

/-
  The pure statement of OfflineRenewed: a renewed claim holds as long as the old one or the new one would.
-/
import Derived.Test.YtlljblcjjcinnaaDoorStOfflineRenewed
import Derived.Test.YtlljblcjjcinnaaDoorRen
import Derived.Test.YtlljblcjjcinnaaDoorPx11
import Derived.Test.YtlljblcjjcinnaaDoorPx4
namespace Go.Proofs.YtlljblcjjcinnaaDoor.P
open Go.RowKit Go.Proofs.YtlljblcjjcinnaaDoorW.PrintWords Go.Proofs.YtlljblcjjcinnaaDoor.Args
set_option linter.unusedVariables false
set_option linter.unusedSimpArgs false

theorem Pure.OfflineRenewed : St.OfflineRenewed := by
  intro c sent term now hc h1 h2 h3
  obtain ⟨p, fe, se, te, dr⟩ := c
  refine Ev.rounds ?_
  have none_ : Ev (fun k => (stockyardlaw20_awake.f k).bind fun t => some t) true := by rw [Ev.bind_some]; exact awake20
  simp only [stockyardlaw20_OfflineRenewed.f]
  by_cases hl : (p.size : Int) > 400
  · simp only [hl, if_true]
    exact none_
  have hp : p.size ≤ 1048576 := by omega
  simp only [hl, if_false]
  have no : (soundB p fe se te dr = false ∨ sent < se ∨ soundB p fe sent term dr = false) ∨ (soundB p fe se te dr = true ∧ se ≤ sent ∧ soundB p fe sent term dr = true) := by
    cases soundB p fe se te dr
    · exact .inl (.inl rfl)
    · by_cases hlt : sent < se
      · exact .inl (.inr (.inl hlt))
      · cases soundB p fe sent term dr
        · exact .inl (.inr (.inr rfl))
        · exact .inr ⟨rfl, by omega, rfl⟩
  rcases no with no | ⟨hs, hlt, hs'⟩
  · rw [Ev.bind_iff (renewed_no hp no)]
    have n200 : ¬ ((200 : Int) = 0) := by decide
    simp only [zeroC, n200, if_false, toList_eq, L_S, beq_self_eq_true, Bool.and_self, if_true]
    exact none_
  · obtain ⟨e, g0, g1, he⟩ := exists_end hs
    obtain ⟨e', g0', g1', he'⟩ := exists_end hs'
    have t1 := sound_iff.1 hs
    have t2 := sound_iff.1 hs'
    rw [Ev.bind_iff (renewed_ev hp hs g0 g1 he hlt hs' g0' g1' he')]
    have fin : ∀ (s t : Int), soundB p fe s t dr = true → (∀ x, sent ≤ x → (holdB p fe s t dr x = (holdB p fe se te dr x || holdB p fe sent term dr x))) →
        Ev (fun k => stockyardlaw20_OfflineRenewed.j0 k sent now false p fe se te dr p fe s t dr p fe sent term dr) true := by
      intro s t hst hor
      refine Ev.succ ?_
      simp only [stockyardlaw20_OfflineRenewed.j0, Bool.false_eq_true, if_false]
      by_cases hn : now < sent
      · simp only [hn, if_true]
        exact none_
      · simp only [hn, if_false]
        have ho := hor now (by omega)
        rw [Ev.bind_iff (hold_ev p fe s t dr now hp), Ev.bind_iff (hold_ev p fe se te dr now hp), ho]
        cases ha : holdB p fe se te dr now
        · simp only [Bool.false_eq_true, if_false, Bool.false_or]
          rw [Ev.bind_iff (hold_ev p fe sent term dr now hp)]
          simp only [beq_self_eq_true, if_true]
          exact none_
        · simp only [if_true, Bool.true_or, beq_self_eq_true]
          exact none_
    have ho : ∀ x, sent ≤ x → (holdB p fe se te dr x = decide (x < se + e)) ∧ (holdB p fe sent term dr x = decide (x < sent + e')) := by
      intro x hx
      have a := he (x - se) (by omega)
      have b := he' (x - sent) (by omega)
      rw [show se + (x - se) = x by omega] at a
      rw [show sent + (x - sent) = x by omega] at b
      constructor
      · rw [Bool.eq_iff_iff, a, decide_eq_true_iff]
        omega
      · rw [Bool.eq_iff_iff, b, decide_eq_true_iff]
        omega
    by_cases g : se + e > sent + e'
    · simp only [g, if_true]
      rw [Ev.bind_iff (begin_ev p fe sent term dr hp), hs']
      simp only [if_true, beq_self_eq_true, Bool.not_true, Bool.or_self, Bool.false_eq_true, if_false, bne_self_eq_false]
      refine fin se te hs (fun x hx => ?_)
      have := ho x hx
      rw [this.1, this.2, Bool.eq_iff_iff]
      simp
      omega
    · simp only [g, if_false, if_true]
      rw [Ev.bind_iff (begin_ev p fe sent term dr hp), hs']
      simp only [if_true, beq_self_eq_true, Bool.not_true, Bool.false_or, Bool.or_false, Bool.or_self, Bool.false_eq_true, if_false, bne_self_eq_false]
      have f2 := fin sent term hs' (fun x hx => by
        have := ho x hx
        rw [this.1, this.2, Bool.eq_iff_iff]
        simp
        omega)
      split
      · exact f2
      · exact f2
end Go.Proofs.YtlljblcjjcinnaaDoor.P

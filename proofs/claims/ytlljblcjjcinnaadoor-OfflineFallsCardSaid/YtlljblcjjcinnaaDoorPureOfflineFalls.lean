/-
  The pure statement of OfflineFalls: a claim that is not holding is not holding later, Left counts down.
-/
import Derived.Test.YtlljblcjjcinnaaDoorStOfflineFalls
import Derived.Test.YtlljblcjjcinnaaDoorOff
import Derived.Test.YtlljblcjjcinnaaDoorPx4
import Derived.Test.YtlljblcjjcinnaaDoorPx5
namespace Go.Proofs.YtlljblcjjcinnaaDoor.P
open Go.RowKit Go.Proofs.YtlljblcjjcinnaaDoorW.PrintWords Go.Proofs.YtlljblcjjcinnaaDoor.Args
set_option linter.unusedVariables false
set_option linter.unusedSimpArgs false

theorem Pure.OfflineFalls : St.OfflineFalls := by
  intro c now more hc hn hm
  obtain ⟨p, fe, se, te, dr⟩ := c
  have hn' := wfI64 hn
  have hm' := wfI64 hm
  refine Ev.rounds ?_
  have none_ : Ev (fun k => (stockyardlaw20_awake.f k).bind fun t => some t) true := by rw [Ev.bind_some]; exact awake20
  have long : Ev (fun k => stockyardlaw20_OfflineFalls.j0 k now more true p fe se te dr) true := by
    refine Ev.succ ?_
    simp only [stockyardlaw20_OfflineFalls.j0, if_true]
    exact none_
  simp only [stockyardlaw20_OfflineFalls.f]
  by_cases hl : (p.size : Int) > 400
  · simp only [hl, if_true]
    exact long
  simp only [hl, if_false]
  by_cases h1 : more < 0
  · simp only [h1, if_true]
    exact long
  simp only [h1, if_false]
  by_cases h2 : now > 1099511627776
  · simp only [h2, if_true]
    exact long
  simp only [h2, if_false]
  by_cases h3 : more > 1099511627776
  · simp only [h3, if_true]
    exact long
  simp only [h3, if_false]
  by_cases h4 : now < se
  · simp only [h4, decide_true]
    exact long
  simp only [h4, decide_false]
  have hp : p.size ≤ 1048576 := by omega
  refine Ev.succ ?_
  simp only [stockyardlaw20_OfflineFalls.j0, Bool.false_eq_true, if_false]
  rw [wrap64_id (x := now + more) (by omega) (by omega)]
  cases hs : soundB p fe se te dr
  · have hh : ∀ t, holdB p fe se te dr t = false := fun t => by unfold holdB; rw [hs]; rfl
    rw [Ev.bind_iff (left_none now hp hs), Ev.bind_iff (left_none (now + more) hp hs), Ev.bind_iff (hold_ev p fe se te dr now hp), hh]
    have z : ((false : Bool) != decide ((0 : Int) > 0)) = false := by decide
    have z2 : ¬ ((0 : Int) < 0) := by decide
    have z3 : decide ((0 : Int) > 1048576) = false := by decide
    simp only [z, Bool.false_eq_true, if_false]
    rw [Ev.bind_iff (hold_ev p fe se te dr (now + more) hp), hh]
    simp only [z, z2, z3, Bool.false_eq_true, if_false]
    refine Ev.succ ?_
    simp only [stockyardlaw20_OfflineFalls.j1, Bool.false_eq_true, if_false, if_true]
    exact none_
  · have h5 := sound_iff.1 hs
    obtain ⟨e, g0, g1, he⟩ := exists_end hs
    have ha := he (now - se) (by omega)
    have hb := he (now + more - se) (by omega)
    rw [show se + (now - se) = now by omega] at ha
    rw [show se + (now + more - se) = now + more by omega] at hb
    rw [Ev.bind_iff (left_ev now hp hs g0 g1 he), Ev.bind_iff (left_ev (now + more) hp hs g0 g1 he), Ev.bind_iff (hold_ev p fe se te dr now hp)]
    by_cases u : now - se < e
    · have ua := ha.2 u
      rw [ua]
      simp only [if_true]
      have k1 : ((true : Bool) != decide (se + e - now > 0)) = false := by rw [decide_eq_true (by omega)]; rfl
      have k2 : ¬ (se + e - now < 0) := by omega
      have k3 : ¬ (se + e - now > 1048576) := by omega
      simp only [k1, Bool.false_eq_true, if_false]
      rw [Ev.bind_iff (hold_ev p fe se te dr (now + more) hp)]
      by_cases v : now + more - se < e
      · have vb := hb.2 v
        rw [vb]
        have k4 : ((true : Bool) != decide (se + e - (now + more) > 0)) = false := by rw [decide_eq_true (by omega)]; rfl
        simp only [if_true, k4, k2, k3, Bool.false_eq_true, if_false, decide_false]
        refine Ev.succ ?_
        have n0 : ¬ (se + e - now = 0) := by omega
        simp only [stockyardlaw20_OfflineFalls.j1, Bool.false_eq_true, if_false, n0]
        rw [wrap64_id (x := now + (se + e - now)) (by omega) (by omega), wrap64_id (x := now + (se + e - now) - 1) (by omega) (by omega), Ev.bind_iff (hold_ev p fe se te dr _ hp)]
        have q1 := he e g0
        have q2 := he (e - 1) (by omega)
        have q3 : holdB p fe se te dr (now + (se + e - now)) = false := by
          rw [show now + (se + e - now) = se + e by omega, Bool.eq_false_iff]
          intro h
          have := q1.1 h
          omega
        have q4 : holdB p fe se te dr (now + (se + e - now) - 1) = true := by
          rw [show now + (se + e - now) - 1 = se + (e - 1) by omega]
          exact q2.2 (by omega)
        rw [q3]
        simp only [Bool.false_eq_true, if_false]
        rw [Ev.bind_iff (hold_ev p fe se te dr _ hp), q4]
        have k5 : se + e - (now + more) = mx 0 (wrap64 (se + e - now - more)) := by
          rw [wrap64_id (by omega) (by omega)]
          unfold mx
          split <;> omega
        simp only [if_true]
        rw [← k5]
        simp only [if_true]
        exact none_
      · have vb : holdB p fe se te dr (now + more) = false := by
          rw [Bool.eq_false_iff]
          intro h
          exact v (hb.1 h)
        rw [vb]
        have k4 : ((false : Bool) != decide ((0 : Int) > 0)) = false := by decide
        simp only [Bool.false_eq_true, if_false, k4, k2, k3, decide_false]
        refine Ev.succ ?_
        have n0 : ¬ (se + e - now = 0) := by omega
        simp only [stockyardlaw20_OfflineFalls.j1, Bool.false_eq_true, if_false, n0]
        rw [wrap64_id (x := now + (se + e - now)) (by omega) (by omega), wrap64_id (x := now + (se + e - now) - 1) (by omega) (by omega), Ev.bind_iff (hold_ev p fe se te dr _ hp)]
        have q1 := he e g0
        have q2 := he (e - 1) (by omega)
        have q3 : holdB p fe se te dr (now + (se + e - now)) = false := by
          rw [show now + (se + e - now) = se + e by omega, Bool.eq_false_iff]
          intro h
          have := q1.1 h
          omega
        have q4 : holdB p fe se te dr (now + (se + e - now) - 1) = true := by
          rw [show now + (se + e - now) - 1 = se + (e - 1) by omega]
          exact q2.2 (by omega)
        rw [q3]
        simp only [Bool.false_eq_true, if_false]
        rw [Ev.bind_iff (hold_ev p fe se te dr _ hp), q4]
        have k5 : 0 = mx 0 (wrap64 (se + e - now - more)) := by
          rw [wrap64_id (by omega) (by omega)]
          unfold mx
          split <;> omega
        simp only [if_true]
        rw [← k5]
        simp only [if_true]
        exact none_
    · have ua : holdB p fe se te dr now = false := by
        rw [Bool.eq_false_iff]
        intro h
        exact u (ha.1 h)
      have vb : holdB p fe se te dr (now + more) = false := by
        rw [Bool.eq_false_iff]
        intro h
        have := hb.1 h
        omega
      rw [ua, vb]
      have z : ((false : Bool) != decide ((0 : Int) > 0)) = false := by decide
      have z2 : ¬ ((0 : Int) < 0) := by decide
      have z3 : decide ((0 : Int) > 1048576) = false := by decide
      simp only [z, Bool.false_eq_true, if_false]
      rw [Ev.bind_iff (hold_ev p fe se te dr (now + more) hp), vb]
      simp only [z, z2, z3, Bool.false_eq_true, if_false]
      refine Ev.succ ?_
      simp only [stockyardlaw20_OfflineFalls.j1, Bool.false_eq_true, if_false, if_true]
      exact none_
end Go.Proofs.YtlljblcjjcinnaaDoor.P

/-
  The pure statement of OfflineBegins: Begin, Holding and Left answer as the reference does.
-/
import Derived.Test.YtlljblcjjcinnaaDoorStOfflineBegins
import Derived.Test.YtlljblcjjcinnaaDoorOff
import Derived.Test.YtlljblcjjcinnaaDoorPx4
import Derived.Test.YtlljblcjjcinnaaDoorPx6
import Derived.Test.YtlljblcjjcinnaaDoorPx8
import Derived.Test.YtlljblcjjcinnaaDoorPx9
namespace Go.Proofs.YtlljblcjjcinnaaDoor.P
open Go.RowKit Go.Proofs.YtlljblcjjcinnaaDoorW.PrintWords Go.Proofs.YtlljblcjjcinnaaDoor.Args
set_option linter.unusedVariables false
set_option linter.unusedSimpArgs false

theorem refbegin_ev (p : ByteArray) (fe se te dr : Int) (hp : p.size ≤ 1048576) : Ev (fun k => stockyardref20_Begin.f k p fe se te dr) (if soundB p fe se te dr = true then (p, fe, se, te, dr, 0) else zeroC) := by
  simp only [stockyardref20_Begin.f]
  rw [Ev.bind_iff (refsound_ev p fe se te dr hp)]
  cases h : soundB p fe se te dr
  · simp only [Bool.false_eq_true, if_false]
    exact Ev.now _
  · simp only [if_true]
    exact Ev.now _
theorem refleft_ev {p : ByteArray} {fe se te dr e : Int} (now : Int) (hp : p.size ≤ 1048576) (hs : soundB p fe se te dr = true) (h0 : 0 ≤ e) (h1 : e ≤ te) (he : IsEnd p fe se te dr e) :
    Ev (fun k => stockyardref20_Left.f k p fe se te dr now) (if holdB p fe se te dr now = true then se + e - now else 0) := by
  have h2 := (sound_iff.1 hs)
  simp only [stockyardref20_Left.f]
  rw [Ev.bind_iff (refhold_ev p fe se te dr now hp)]
  cases hh : holdB p fe se te dr now
  · simp only [Bool.false_eq_true, if_false]
    exact Ev.now _
  · have h3 := (hold_iff hs).1 hh
    simp only [if_true]
    rw [Ev.bind_iff (refend_ev hp hs h0 h1 he), wrap64_id (by omega) (by omega)]
    exact Ev.now _
theorem refleft_none {p : ByteArray} {fe se te dr : Int} (now : Int) (hp : p.size ≤ 1048576) (hs : soundB p fe se te dr = false) : Ev (fun k => stockyardref20_Left.f k p fe se te dr now) 0 := by
  simp only [stockyardref20_Left.f]
  rw [Ev.bind_iff (refhold_ev p fe se te dr now hp)]
  have : holdB p fe se te dr now = false := by unfold holdB; rw [hs]; rfl
  rw [this]
  simp only [Bool.false_eq_true, if_false]
  exact Ev.now _
theorem left_both (p : ByteArray) (fe se te dr now : Int) (hp : p.size ≤ 1048576) : ∃ r : Int, Ev (fun k => offline_Left.f k p fe se te dr now) r ∧ Ev (fun k => stockyardref20_Left.f k p fe se te dr now) r := by
  cases hs : soundB p fe se te dr
  · exact ⟨0, left_none now hp hs, refleft_none now hp hs⟩
  · obtain ⟨e, h0, h1, he⟩ := exists_end hs
    exact ⟨_, left_ev now hp hs h0 h1 he, refleft_ev now hp hs h0 h1 he⟩
theorem Pure.OfflineBegins : St.OfflineBegins := by
  intro c now hc hn
  obtain ⟨p, fe, se, te, dr⟩ := c
  refine Ev.rounds ?_
  have none_ : Ev (fun k => (stockyardlaw20_awake.f k).bind fun t => some t) true := by rw [Ev.bind_some]; exact awake20
  simp only [stockyardlaw20_OfflineBegins.f]
  by_cases hl : (p.size : Int) > 400
  · simp only [hl, if_true]
    exact none_
  · have hp : p.size ≤ 1048576 := by omega
    simp only [hl, if_false]
    rw [Ev.bind_iff (begin_ev p fe se te dr hp), Ev.bind_iff (refbegin_ev p fe se te dr hp)]
    generalize (if soundB p fe se te dr = true then (p, fe, se, te, dr, (0 : Int)) else zeroC) = r
    simp only [beq_self_eq_true, Bool.and_self, if_true]
    rw [Ev.bind_iff (hold_ev p fe se te dr now hp), Ev.bind_iff (refhold_ev p fe se te dr now hp)]
    simp only [beq_self_eq_true, if_true]
    obtain ⟨x, hx1, hx2⟩ := left_both p fe se te dr now hp
    rw [Ev.bind_iff hx1, Ev.bind_iff hx2]
    simp only [if_true]
    exact none_
end Go.Proofs.YtlljblcjjcinnaaDoor.P

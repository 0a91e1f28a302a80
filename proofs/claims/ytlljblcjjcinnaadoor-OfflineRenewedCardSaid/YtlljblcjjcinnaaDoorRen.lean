/-
  Layer 20: the claim behind a renewal. No project text.
-/
import Derived.Test.YtlljblcjjcinnaaDoorOff
import Derived.Test.YtlljblcjjcinnaaDoorPx10
namespace Go.Proofs.YtlljblcjjcinnaaDoor.P
open Go.RowKit Go.Proofs.YtlljblcjjcinnaaDoorW.PrintWords
set_option linter.unusedVariables false
set_option linter.unusedSimpArgs false

/-- The claim behind a renewal: whichever holds longer. -/
theorem renewed_ev {p : ByteArray} {fe se te dr sent term e e' : Int} (hp : p.size ≤ 1048576) (hs : soundB p fe se te dr = true) (h0 : 0 ≤ e) (h1 : e ≤ te) (he : IsEnd p fe se te dr e)
    (hlt : se ≤ sent) (hs' : soundB p fe sent term dr = true) (h0' : 0 ≤ e') (h1' : e' ≤ term) (he' : IsEnd p fe sent term dr e') :
    Ev (fun k => offline_Renewed.f k p fe se te dr sent term) (if se + e > sent + e' then (p, fe, se, te, dr, 0) else (p, fe, sent, term, dr, 0)) := by
  simp only [offline_Renewed.f]
  rw [Ev.bind_iff (sound_ev p fe se te dr hp), hs]
  have hd : decide (sent < se) = false := decide_eq_false (by omega)
  simp only [if_true, hd]
  refine Ev.succ ?_
  simp only [offline_Renewed.j0, Bool.false_eq_true, if_false]
  rw [Ev.bind_iff (checked_ev p fe sent term dr hp), hs']
  simp only [if_true]
  rw [Ev.bind_iff (end_ev hp hs h0 h1 he), Ev.bind_iff (end_ev hp hs' h0' h1' he')]
  split <;> exact Ev.now _
theorem renewed_no {p : ByteArray} {fe se te dr sent term : Int} (hp : p.size ≤ 1048576) (h : soundB p fe se te dr = false ∨ sent < se ∨ soundB p fe sent term dr = false) :
    Ev (fun k => offline_Renewed.f k p fe se te dr sent term) zeroC := by
  have out : Ev (fun k => offline_Renewed.j0 k sent term true p fe se te dr) zeroC := by
    refine Ev.succ ?_
    simp only [offline_Renewed.j0, if_true]
    exact Ev.now _
  simp only [offline_Renewed.f]
  rw [Ev.bind_iff (sound_ev p fe se te dr hp)]
  cases hs : soundB p fe se te dr
  · simp only [Bool.false_eq_true, if_false]
    exact out
  · simp only [if_true]
    by_cases hlt : sent < se
    · simp only [hlt, decide_true]
      exact out
    · have hn : soundB p fe sent term dr = false := by
        rcases h with h | h | h
        · rw [hs] at h; cases h
        · exact absurd h hlt
        · exact h
      simp only [hlt, decide_false]
      refine Ev.succ ?_
      simp only [offline_Renewed.j0, Bool.false_eq_true, if_false]
      rw [Ev.bind_iff (checked_ev p fe sent term dr hp), hn]
      have n200 : ¬ ((200 : Int) = 0) := by decide
      simp only [zeroC, Bool.false_eq_true, if_false, n200]
      exact Ev.now _
end Go.Proofs.YtlljblcjjcinnaaDoor.P

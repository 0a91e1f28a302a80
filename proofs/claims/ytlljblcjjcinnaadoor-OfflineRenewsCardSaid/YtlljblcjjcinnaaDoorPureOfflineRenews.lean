/-
  The pure statement of OfflineRenews: Renewed answers as the reference does.
-/
import Derived.Test.YtlljblcjjcinnaaDoorStOfflineRenews
import Derived.Test.YtlljblcjjcinnaaDoorRen
import Derived.Test.YtlljblcjjcinnaaDoorPx10
import Derived.Test.YtlljblcjjcinnaaDoorPx12
import Derived.Test.YtlljblcjjcinnaaDoorPx4
namespace Go.Proofs.YtlljblcjjcinnaaDoor.P
open Go.RowKit Go.Proofs.YtlljblcjjcinnaaDoorW.PrintWords Go.Proofs.YtlljblcjjcinnaaDoor.Args
set_option linter.unusedVariables false
set_option linter.unusedSimpArgs false

theorem refrenewed_ev {p : ByteArray} {fe se te dr sent term e e' : Int} (hp : p.size ≤ 1048576) (hs : soundB p fe se te dr = true) (h0 : 0 ≤ e) (h1 : e ≤ te) (he : IsEnd p fe se te dr e)
    (hlt : se ≤ sent) (hs' : soundB p fe sent term dr = true) (h0' : 0 ≤ e') (h1' : e' ≤ term) (he' : IsEnd p fe sent term dr e') :
    Ev (fun k => stockyardref20_Renewed.f k p fe se te dr sent term) (if se + e > sent + e' then (p, fe, se, te, dr, 0) else (p, fe, sent, term, dr, 0)) := by
  simp only [stockyardref20_Renewed.f]
  rw [Ev.bind_iff (refsound_ev p fe se te dr hp), hs]
  have hd : ¬ (sent < se) := by omega
  simp only [if_true, hd, if_false]
  rw [Ev.bind_iff (refsound_ev p fe sent term dr hp), hs']
  refine Ev.succ ?_
  simp only [stockyardref20_Renewed.j0, Bool.not_true, Bool.false_eq_true, if_false]
  rw [Ev.bind_iff (refend_ev hp hs' h0' h1' he'), Ev.bind_iff (refend_ev hp hs h0 h1 he)]
  by_cases g : sent + e' ≥ se + e
  · have g2 : ¬ (se + e > sent + e') := by omega
    simp only [g, g2, if_true, if_false]
    exact Ev.now _
  · have g2 : se + e > sent + e' := by omega
    simp only [g, g2, if_true, if_false]
    exact Ev.now _
theorem refrenewed_no {p : ByteArray} {fe se te dr sent term : Int} (hp : p.size ≤ 1048576) (h : soundB p fe se te dr = false ∨ sent < se ∨ soundB p fe sent term dr = false) :
    Ev (fun k => stockyardref20_Renewed.f k p fe se te dr sent term) zeroC := by
  have out : ∀ a b c d e f g h i j, Ev (fun k => stockyardref20_Renewed.j0 k true a b c d e f g h i j) zeroC := by
    intro a b c d e f g h i j
    refine Ev.succ ?_
    simp only [stockyardref20_Renewed.j0, if_true]
    exact Ev.now _
  simp only [stockyardref20_Renewed.f]
  rw [Ev.bind_iff (refsound_ev p fe se te dr hp)]
  cases hs : soundB p fe se te dr
  · simp only [Bool.false_eq_true, if_false]
    exact out _ _ _ _ _ _ _ _ _ _
  · simp only [if_true]
    by_cases hlt : sent < se
    · simp only [hlt, if_true]
      exact out _ _ _ _ _ _ _ _ _ _
    · have hn : soundB p fe sent term dr = false := by
        rcases h with h | h | h
        · rw [hs] at h; cases h
        · exact absurd h hlt
        · exact h
      simp only [hlt, if_false]
      rw [Ev.bind_iff (refsound_ev p fe sent term dr hp), hn]
      exact out _ _ _ _ _ _ _ _ _ _
theorem renewed_both (p : ByteArray) (fe se te dr sent term : Int) (hp : p.size ≤ 1048576) : ∃ r, Ev (fun k => offline_Renewed.f k p fe se te dr sent term) r ∧ Ev (fun k => stockyardref20_Renewed.f k p fe se te dr sent term) r := by
  cases hs : soundB p fe se te dr
  · exact ⟨_, renewed_no hp (.inl hs), refrenewed_no hp (.inl hs)⟩
  · by_cases hlt : sent < se
    · exact ⟨_, renewed_no hp (.inr (.inl hlt)), refrenewed_no hp (.inr (.inl hlt))⟩
    · cases hs' : soundB p fe sent term dr
      · exact ⟨_, renewed_no hp (.inr (.inr hs')), refrenewed_no hp (.inr (.inr hs'))⟩
      · obtain ⟨e, h0, h1, he⟩ := exists_end hs
        obtain ⟨e', h0', h1', he'⟩ := exists_end hs'
        exact ⟨_, renewed_ev hp hs h0 h1 he (by omega) hs' h0' h1' he', refrenewed_ev hp hs h0 h1 he (by omega) hs' h0' h1' he'⟩
theorem Pure.OfflineRenews : St.OfflineRenews := by
  intro c sent term hc h1 h2
  obtain ⟨p, fe, se, te, dr⟩ := c
  refine Ev.rounds ?_
  have none_ : Ev (fun k => (stockyardlaw20_awake.f k).bind fun t => some t) true := by rw [Ev.bind_some]; exact awake20
  simp only [stockyardlaw20_OfflineRenews.f]
  by_cases hl : (p.size : Int) > 400
  · simp only [hl, if_true]
    exact none_
  · have hp : p.size ≤ 1048576 := by omega
    simp only [hl, if_false]
    obtain ⟨r, hr1, hr2⟩ := renewed_both p fe se te dr sent term hp
    rw [Ev.bind_iff hr1, Ev.bind_iff hr2]
    simp only [beq_self_eq_true, Bool.and_self, if_true]
    exact none_
end Go.Proofs.YtlljblcjjcinnaaDoor.P

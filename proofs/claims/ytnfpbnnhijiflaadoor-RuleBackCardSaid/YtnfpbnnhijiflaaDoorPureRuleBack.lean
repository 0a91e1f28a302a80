/-
  The pure statement of RuleBack. No project text.
-/
import Derived.Test.YtnfpbnnhijiflaaDoorStRuleBack
import Derived.Test.YtnfpbnnhijiflaaDoorRule
import Derived.Test.YtnfpbnnhijiflaaDoorPx12
import Derived.Test.YtnfpbnnhijiflaaDoorPx4
namespace Go.Proofs.YtnfpbnnhijiflaaDoor.P
open Go.RowKit Go.Proofs.YtnfpbnnhijiflaaDoorW.PrintWords Go.Proofs.YtnfpbnnhijiflaaDoor.Args
set_option linter.unusedVariables false
set_option linter.unusedSimpArgs false

theorem fwd_facts {p q : List Bs} {a b : Bool} {l : Bs} (hq : q.length ≤ 20) (hq2 : ∀ x ∈ q, x.length ≤ 300) (hl : l.length ≤ 300) (h : (forwardR p a q b l).2 = true) :
    (forwardR p a q b l).1.size ≤ 1000000 ∧ ∀ o, matchP q b (L (forwardR p a q b l).1) = some o → ∀ x ∈ o, x.length ≤ 1000 := by
  obtain ⟨h1, cs, h2, h3⟩ := forward_some h
  have hcs : ∀ x ∈ cs, x.length ≤ 300 := fun x hx => by have := match_sizes h2 x hx; omega
  refine ⟨?_, ?_⟩
  · have := fill_size (ps := q) (cs := cs) (rest := b) hq (fun x hx => by have := hq2 x hx; omega) (fun x hx => by have := hcs x hx; omega)
    rw [h3] at this
    exact this
  · intro o ho x hx
    rw [match_of_fill h3] at ho
    injection ho with ho
    subst ho
    have := hcs x hx
    omega
theorem Pure.RuleBack : St.RuleBack := by
  intro x s hx hs
  refine Ev.rounds ?_
  have none_ : Ev (fun k => (stockyardlaw04_awake.f k).bind fun t => some t) true := by rw [Ev.bind_some]; exact awake04
  obtain ⟨p, e, p1, p2⟩ := arg_parts hx.2.1.1
  obtain ⟨q, e', q1, q2⟩ := arg_parts hx.2.2.1
  simp only [stockyardlaw04_RuleBack.f, e, e']
  generalize x.f1.f1 = a
  generalize x.f2.f1 = b
  generalize x.f0 = z
  rw [Ev.bind_iff (fit_ev z p a q b p1 p2 q1 q2)]
  have far : ∀ (z a b : Bool) (u v : List ByteArray), Ev (fun k => stockyardlaw04_RuleBack.j0 k s true z u a v b) true := by
    intro z a b u v
    refine Ev.succ ?_
    simp only [stockyardlaw04_RuleBack.j0, if_true]
    exact none_
  by_cases hf : (small4B p && small4B q) = true
  · simp only [hf, if_true]
    by_cases hl : (s.size : Int) > 300
    · simp only [hl, decide_true]
      exact far _ _ _ _ _
    · simp only [hl, decide_false]
      rw [Bool.and_eq_true] at hf
      have h1 := small4_ok hf.1
      have h2 := small4_ok hf.2
      have hsz := size_eq s
      have hp2 : ∀ x ∈ p, x.length ≤ 1000 := fun x hx => by have := h1.2 x hx; omega
      have hq2 : ∀ x ∈ q, x.length ≤ 1000 := fun x hx => by have := h2.2 x hx; omega
      have hml : ∀ (u : List Bs) (c : Bool) (o : List Bs), matchP u c (L s) = some o → ∀ x ∈ o, x.length ≤ 1000 := fun u c o ho => match_size2 ho (by omega)
      have two : Ev (fun k => stockyardlaw04_RuleBack.j2 k s z (Ss p) a (Ss q) b) true := by
        refine Ev.succ ?_
        simp only [stockyardlaw04_RuleBack.j2]
        rw [Ev.bind_iff (backward_ev z p a q b s h1.1 hp2 h2.1 hq2 (by omega) (hml q b))]
        by_cases hok : (forwardR q b p a (L s)).2 = true
        · simp only [if_pos hok]
          have hff := fwd_facts (p := q) (q := p) (a := b) (b := a) h1.1 h1.2 (by omega) hok
          rw [Ev.bind_iff (forward_ev z p a q b _ h1.1 hp2 h2.1 hq2 hff.1 hff.2), forward_back hok]
          simp only [S_L, if_true]
          exact none_
        · simp only [if_neg hok]
          exact none_
      have one_ : Ev (fun k => stockyardlaw04_RuleBack.j1 k s (forwardR p a q b (L s)).1 (forwardR p a q b (L s)).2 false z (Ss p) a (Ss q) b) true := by
        refine Ev.succ ?_
        simp only [stockyardlaw04_RuleBack.j1, Bool.false_eq_true, if_false]
        by_cases hok : (forwardR p a q b (L s)).2 = true
        · simp only [if_pos hok]
          have hff := fwd_facts (p := p) (q := q) (a := a) (b := b) h2.1 h2.2 (by omega) hok
          rw [Ev.bind_iff (backward_ev z p a q b _ h1.1 hp2 h2.1 hq2 hff.1 hff.2), forward_back hok]
          simp only [S_L, if_true]
          exact two
        · simp only [if_neg hok]
          exact two
      refine Ev.succ ?_
      simp only [stockyardlaw04_RuleBack.j0, Bool.false_eq_true, if_false, turn_eq z p a q b (by omega) (by omega), Option.bind_some]
      rw [Ev.bind_iff (forward_ev z p a q b s h1.1 hp2 h2.1 hq2 (by omega) (hml p a)), Ev.bind_iff (backward_ev z q b p a s h2.1 hq2 h1.1 hp2 (by omega) (hml p a))]
      simp only [if_true, bne_self_eq_false, Bool.false_eq_true, if_false]
      rw [Ev.bind_iff (rulecheck_ev z p a q b h1.1 hp2 h2.1 hq2)]
      by_cases hr : ruleI p a q b = 0
      · simp only [if_pos hr]
        exact one_
      · simp only [if_neg hr]
        have hno : (forwardR p a q b (L s)).2 = false := by
          unfold forwardR
          rw [if_neg hr]
        have h3 := one_
        rw [hno] at h3 ⊢
        exact h3
  · simp only [hf, if_false, Bool.false_eq_true]
    exact far _ _ _ _ _
end Go.Proofs.YtnfpbnnhijiflaaDoor.P

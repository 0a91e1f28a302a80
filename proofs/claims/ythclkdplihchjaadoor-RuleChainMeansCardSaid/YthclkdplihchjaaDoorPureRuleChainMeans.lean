/-
  The pure statement of RuleChainMeans. No project text.
-/
import Derived.Test.YthclkdplihchjaaDoorStRuleChainMeans
import Derived.Test.YthclkdplihchjaaDoorNar3
import Derived.Test.YthclkdplihchjaaDoorPx25
import Derived.Test.YthclkdplihchjaaDoorPx4
namespace Go.Proofs.YthclkdplihchjaaDoor.P
open Go.RowKit Go.Proofs.YthclkdplihchjaaDoorW.PrintWords Go.Proofs.YthclkdplihchjaaDoor.Args
set_option linter.unusedVariables false
set_option linter.unusedSimpArgs false

theorem Pure.RuleChainMeans : St.RuleChainMeans := by
  intro x y s hx hy hs
  refine Ev.rounds ?_
  have none_ : Ev (fun k => (stockyardlaw04_awake.f k).bind fun t => some t) true := by rw [Ev.bind_some]; exact awake04
  obtain ⟨p, e1, p1, p2⟩ := arg_parts hx.2.1.1
  obtain ⟨q, e2, q1, q2⟩ := arg_parts hx.2.2.1
  obtain ⟨u, e3, u1, u2⟩ := arg_parts hy.2.1.1
  obtain ⟨v, e4, v1, v2⟩ := arg_parts hy.2.2.1
  simp only [stockyardlaw04_RuleChainMeans.f, e1, e2, e3, e4]
  clear e1 e2 e3 e4
  generalize x.f1.f1 = a
  generalize x.f2.f1 = b
  generalize x.f0 = z
  generalize y.f1.f1 = c
  generalize y.f2.f1 = d
  generalize y.f0 = z2
  have far : Ev (fun k => stockyardlaw04_RuleChainMeans.j0 k s true z (Ss p) a (Ss q) b z2 (Ss u) c (Ss v) d) true := by
    refine Ev.succ ?_
    simp only [stockyardlaw04_RuleChainMeans.j0, if_true]
    exact none_
  rw [Ev.bind_iff (fit_ev z p a q b p1 p2 q1 q2)]
  by_cases hf : (small4B p && small4B q) = true
  · simp only [hf, if_true]
    rw [Ev.bind_iff (fit_ev z2 u c v d u1 u2 v1 v2)]
    by_cases hf2 : (small4B u && small4B v) = true
    · simp only [hf2, if_true]
      by_cases hl : (s.size : Int) > 300
      · simp only [hl, decide_true]
        exact far
      · simp only [hl, decide_false]
        rw [Bool.and_eq_true] at hf hf2
        have g1 := small4_ok hf.1
        have g2 := small4_ok hf.2
        have g3 := small4_ok hf2.1
        have g4 := small4_ok hf2.2
        have hsz := size_eq s
        have n1 : len20 p 300 := g1
        have n2 : len20 q 300 := g2
        have n3 : len20 u 300 := g3
        have n4 : len20 v 300 := g4
        have wide : ∀ {w : List Bs} {m : Nat}, len20 w m → m ≤ 1000 → len20 w 1000 := fun h hm => ⟨h.1, fun x hx => by have := h.2 x hx; omega⟩
        refine Ev.succ ?_
        simp only [stockyardlaw04_RuleChainMeans.j0, Bool.false_eq_true, if_false]
        rw [Ev.bind_iff (chain_ev z p a q b z2 u c v d (wide n1 (by omega)) (wide n2 (by omega)) (wide n3 (by omega)) (wide n4 (by omega)))]
        rw [rulV_e]
        by_cases he : (chaO p a q b u c v d).2 = 0
        · simp only [he, if_true]
          -- both lines are lines
          have hr : ruleI p a q b = 0 ∧ ruleI u c v d = 0 := by
            cases hc : chaO p a q b u c v d with
            | mk o e =>
              rw [hc] at he
              simp only at he
              subst he
              cases o with
              | none => exact ⟨(cha_none hc).1, (cha_none hc).2.1⟩
              | some r =>
                obtain ⟨x1, f1, y1, g1⟩ := r
                exact ⟨(cha_some hc).1, (cha_some hc).2.1⟩
          rw [Ev.bind_iff (fwd_ev z s (wide n1 (by omega)) (wide n2 (by omega)) (by omega) hr.1)]
          -- what comes behind
          have last : ∀ (W : Option (List Bs)), W = (pathL (L s)).bind (fun ws => (mapW p a q ws).bind (mapW u c v)) →
              Ev (fun k => stockyardlaw04_RuleChainMeans.j1 k s (rulV (chaO p a q b u c v d)).2.2.2.2.2.1 (fwdV W).1 (fwdV W).2 (rulV (chaO p a q b u c v d)).1 (rulV (chaO p a q b u c v d)).2.1 (rulV (chaO p a q b u c v d)).2.2.1 (rulV (chaO p a q b u c v d)).2.2.2.1 (rulV (chaO p a q b u c v d)).2.2.2.2.1) true := by
            intro W hW
            refine Ev.succ ?_
            cases hc : chaO p a q b u c v d with
            | mk o e =>
              rw [hc] at he
              simp only at he
              subst he
              cases o with
              | none =>
                obtain ⟨_, _, h3⟩ := cha_none hc
                have hWn : W = none := by
                  rw [hW]
                  cases pathL (L s) with
                  | none => rfl
                  | some ws =>
                    simp only [Option.bind_some]
                    cases hw : mapW p a q ws with
                    | none => rfl
                    | some w1 =>
                      simp only [Option.bind_some]
                      cases hw2 : mapW u c v w1 with
                      | none => rfl
                      | some w2 =>
                        obtain ⟨k1, k2, k3, k4⟩ := ruleI_ok hr.1
                        obtain ⟨l1, l2, l3, l4⟩ := ruleI_ok hr.2
                        subst k4
                        have hq1 : (mat q a w1).isSome = true := by rw [← mapW_some (q := p), mapW_inv k3 hw]; rfl
                        have hp1 : (mat u c w1).isSome = true := by rw [← mapW_some (q := v), hw2]; rfl
                        obtain ⟨o', r', m1, _⟩ := (meetP_hit k2 l1 w1).1 ⟨mat_hit.1 hq1, mat_hit.1 hp1⟩
                        rw [h3] at m1
                        cases m1
                rw [hWn]
                simp only [rulV, stockyardlaw04_RuleChainMeans.j1, fwdV, Bool.false_eq_true, if_false]
                exact none_
              | some r =>
                obtain ⟨x1, f1, y1, g1⟩ := r
                obtain ⟨hr2, hw⟩ := cha_words hc
                have hlen := cha_len hc n1 n2 n3 n4
                have hW2 : fwdW x1 f1 y1 (L s) = W := by
                  rw [hW]
                  unfold fwdW
                  congr 1
                  funext ws
                  exact hw ws
                simp only [rulV, stockyardlaw04_RuleChainMeans.j1, if_true]
                rw [Ev.bind_iff (fwd_ev false s (wide hlen.1 (by omega)) (wide hlen.2 (by omega)) (by omega) hr2), hW2]
                simp only [if_true, beq_self_eq_true]
                exact none_
          have hfw := (forward_words hr.1 (L s)).2
          cases hw : fwdW p a q (L s) with
          | none =>
            have h0 := last none (by
              unfold fwdW at hw
              cases hp : pathL (L s) with
              | none => rfl
              | some ws =>
                rw [hp] at hw
                simp only [Option.bind_some] at hw ⊢
                rw [hw]
                rfl)
            simp only [fwdV, Bool.false_eq_true, if_false]
            exact h0
          | some w1 =>
            obtain ⟨c1, c2⟩ := hfw w1 hw
            have hne : w1 ≠ [] := by rintro rfl; simp at c2
            have hl1 := fwd_len hw hne
            have t2 := small4_total hf.2
            have hq20 := n2.1
            simp only [fwdV, if_true]
            rw [Ev.bind_iff (fwd_ev z2 (S (textL w1)) (wide n3 (by omega)) (wide n4 (by omega)) (by rw [L_S]; omega) hr.2)]
            have e5 : fwdW u c v (L (S (textL w1))) = mapW u c v w1 := by
              unfold fwdW
              rw [L_S, text_path (List.all_eq_true.2 c1) c2, Option.bind_some]
            rw [e5]
            exact last (mapW u c v w1) (by
              unfold fwdW at hw
              obtain ⟨ws, h1, h2⟩ := Option.bind_eq_some_iff.1 hw
              rw [h1, Option.bind_some, h2, Option.bind_some])
        · simp only [he, if_false]
          exact none_
    · simp only [hf2, if_false, Bool.false_eq_true]
      exact far
  · simp only [hf, if_false, Bool.false_eq_true]
    exact far
end Go.Proofs.YthclkdplihchjaaDoor.P

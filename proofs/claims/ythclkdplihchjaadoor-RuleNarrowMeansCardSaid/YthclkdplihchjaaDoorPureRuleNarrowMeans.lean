/-
  The pure statement of RuleNarrowMeans. No project text.
-/
import Derived.Test.YthclkdplihchjaaDoorStRuleNarrowMeans
import Derived.Test.YthclkdplihchjaaDoorNar2
import Derived.Test.YthclkdplihchjaaDoorPatMM
import Derived.Test.YthclkdplihchjaaDoorPx27
import Derived.Test.YthclkdplihchjaaDoorPx3
import Derived.Test.YthclkdplihchjaaDoorPx5
namespace Go.Proofs.YthclkdplihchjaaDoor.P
open Go.RowKit Go.Proofs.YthclkdplihchjaaDoorW.PrintWords Go.Proofs.YthclkdplihchjaaDoor.Args
set_option linter.unusedVariables false
set_option linter.unusedSimpArgs false

theorem has4_ev (c : List Bs) (cb : Bool) (s : ByteArray) (hc : len20 c 1000) (hs : s.size ≤ 1000000) (h : checkI c cb = 0) : Ev (fun k => stockyardlaw04_has.f k (Ss c) cb s) (hasB c cb (L s)) := by
  have hc1 := hc.1
  simp only [stockyardlaw04_has.f]
  rw [Ev.bind_iff (refmatch_ev c cb s (by omega) (fun x hx => by have := hc.2 x hx; omega) hs), ← match_has h]
  refine Ev.of_eq (Ev.now _) ?_
  cases matchP c cb (L s) <;> rfl
theorem Pure.RuleNarrowMeans : St.RuleNarrowMeans := by
  intro x y s hx hy hs
  refine Ev.rounds ?_
  have none_ : Ev (fun k => (stockyardlaw04_awake.f k).bind fun t => some t) true := by rw [Ev.bind_some]; exact awake04
  obtain ⟨p, e1, p1, p2⟩ := arg_parts hx.2.1.1
  obtain ⟨q, e2, q1, q2⟩ := arg_parts hx.2.2.1
  obtain ⟨u, e3, u1, u2⟩ := arg_parts hy.1
  simp only [stockyardlaw04_RuleNarrowMeans.f, e1, e2, e3]
  clear e1 e2 e3
  generalize x.f1.f1 = a
  generalize x.f2.f1 = b
  generalize x.f0 = z
  generalize y.f1 = c
  have far : Ev (fun k => stockyardlaw04_RuleNarrowMeans.j0 k s true z (Ss p) a (Ss q) b (Ss u) c) true := by
    refine Ev.succ ?_
    simp only [stockyardlaw04_RuleNarrowMeans.j0, if_true]
    exact none_
  rw [Ev.bind_iff (fit_ev z p a q b p1 p2 q1 q2)]
  by_cases hf : (small4B p && small4B q) = true
  · simp only [hf, if_true]
    rw [Ev.bind_iff (small4_ev u c u1 u2)]
    by_cases hf2 : small4B u = true
    · simp only [hf2, if_true]
      by_cases hl : (s.size : Int) > 300
      · simp only [hl, decide_true]
        exact far
      · simp only [hl, decide_false]
        rw [Bool.and_eq_true] at hf
        have hsz := size_eq s
        have n1 : len20 p 300 := small4_ok hf.1
        have n2 : len20 q 300 := small4_ok hf.2
        have n3 : len20 u 300 := small4_ok hf2
        have wide : ∀ {w : List Bs} {m : Nat}, len20 w m → m ≤ 1000 → len20 w 1000 := fun h hm => ⟨h.1, fun x hx => by have := h.2 x hx; omega⟩
        refine Ev.succ ?_
        simp only [stockyardlaw04_RuleNarrowMeans.j0, Bool.false_eq_true, if_false]
        rw [Ev.bind_iff (narrow_ev z p a q b u c (wide n1 (by omega)) (wide n2 (by omega)) (wide n3 (by omega)))]
        rw [rulV_e]
        by_cases he : (narO p a q b u c).2 = 0
        · simp only [he, if_true]
          have hr : ruleI p a q b = 0 ∧ checkI u c = 0 := by
            cases hc : narO p a q b u c with
            | mk o e =>
              rw [hc] at he
              simp only at he
              subst he
              cases o with
              | none => exact ⟨(nar_none hc).1, (nar_none hc).2.1⟩
              | some r =>
                obtain ⟨x1, f1, y1, g1⟩ := r
                exact ⟨(nar_some hc).1, (nar_some hc).2.1⟩
          rw [Ev.bind_iff (fwd_ev z s (wide n1 (by omega)) (wide n2 (by omega)) (by omega) hr.1)]
          have last : ∀ (W : Option (List Bs)), W = (pathL (L s)).bind (fun ws => if (mat u c ws).isSome = true then mapW p a q ws else none) →
              Ev (fun k => stockyardlaw04_RuleNarrowMeans.j2 k s (rulV (narO p a q b u c)).2.2.2.2.2.1 (fwdV W).1 (fwdV W).2 (rulV (narO p a q b u c)).1 (rulV (narO p a q b u c)).2.1 (rulV (narO p a q b u c)).2.2.1 (rulV (narO p a q b u c)).2.2.2.1 (rulV (narO p a q b u c)).2.2.2.2.1) true := by
            intro W hW
            refine Ev.succ ?_
            cases hc : narO p a q b u c with
            | mk o e =>
              rw [hc] at he
              simp only at he
              subst he
              cases o with
              | none =>
                obtain ⟨_, _, h3⟩ := nar_none hc
                have hWn : W = none := by
                  rw [hW]
                  cases pathL (L s) with
                  | none => rfl
                  | some ws =>
                    simp only [Option.bind_some]
                    by_cases hm : (mat u c ws).isSome = true
                    · rw [if_pos hm]
                      cases hw : mapW p a q ws with
                      | none => rfl
                      | some w1 =>
                        have hp1 : (mat p a ws).isSome = true := by rw [← mapW_some (q := q), hw]; rfl
                        obtain ⟨o', r', m1, _⟩ := (meetP_hit (ruleI_ok hr.1).1 hr.2 ws).1 ⟨mat_hit.1 hp1, mat_hit.1 hm⟩
                        rw [h3] at m1
                        cases m1
                    · rw [if_neg hm]
                rw [hWn]
                simp only [rulV, stockyardlaw04_RuleNarrowMeans.j2, fwdV, Bool.false_eq_true, if_false]
                exact none_
              | some r =>
                obtain ⟨x1, f1, y1, g1⟩ := r
                obtain ⟨hr2, hw⟩ := nar_words hc
                have hlen := nar_len hc n1 n2 n3
                have hW2 : fwdW x1 f1 y1 (L s) = W := by
                  rw [hW]
                  unfold fwdW
                  congr 1
                  funext ws
                  exact hw ws
                simp only [rulV, stockyardlaw04_RuleNarrowMeans.j2, if_true]
                rw [Ev.bind_iff (fwd_ev false s (wide hlen.1 (by omega)) (wide hlen.2 (by omega)) (by omega) hr2), hW2]
                simp only [if_true, beq_self_eq_true]
                exact none_
          -- the path, and whether it matches
          have e0 : (⟨#[]⟩ : ByteArray) = S [] := rfl
          have hno := last none
          cases hp : pathL (L s) with
          | none =>
            have h0 := hno (by rw [hp]; rfl)
            have hw : fwdW p a q (L s) = none := by unfold fwdW; rw [hp]; rfl
            rw [hw]
            simp only [fwdV, Bool.false_eq_true, if_false]
            refine Ev.succ ?_
            simp only [stockyardlaw04_RuleNarrowMeans.j1, Bool.false_eq_true, if_false, e0]
            exact h0
          | some ws =>
            have hfw : fwdW p a q (L s) = mapW p a q ws := by unfold fwdW; rw [hp]; rfl
            rw [hfw]
            cases hw : mapW p a q ws with
            | none =>
              have h0 := hno (by
                rw [hp]
                simp only [Option.bind_some, hw]
                split <;> rfl)
              simp only [fwdV, Bool.false_eq_true, if_false]
              refine Ev.succ ?_
              simp only [stockyardlaw04_RuleNarrowMeans.j1, Bool.false_eq_true, if_false, e0]
              exact h0
            | some w1 =>
              simp only [fwdV, if_true]
              rw [Ev.bind_iff (has4_ev u c s (wide n3 (by omega)) (by omega) hr.2)]
              have hh : hasB u c (L s) = (mat u c ws).isSome := by unfold hasB; rw [hp]; rfl
              rw [hh]
              by_cases hm : (mat u c ws).isSome = true
              · rw [hm]
                refine Ev.succ ?_
                simp only [stockyardlaw04_RuleNarrowMeans.j1, if_true]
                exact last (some w1) (by
                  rw [hp]
                  simp only [Option.bind_some, hm, if_true, hw])
              · have h0 := hno (by
                  rw [hp]
                  simp only [Option.bind_some, hm, if_false, Bool.false_eq_true])
                simp only [Bool.not_eq_true] at hm
                rw [hm]
                refine Ev.succ ?_
                simp only [stockyardlaw04_RuleNarrowMeans.j1, Bool.false_eq_true, if_false, e0]
                exact h0
        · simp only [he, if_false]
          exact none_
    · simp only [hf2, if_false, Bool.false_eq_true]
      exact far
  · simp only [hf, if_false, Bool.false_eq_true]
    exact far
end Go.Proofs.YthclkdplihchjaaDoor.P

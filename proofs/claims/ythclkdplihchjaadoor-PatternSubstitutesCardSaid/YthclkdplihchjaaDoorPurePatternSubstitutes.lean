/-
  The pure statement of PatternSubstitutes. No project text.
-/
import Derived.Test.YthclkdplihchjaaDoorStPatternSubstitutes
import Derived.Test.YthclkdplihchjaaDoorRSub
import Derived.Test.YthclkdplihchjaaDoorPatA
import Derived.Test.YthclkdplihchjaaDoorPatS
import Derived.Test.YthclkdplihchjaaDoorPx2
import Derived.Test.YthclkdplihchjaaDoorPx23
namespace Go.Proofs.YthclkdplihchjaaDoor.P
open Go.RowKit Go.Proofs.YthclkdplihchjaaDoorW.PrintWords Go.Proofs.YthclkdplihchjaaDoor.Args
set_option linter.unusedVariables false
set_option linter.unusedSimpArgs false

theorem Pure.PatternSubstitutes : St.PatternSubstitutes := by
  intro p xs hp hxs
  refine Ev.rounds ?_
  have none_ : Ev (fun k => (stockyardlaw03_awake.f k).bind fun t => some t) true := by rw [Ev.bind_some]; exact awake03
  obtain ⟨ps, e, h1, h2⟩ := arg_parts hp.1
  simp only [stockyardlaw03_PatternSubstitutes.f, e]
  have far : Ev (fun k => stockyardlaw03_PatternSubstitutes.j0 k xs true (Ss ps) p.f1) true := by
    refine Ev.succ ?_
    simp only [stockyardlaw03_PatternSubstitutes.j0, if_true]
    exact none_
  rw [Ev.bind_iff (small_ev ps _ h1 h2)]
  by_cases hsm : smallB ps = true
  · simp only [hsm, if_true]
    by_cases h20 : xs.length ≤ 20
    · have e20 : decide ((xs.length : Int) > 20) = false := by rw [decide_eq_false_iff_not]; omega
      rw [e20]
      have a1 := small_ok hsm
      have b1 : ∀ x ∈ ps, x.length ≤ 1048576 := fun x hx => by have := a1.2 x hx; omega
      -- the bindings as plain lists
      obtain ⟨l, el, hl⟩ : ∃ l : List (List Bs × Bool), xs = Bnd l ∧ ∀ x ∈ l, x.1.length ≤ 1125899906842624 ∧ ∀ y ∈ x.1, y.length ≤ 140737488351232 := by
        refine ⟨xs.map fun x => (x.f0.map L, x.f1), ?_, ?_⟩
        · unfold Bnd
          rw [List.map_map]
          have : ((fun x : List Bs × Bool => mkB x.1 x.2) ∘ fun x : S28 => (x.f0.map L, x.f1)) = id := by
            funext x
            simp [mkB, Ss_map_L]
          rw [this, List.map_id]
        · intro x hx
          obtain ⟨y, hy, rfl⟩ := List.mem_map.1 hx
          have hw := hxs.2 y hy
          obtain ⟨q, e1, e2, e3⟩ := arg_parts hw.1
          have e4 : y.f0.map L = q := by
            rw [e1]
            simp [Ss, Function.comp_def]
          simp only [e4]
          exact ⟨e2, e3⟩
      subst el
      rw [Bnd_length] at h20
      have loop : ∀ (d i : Nat), i + d = l.length → (∀ (j : Nat) (h : j < l.length), j < i → smallB l[j].1 = true) → Ev (fun k => stockyardlaw03_PatternSubstitutes.l0 k (Bnd l) (Bnd l) (l.length : Int) (i : Int) (Ss ps) p.f1) true := by
        intro d
        induction d with
        | zero =>
          intro i hi hsmall
          have hb : ∀ x ∈ l, x.1.length ≤ 1048576 ∧ ∀ y ∈ x.1, y.length ≤ 1048576 := by
            intro x hx
            obtain ⟨j, hj, rfl⟩ := List.getElem_of_mem hx
            have := small_ok (hsmall j hj (by omega))
            exact ⟨by omega, fun y hy => by have := this.2 y hy; omega⟩
          refine Ev.succ ?_
          have c1 : ¬ ((i : Int) < (l.length : Int)) := by omega
          simp only [stockyardlaw03_PatternSubstitutes.l0, if_neg c1]
          rw [Ev.bind_iff (sub_ev ps p.f1 l (by omega) b1 (by omega) hb), Ev.bind_iff (refsub_ev ps p.f1 l (by omega) b1 (by omega) hb)]
          simp only [if_true]
          have hlen : (subR ps p.f1 l).1.length ≤ 4611686018427387904 := by
            unfold subR
            split
            · split
              · split
                · unfold endS
                  split
                  · split
                    · simp
                    · simp only [Ss_length]
                      omega
                  · split
                    · simp
                    · simp only [Ss_length]
                      omega
                · simp
              · simp
            · simp
          rw [Ev.bind_iff (same3_ev _ _ _ _ hlen)]
          simp only [and_self, decide_true, if_true]
          exact none_
        | succ d ih =>
          intro i hi hsmall
          have hlt : i < l.length := by omega
          have hli := hl _ (List.getElem_mem hlt)
          refine Ev.succ ?_
          have c1 : (i : Int) < (l.length : Int) := by omega
          have c2 : (0 : Int) ≤ (i : Int) := by omega
          have e : wrap64 ((i : Int) + 1) = ((i + 1 : Nat) : Int) := by rw [wrap64_id (by omega) (by omega)]; omega
          simp only [stockyardlaw03_PatternSubstitutes.l0, Bnd_length, if_pos c1, if_pos c2, e]
          rw [rd_Bnd l i hlt]
          simp only [mkB]
          rw [Ev.bind_iff (small_ev _ _ hli.1 hli.2)]
          by_cases hs : smallB l[i].1 = true
          · simp only [hs, if_true]
            refine ih (i + 1) (by omega) (fun j hj hji => ?_)
            by_cases h : j = i
            · subst h
              exact hs
            · exact hsmall j hj (by omega)
          · simp only [hs, if_false, Bool.false_eq_true]
            exact none_
      refine Ev.succ ?_
      simp only [stockyardlaw03_PatternSubstitutes.j0, Bool.false_eq_true, if_false, Bnd_length]
      exact loop l.length 0 (by omega) (fun j hj h => absurd h (by omega))
    · have e20 : decide ((xs.length : Int) > 20) = true := by rw [decide_eq_true_eq]; omega
      rw [e20]
      exact far
  · simp only [hsm, if_false, Bool.false_eq_true]
    exact far
end Go.Proofs.YthclkdplihchjaaDoor.P

/-
  The pure statement of PatternNarrows. No project text.
-/
import Derived.Test.YthclkdplihchjaaDoorStPatternNarrows
import Derived.Test.YthclkdplihchjaaDoorNar0
import Derived.Test.YthclkdplihchjaaDoorBnd
import Derived.Test.YthclkdplihchjaaDoorBndA
import Derived.Test.YthclkdplihchjaaDoorPatA
import Derived.Test.YthclkdplihchjaaDoorPx2
import Derived.Test.YthclkdplihchjaaDoorPx24
namespace Go.Proofs.YthclkdplihchjaaDoor.P
open Go.RowKit Go.Proofs.YthclkdplihchjaaDoorW.PrintWords Go.Proofs.YthclkdplihchjaaDoor.Args
set_option linter.unusedVariables false
set_option linter.unusedSimpArgs false

theorem Pure.PatternNarrows : St.PatternNarrows := by
  intro p q xs hp hq hxs
  refine Ev.rounds ?_
  have none_ : Ev (fun k => (stockyardlaw03_awake.f k).bind fun t => some t) true := by rw [Ev.bind_some]; exact awake03
  obtain ⟨ps, e, h1, h2⟩ := arg_parts hp.1
  obtain ⟨qs, e', h3, h4⟩ := arg_parts hq.1
  obtain ⟨l, el, hl⟩ := arg_bnd hxs
  simp only [stockyardlaw03_PatternNarrows.f, e, e', el]
  clear hxs el hp hq e e'
  generalize p.f1 = b
  generalize q.f1 = b'
  have far : Ev (fun k => stockyardlaw03_PatternNarrows.j0 k (Bnd l) true (Ss ps) b (Ss qs) b') true := by
    refine Ev.succ ?_
    simp only [stockyardlaw03_PatternNarrows.j0, if_true]
    exact none_
  rw [Ev.bind_iff (small_ev ps _ h1 h2)]
  by_cases hsm : smallB ps = true
  · simp only [hsm, if_true]
    rw [Ev.bind_iff (small_ev qs _ h3 h4)]
    by_cases hsm2 : smallB qs = true
    · simp only [hsm2, if_true, Bnd_length]
      by_cases h20 : l.length ≤ 20
      · have e20 : decide ((l.length : Int) > 20) = false := by rw [decide_eq_false_iff_not]; omega
        rw [e20]
        have a1 := small_ok hsm
        have a2 := small_ok hsm2
        have b1 : ∀ x ∈ ps, x.length ≤ 1048576 := fun x hx => by have := a1.2 x hx; omega
        have b2 : ∀ x ∈ qs, x.length ≤ 1048576 := fun x hx => by have := a2.2 x hx; omega
        have same : ∀ (d i : Nat), i + d = l.length → (∀ x ∈ l, x.1.length ≤ 20) → Ev (fun k => stockyardlaw03_PatternNarrows.l1 k (Bnd l) (Bnd l) (l.length : Int) (i : Int)) true := by
          intro d
          induction d with
          | zero =>
            intro i hi _
            refine Ev.succ ?_
            have c1 : ¬ ((i : Int) < (l.length : Int)) := by omega
            simp only [stockyardlaw03_PatternNarrows.l1, if_neg c1]
            exact none_
          | succ d ih =>
            intro i hi hs
            have hlt : i < l.length := by omega
            refine Ev.succ ?_
            have c1 : (i : Int) < (l.length : Int) := by omega
            have c2 : (0 : Int) ≤ (i : Int) := by omega
            have e : wrap64 ((i : Int) + 1) = ((i + 1 : Nat) : Int) := by rw [wrap64_id (by omega) (by omega)]; omega
            simp only [stockyardlaw03_PatternNarrows.l1, Bnd_length, if_pos c1, if_pos c2, bne_self_eq_false, Bool.false_eq_true, if_false, e]
            rw [rd_Bnd l i hlt]
            have he := equal3_ev (Ss l[i].1) (Ss l[i].1) (by rw [Ss_length]; have := hs _ (List.getElem_mem hlt); omega)
            simp only [decide_true] at he
            simp only [mkB]
            rw [Ev.bind_iff he]
            simp only [if_true]
            exact ih (i + 1) (by omega) hs
        have two : (∀ x ∈ l, x.1.length ≤ 20 ∧ ∀ y ∈ x.1, y.length ≤ 400) → Ev (fun k => stockyardlaw03_PatternNarrows.j2 k (Bnd l) (Ss ps) b) true := by
          intro hs
          refine Ev.succ ?_
          simp only [stockyardlaw03_PatternNarrows.j2]
          rw [Ev.bind_iff (sub_ev ps b l (by omega) b1 (by omega) (fun x hx => ⟨by have := (hs x hx).1; omega, fun y hy => by have := (hs x hx).2 y hy; omega⟩))]
          cases h2 : sub2 ps b l with
          | none =>
            have := subR_none h2
            simp only [if_neg this]
            exact none_
          | some x =>
            obtain ⟨o, f⟩ := x
            have hsz := sub2_sizes 400 h2 a1.2 (fun x hx => (hs x hx).2)
            have hbs := bind_sub2 h2
            have b3 : ∀ x ∈ o, x.length ≤ 1048576 := fun x hx => by have := hsz.2 x hx; omega
            rw [subR_some h2]
            simp only [if_true]
            rw [Ev.bind_iff (bind_ev ps o b f (by omega) (by omega) b1 b3)]
            unfold bindV
            rw [if_pos hbs.1, hbs.2.1]
            simp only [if_true, Bnd_length]
            rw [Ev.bind_iff (within_ev o ps f b (by omega) (by omega) b3 b1), hbs.1]
            simp only [Bool.not_true]
            refine Ev.succ ?_
            simp only [stockyardlaw03_PatternNarrows.j3, Bool.false_eq_true, if_false, Bnd_length]
            exact same l.length 0 (by omega) (fun x hx => (hs x hx).1)
        have loop : ∀ (d i : Nat), i + d = l.length → (∀ (j : Nat) (h : j < l.length), j < i → smallB l[j].1 = true) → Ev (fun k => stockyardlaw03_PatternNarrows.l0 k (Bnd l) (Bnd l) (l.length : Int) (i : Int) (Ss ps) b (Ss qs) b') true := by
          intro d
          induction d with
          | zero =>
            intro i hi hsmall
            have hs : ∀ x ∈ l, x.1.length ≤ 20 ∧ ∀ y ∈ x.1, y.length ≤ 400 := by
              intro x hx
              obtain ⟨j, hj, rfl⟩ := List.getElem_of_mem hx
              exact small_ok (hsmall j hj (by omega))
            refine Ev.succ ?_
            have c1 : ¬ ((i : Int) < (l.length : Int)) := by omega
            simp only [stockyardlaw03_PatternNarrows.l0, if_neg c1]
            rw [Ev.bind_iff (bind_ev ps qs b b' (by omega) (by omega) b1 b2), Ev.bind_iff (within_ev qs ps b' b (by omega) (by omega) b2 b1)]
            unfold bindV
            by_cases hin : inP qs b' ps b = true
            · rw [if_pos hin, hin]
              simp only [bne_self_eq_false, Bool.false_eq_true, if_false, if_true]
              have hbz := bindP_sizes (ps := ps) (b := b) (b' := b') a2.2
              rw [Ev.bind_iff (sub_ev ps b (bindP ps b qs b') (by omega) b1 (by omega) (fun x hx => ⟨by have := (hbz.2 x hx).1; omega, fun y hy => by have := (hbz.2 x hx).2 y hy; omega⟩)), subR_some (sub2_bind hin)]
              simp only [if_true, bne_self_eq_false, Bool.false_eq_true, if_false]
              have he := equal3_ev (Ss qs) (Ss qs) (by rw [Ss_length]; omega)
              simp only [decide_true] at he
              rw [Ev.bind_iff he]
              simp only [if_true]
              exact two hs
            · rw [if_neg hin]
              simp only [Bool.not_eq_true] at hin
              rw [hin]
              simp only [bne_self_eq_false, Bool.false_eq_true, if_false]
              exact two hs
          | succ d ih =>
            intro i hi hsmall
            have hlt : i < l.length := by omega
            have hli := hl _ (List.getElem_mem hlt)
            refine Ev.succ ?_
            have c1 : (i : Int) < (l.length : Int) := by omega
            have c2 : (0 : Int) ≤ (i : Int) := by omega
            have e : wrap64 ((i : Int) + 1) = ((i + 1 : Nat) : Int) := by rw [wrap64_id (by omega) (by omega)]; omega
            simp only [stockyardlaw03_PatternNarrows.l0, Bnd_length, if_pos c1, if_pos c2, e]
            rw [rd_Bnd l i hlt]
            simp only [mkB]
            rw [Ev.bind_iff (small_ev _ _ hli.1 hli.2)]
            by_cases hs : smallB l[i].1 = true
            · simp only [hs, if_true]
              refine ih (i + 1) (by omega) (fun j hj hji => ?_)
              by_cases h : j = i
              · subst h
                exact hs
              · exact hsmall j hj (by omega)
            · simp only [hs, if_false, Bool.false_eq_true]
              exact none_
        refine Ev.succ ?_
        simp only [stockyardlaw03_PatternNarrows.j0, Bool.false_eq_true, if_false, Bnd_length]
        exact loop l.length 0 (by omega) (fun j hj h => absurd h (by omega))
      · have e20 : decide ((l.length : Int) > 20) = true := by rw [decide_eq_true_eq]; omega
        rw [e20]
        exact far
    · simp only [hsm2, if_false, Bool.false_eq_true]
      exact far
  · simp only [hsm, if_false, Bool.false_eq_true]
    exact far
end Go.Proofs.YthclkdplihchjaaDoor.P

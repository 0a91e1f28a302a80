/-
  The pure statement of RuleAssociates. No project text.
-/
import Derived.Test.YthclkdplihchjaaDoorStRuleAssociates
import Derived.Test.YthclkdplihchjaaDoorNar3
import Derived.Test.YthclkdplihchjaaDoorPatS
import Derived.Test.YthclkdplihchjaaDoorPx11
import Derived.Test.YthclkdplihchjaaDoorPx15
import Derived.Test.YthclkdplihchjaaDoorPx24
import Derived.Test.YthclkdplihchjaaDoorPx3
namespace Go.Proofs.YthclkdplihchjaaDoor.P
open Go.RowKit Go.Proofs.YthclkdplihchjaaDoorW.PrintWords Go.Proofs.YthclkdplihchjaaDoor.Args
set_option linter.unusedVariables false
set_option linter.unusedSimpArgs false

/-- What a line, or none, makes of a path's components. -/
def rulW (o : Option Rul) (ws : List Bs) : Option (List Bs) := o.bind fun r => mapW r.1 r.2.1 r.2.2.1 ws
def rulOk (o : Option Rul) : Prop := ∀ r, o = some r → ruleI r.1 r.2.1 r.2.2.1 r.2.2.2 = 0
theorem cha_rulW {p q p2 q2 : List Bs} {a b a2 b2 : Bool} {o : Option Rul} (h : chaO p a q b p2 a2 q2 b2 = (o, 0)) : rulOk o ∧ ∀ ws, rulW o ws = (mapW p a q ws).bind (mapW p2 a2 q2) := by
  cases o with
  | some r =>
    obtain ⟨x, f, y, g⟩ := r
    have hw := cha_words h
    exact ⟨(fun r hr => by
      injection hr with hr
      subst hr
      exact hw.1), hw.2⟩
  | none =>
    obtain ⟨h1, h2, h3⟩ := cha_none h
    refine ⟨(fun r hr => by cases hr), fun ws => ?_⟩
    show none = _
    cases hw : mapW p a q ws with
    | none => rfl
    | some w1 =>
      simp only [Option.bind_some]
      cases hw2 : mapW p2 a2 q2 w1 with
      | none => rfl
      | some w2 =>
        obtain ⟨k1, k2, k3, k4⟩ := ruleI_ok h1
        obtain ⟨l1, l2, l3, l4⟩ := ruleI_ok h2
        subst k4
        have hq1 : (mat q a w1).isSome = true := by rw [← mapW_some (q := p), mapW_inv k3 hw]; rfl
        have hp1 : (mat p2 a2 w1).isSome = true := by rw [← mapW_some (q := q2), hw2]; rfl
        obtain ⟨o', r', m1, _⟩ := (meetP_hit k2 l1 w1).1 ⟨mat_hit.1 hq1, mat_hit.1 hp1⟩
        rw [h3] at m1
        cases m1
theorem rul_same {o o' : Option Rul} (h1 : rulOk o) (h2 : rulOk o') (h : ∀ ws, rulW o ws = rulW o' ws) : o = o' := by
  have some_path : ∀ (r : Rul), ruleI r.1 r.2.1 r.2.2.1 r.2.2.2 = 0 → ∃ ws, (mapW r.1 r.2.1 r.2.2.1 ws).isSome = true := by
    intro r hr
    obtain ⟨k1, _, _, _⟩ := ruleI_ok hr
    refine ⟨witL r.1 [] (r.1.length + if r.2.1 = true then 1 else 0), ?_⟩
    rw [mapW_some]
    refine mat_hit.2 (wit_path k1 _ ?_).2
    cases r.2.1 <;> rfl
  cases o with
  | none =>
    cases o' with
    | none => rfl
    | some r =>
      obtain ⟨ws, hs⟩ := some_path r (h2 r rfl)
      have := h ws
      have e : rulW (some r) ws = mapW r.1 r.2.1 r.2.2.1 ws := rfl
      rw [e] at this
      rw [← this] at hs
      cases hs
  | some r =>
    cases o' with
    | none =>
      obtain ⟨ws, hs⟩ := some_path r (h1 r rfl)
      have := h ws
      have e : rulW (some r) ws = mapW r.1 r.2.1 r.2.2.1 ws := rfl
      rw [e] at this
      rw [this] at hs
      cases hs
    | some r' =>
      obtain ⟨x, f, y, g⟩ := r
      obtain ⟨x', f', y', g'⟩ := r'
      have hr : ruleI x f y g = 0 := h1 _ rfl
      have hr' : ruleI x' f' y' g' = 0 := h2 _ rfl
      have hm : ∀ ws, mapW x f y ws = mapW x' f' y' ws := h
      clear h
      obtain ⟨k1, k2, k3, k4⟩ := ruleI_ok hr
      obtain ⟨l1, l2, l3, l4⟩ := ruleI_ok hr'
      subst k4
      subst l4
      have left := same_of_hit k1 l1 (fun ws => by rw [← mat_hit, ← mat_hit, ← mapW_some (q := y), ← mapW_some (q := y'), hm ws])
      obtain ⟨rfl, rfl⟩ := left
      have img : ∀ (ps qs : List Bs) (w : List Bs), starsN ps = starsN qs → ((mat qs f w).isSome = true ↔ ∃ ws, mapW ps f qs ws = some w) := by
        intro ps qs w hs
        constructor
        · intro hm
          rw [← mapW_some (q := ps)] at hm
          obtain ⟨ws, hws⟩ := Option.isSome_iff_exists.1 hm
          exact ⟨ws, mapW_inv hs.symm hws⟩
        · rintro ⟨ws, hws⟩
          rw [← mapW_some (q := ps), mapW_inv hs hws]
          rfl
      have right := same_of_hit k2 l2 (fun ws => by
        rw [← mat_hit, ← mat_hit, img x y ws k3, img x y' ws l3]
        constructor
        · rintro ⟨v, hv⟩
          exact ⟨v, by rw [← hm v]; exact hv⟩
        · rintro ⟨v, hv⟩
          exact ⟨v, by rw [hm v]; exact hv⟩)
      obtain ⟨rfl, _⟩ := right
      rfl
theorem same4_ev (z : Bool) (p : List Bs) (a : Bool) (q : List Bs) (b : Bool) (hp : p.length ≤ 1000) (hq : q.length ≤ 1000) : Ev (fun k => stockyardref04_Same.f k z (Ss p) a (Ss q) b z (Ss p) a (Ss q) b) true := by
  simp only [stockyardref04_Same.f, beq_self_eq_true, if_true]
  rw [Ev.bind_iff (same3_ev _ _ _ _ (by rw [Ss_length]; omega))]
  simp only [and_self, decide_true, if_true]
  rw [Ev.bind_iff (same3_ev _ _ _ _ (by rw [Ss_length]; omega))]
  simp only [and_self, decide_true]
  exact Ev.now _
theorem Pure.RuleAssociates : St.RuleAssociates := by
  intro x y w hx hy hw
  refine Ev.rounds ?_
  have none_ : Ev (fun k => (stockyardlaw04_awake.f k).bind fun t => some t) true := by rw [Ev.bind_some]; exact awake04
  obtain ⟨p, e1, p1, p2⟩ := arg_parts hx.2.1.1
  obtain ⟨q, e2, q1, q2⟩ := arg_parts hx.2.2.1
  obtain ⟨u, e3, u1, u2⟩ := arg_parts hy.2.1.1
  obtain ⟨v, e4, v1, v2⟩ := arg_parts hy.2.2.1
  obtain ⟨m, e5, m1, m2⟩ := arg_parts hw.2.1.1
  obtain ⟨n, e6, n1, n2⟩ := arg_parts hw.2.2.1
  simp only [stockyardlaw04_RuleAssociates.f, e1, e2, e3, e4, e5, e6]
  clear e1 e2 e3 e4 e5 e6
  generalize x.f1.f1 = a
  generalize x.f2.f1 = b
  generalize x.f0 = z
  generalize y.f1.f1 = c
  generalize y.f2.f1 = d
  generalize y.f0 = z2
  generalize w.f1.f1 = i
  generalize w.f2.f1 = j
  generalize w.f0 = z3
  have far : Ev (fun k => stockyardlaw04_RuleAssociates.j0 k true z (Ss p) a (Ss q) b z2 (Ss u) c (Ss v) d z3 (Ss m) i (Ss n) j) true := by
    refine Ev.succ ?_
    simp only [stockyardlaw04_RuleAssociates.j0, if_true]
    exact none_
  rw [Ev.bind_iff (fit_ev z p a q b p1 p2 q1 q2)]
  by_cases hf : (small4B p && small4B q) = true
  · simp only [hf, if_true]
    rw [Ev.bind_iff (fit_ev z2 u c v d u1 u2 v1 v2)]
    by_cases hf2 : (small4B u && small4B v) = true
    · simp only [hf2, if_true]
      rw [Ev.bind_iff (fit_ev z3 m i n j m1 m2 n1 n2)]
      by_cases hf3 : (small4B m && small4B n) = true
      · simp only [hf3, Bool.not_true]
        rw [Bool.and_eq_true] at hf hf2 hf3
        have s1 : len20 p 300 := small4_ok hf.1
        have s2 : len20 q 300 := small4_ok hf.2
        have s3 : len20 u 300 := small4_ok hf2.1
        have s4 : len20 v 300 := small4_ok hf2.2
        have s5 : len20 m 300 := small4_ok hf3.1
        have s6 : len20 n 300 := small4_ok hf3.2
        have wide : ∀ {w : List Bs} {k : Nat}, len20 w k → k ≤ 1000 → len20 w 1000 := fun h hm => ⟨h.1, fun x hx => by have := h.2 x hx; omega⟩
        -- the last test
        have j4 : ∀ (o o' : Option Rul) (t : Bool), (∀ r, o = some r → r.1.length ≤ 1000 ∧ r.2.2.1.length ≤ 1000) → (t = false → o = o') →
            Ev (fun k => stockyardlaw04_RuleAssociates.j4 k (rulV (o, 0)).2.2.2.2.2.1 (rulV (o', 0)).2.2.2.2.2.1 t (rulV (o, 0)).1 (rulV (o, 0)).2.1 (rulV (o, 0)).2.2.1 (rulV (o, 0)).2.2.2.1 (rulV (o, 0)).2.2.2.2.1 (rulV (o', 0)).1 (rulV (o', 0)).2.1 (rulV (o', 0)).2.2.1 (rulV (o', 0)).2.2.2.1 (rulV (o', 0)).2.2.2.2.1) true := by
          intro o o' t hlen hsame
          refine Ev.succ ?_
          cases t with
          | true =>
            simp only [stockyardlaw04_RuleAssociates.j4, if_true]
            exact none_
          | false =>
            have := hsame rfl
            subst this
            simp only [stockyardlaw04_RuleAssociates.j4, Bool.false_eq_true, if_false, beq_self_eq_true, if_true]
            have hs : Ev (fun k => stockyardref04_Same.f k (rulV (o, 0)).1 (rulV (o, 0)).2.1 (rulV (o, 0)).2.2.1 (rulV (o, 0)).2.2.2.1 (rulV (o, 0)).2.2.2.2.1 (rulV (o, 0)).1 (rulV (o, 0)).2.1 (rulV (o, 0)).2.2.1 (rulV (o, 0)).2.2.2.1 (rulV (o, 0)).2.2.2.2.1) true := by
              cases o with
              | none => exact same4_ev false [] false [] false (by simp) (by simp)
              | some r =>
                obtain ⟨x1, f1, y1, g1⟩ := r
                have := hlen _ rfl
                exact same4_ev false x1 f1 y1 g1 this.1 this.2
            rw [Ev.bind_iff hs]
            simp only [if_true]
            exact none_
        have rul_pad : ∀ (x : Option Rul × Int), rulV x = ((rulV (x.1, 0)).1, (rulV (x.1, 0)).2.1, (rulV (x.1, 0)).2.2.1, (rulV (x.1, 0)).2.2.2.1, (rulV (x.1, 0)).2.2.2.2.1, (rulV (x.1, 0)).2.2.2.2.2.1, x.2) := by
          intro x
          obtain ⟨o, e⟩ := x
          cases o <;> rfl
        -- the four compositions
        generalize hX : chaO p a q b u c v d = X
        generalize hY : chaO u c v d m i n j = Y
        obtain ⟨xo, xe⟩ := X
        obtain ⟨yo, ye⟩ := Y
        have j3 : ∀ (A B : Option Rul × Int), (∀ r, A.1 = some r → r.1.length ≤ 1000 ∧ r.2.2.1.length ≤ 1000) → (A.2 = 0 → B.2 = 0 → A.1 = B.1) →
            Ev (fun k => stockyardlaw04_RuleAssociates.j3 k A.2 B.2 (rulV A).2.2.2.2.2.1 (rulV B).2.2.2.2.2.1 (rulV A).1 (rulV A).2.1 (rulV A).2.2.1 (rulV A).2.2.2.1 (rulV A).2.2.2.2.1 (rulV B).1 (rulV B).2.1 (rulV B).2.2.1 (rulV B).2.2.2.1 (rulV B).2.2.2.2.1) true := by
          intro A B hlen hsame
          refine Ev.succ ?_
          rw [rul_pad A, rul_pad B]
          simp only [stockyardlaw04_RuleAssociates.j3]
          by_cases hA : A.2 = 0
          · simp only [hA, if_true]
            refine j4 A.1 B.1 _ hlen (fun ht => hsame hA ?_)
            simpa using ht
          · simp only [hA, if_false]
            exact j4 A.1 B.1 true hlen (fun ht => by cases ht)
        refine Ev.succ ?_
        simp only [stockyardlaw04_RuleAssociates.j0, Bool.false_eq_true, if_false]
        rw [Ev.bind_iff (chain_ev z p a q b z2 u c v d (wide s1 (by omega)) (wide s2 (by omega)) (wide s3 (by omega)) (wide s4 (by omega))), hX]
        rw [Ev.bind_iff (chain_ev z2 u c v d z3 m i n j (wide s3 (by omega)) (wide s4 (by omega)) (wide s5 (by omega)) (wide s6 (by omega))), hY]
        simp only [rulV_e]
        have out : ∀ {A B : Prop} (t : Bool) {args : Nat → Option Bool}, True := fun _ => trivial
        by_cases hxe : xe = 0
        · simp only [hxe, if_true]
          by_cases hye : ye = 0
          · have et : (ye != 0) = false := by rw [hye]; rfl
            rw [et]
            subst hxe
            subst hye
            have wX := cha_rulW hX
            have wY := cha_rulW hY
            -- the left one
            generalize hA : (match xo with | some r => chaO r.1 r.2.1 r.2.2.1 r.2.2.2 m i n j | none => (none, 0)) = A
            generalize hB : (match yo with | some r => chaO p a q b r.1 r.2.1 r.2.2.1 r.2.2.2 | none => (none, 0)) = B
            have lenX : ∀ r, xo = some r → len20 r.1 600 ∧ len20 r.2.2.1 600 := by
              intro r hr
              subst hr
              exact cha_len hX s1 s2 s3 s4
            have lenY : ∀ r, yo = some r → len20 r.1 600 ∧ len20 r.2.2.1 600 := by
              intro r hr
              subst hr
              exact cha_len hY s3 s4 s5 s6
            have lenA : ∀ r, A.1 = some r → r.1.length ≤ 1000 ∧ r.2.2.1.length ≤ 1000 := by
              intro r hr
              cases xo with
              | none =>
                rw [← hA] at hr
                cases hr
              | some x1 =>
                obtain ⟨x2, f2, y2, g2⟩ := r
                have l1 := lenX x1 rfl
                have w600 : ∀ {w : List Bs}, len20 w 300 → len20 w 600 := fun h => ⟨h.1, fun x hx => by have := h.2 x hx; omega⟩
                have hA2 : chaO x1.1 x1.2.1 x1.2.2.1 x1.2.2.2 m i n j = (some (x2, f2, y2, g2), A.2) := by
                  rw [← hr]
                  exact hA
                have := cha_len hA2 l1.1 l1.2 (w600 s5) (w600 s6)
                exact ⟨(show x2.length ≤ 1000 by have := this.1.1; omega), (show y2.length ≤ 1000 by have := this.2.1; omega)⟩
            have wA : A.2 = 0 → rulOk A.1 ∧ ∀ ws, rulW A.1 ws = ((mapW p a q ws).bind (mapW u c v)).bind (mapW m i n) := by
              intro h0
              cases xo with
              | none =>
                rw [← hA]
                refine ⟨fun r hr => (by cases hr), fun ws => ?_⟩
                rw [← wX.2 ws]
                rfl
              | some r =>
                have hA2 : chaO r.1 r.2.1 r.2.2.1 r.2.2.2 m i n j = (A.1, 0) := by
                  rw [← h0]
                  exact hA
                have := cha_rulW hA2
                refine ⟨this.1, fun ws => ?_⟩
                rw [this.2 ws, ← wX.2 ws]
                rfl
            have wB : B.2 = 0 → rulOk B.1 ∧ ∀ ws, rulW B.1 ws = ((mapW p a q ws).bind (mapW u c v)).bind (mapW m i n) := by
              intro h0
              have asc : ∀ ws, ((mapW p a q ws).bind (mapW u c v)).bind (mapW m i n) = (mapW p a q ws).bind (rulW yo) := by
                intro ws
                rw [Option.bind_assoc]
                congr 1
                funext w1
                exact (wY.2 w1).symm
              cases yo with
              | none =>
                rw [← hB]
                refine ⟨fun r hr => (by cases hr), fun ws => ?_⟩
                rw [asc ws]
                cases mapW p a q ws <;> rfl
              | some r =>
                have hB2 : chaO p a q b r.1 r.2.1 r.2.2.1 r.2.2.2 = (B.1, 0) := by
                  rw [← h0]
                  exact hB
                have := cha_rulW hB2
                refine ⟨this.1, fun ws => ?_⟩
                rw [this.2 ws, asc ws]
                rfl
            have h3 := j3 A B lenA (fun h0 h1 => rul_same (wA h0).1 (wB h1).1 (fun ws => by rw [(wA h0).2 ws, (wB h1).2 ws]))
            -- the second composition
            have two : Ev (fun k => stockyardlaw04_RuleAssociates.j2 k A.2 (rulV (yo, 0)).2.2.2.2.2.1 0 (rulV A).2.2.2.2.2.1 false z (Ss p) a (Ss q) b (rulV (yo, 0)).1 (rulV (yo, 0)).2.1 (rulV (yo, 0)).2.2.1 (rulV (yo, 0)).2.2.2.1 (rulV (yo, 0)).2.2.2.2.1 (rulV A).1 (rulV A).2.1 (rulV A).2.2.1 (rulV A).2.2.2.1 (rulV A).2.2.2.2.1 false false false) true := by
              refine Ev.succ ?_
              cases yo with
              | none =>
                rw [← hB] at h3
                simp only [stockyardlaw04_RuleAssociates.j2, rulV, Bool.false_eq_true, if_false]
                exact h3
              | some r =>
                obtain ⟨x2, f2, y2, g2⟩ := r
                have l1 := lenY _ rfl
                simp only [stockyardlaw04_RuleAssociates.j2, rulV, if_true]
                rw [Ev.bind_iff (chain_ev z p a q b false x2 f2 y2 g2 (wide s1 (by omega)) (wide s2 (by omega)) (wide l1.1 (by omega)) (wide l1.2 (by omega)))]
                have hB2 : chaO p a q b x2 f2 y2 g2 = B := hB
                rw [hB2, rulV_e]
                exact h3
            refine Ev.succ ?_
            cases xo with
            | none =>
              rw [← hA] at two
              simp only [stockyardlaw04_RuleAssociates.j1, Bool.false_eq_true, if_false]
              exact two
            | some r =>
              obtain ⟨x2, f2, y2, g2⟩ := r
              have l1 := lenX _ rfl
              have hA2 : chaO x2 f2 y2 g2 m i n j = A := hA
              simp only [stockyardlaw04_RuleAssociates.j1, Bool.false_eq_true, if_false]
              have hch := chain_ev false x2 f2 y2 g2 z3 m i n j (wide l1.1 (by omega)) (wide l1.2 (by omega)) (wide s5 (by omega)) (wide s6 (by omega))
              rw [hA2] at hch
              show Ev (fun k => if true = true then _ else _) true
              simp only [if_true]
              rw [Ev.bind_iff (show Ev (fun k => rule_Chain.f k (rulV (some (x2, f2, y2, g2), 0)).1 (rulV (some (x2, f2, y2, g2), 0)).2.1 (rulV (some (x2, f2, y2, g2), 0)).2.2.1 (rulV (some (x2, f2, y2, g2), 0)).2.2.2.1 (rulV (some (x2, f2, y2, g2), 0)).2.2.2.2.1 z3 (Ss m) i (Ss n) j) (rulV A) from hch), rulV_e]
              exact two
          · have et : (ye != 0) = true := by rw [bne_iff_ne]; exact hye
            rw [et]
            refine Ev.succ ?_
            simp only [stockyardlaw04_RuleAssociates.j1, if_true]
            exact none_
        · simp only [hxe, if_false]
          refine Ev.succ ?_
          simp only [stockyardlaw04_RuleAssociates.j1, if_true]
          exact none_
      · simp only [Bool.not_eq_true] at hf3
        simp only [hf3, Bool.not_false]
        exact far
    · simp only [hf2, if_false, Bool.false_eq_true]
      exact far
  · simp only [hf, if_false, Bool.false_eq_true]
    exact far
end Go.Proofs.YthclkdplihchjaaDoor.P

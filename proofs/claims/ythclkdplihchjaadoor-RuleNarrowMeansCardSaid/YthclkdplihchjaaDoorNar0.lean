/-
  Layer 3: Substitute undoes Bind, and Bind Substitute. Plain lists; no printed function.
-/
import Derived.Test.YthclkdplihchjaaDoorSubO
namespace Go.Proofs.YthclkdplihchjaaDoor.P
open Go.RowKit Go.Proofs.YthclkdplihchjaaDoorW.PrintWords Go.Proofs.YthclkdplihchjaaDoor.Args
set_option linter.unusedVariables false
set_option linter.unusedSimpArgs false

theorem fitL_append : ∀ (ls : List (List Bs × Bool)) (n : Nat) (t : List (List Bs × Bool)), ls.length = n → fitL n (ls ++ t) = (ls.all (okB false) && fitL 0 t)
  | [], n, t, h => by
    obtain rfl : n = 0 := h.symm
    simp
  | x :: ls, n, t, h => by
    obtain ⟨m, rfl⟩ : ∃ m, n = m + 1 := ⟨ls.length, by simpa using h.symm⟩
    have ih := fitL_append ls m t (by simpa using h)
    simp only [List.cons_append, fitL, ih, List.all_cons, Bool.and_assoc]
theorem star_mk {s : Bs} (h : s.all okU = true) : starL (42 :: s) = some s := by
  unfold starL
  exact if_pos ⟨rfl, h⟩
/-- A part with a suffix behind it. -/
theorem part_app {y s : Bs} (hy : partB y = true) (hs : s.all okU = true) : (∃ t, starL y = some t ∧ starL (y ++ s) = some (t ++ s)) ∨ (starL y = none ∧ compL y = true ∧ compL (y ++ s) = true ∧ starL (y ++ s) = none) := by
  rcases part_cases hy with ⟨h1, h2⟩ | ⟨t, h1, h2, h3⟩
  · refine .inr ⟨h1, h2, ?_⟩
    have hc : compL (y ++ s) = true := by
      cases y with
      | nil => cases h2
      | cons c r =>
        simp only [compL, Bool.and_eq_true, List.all_cons] at h2
        simp only [List.cons_append, compL, Bool.and_eq_true, List.all_cons, List.all_append]
        exact ⟨h2.1, h2.2.1, h2.2.2, hs⟩
    exact ⟨hc, comp_star hc⟩
  · refine .inl ⟨t, h1, ?_⟩
    rw [h2, List.cons_append]
    exact star_mk (by rw [List.all_append, h3, hs]; rfl)
theorem part_ne {y : Bs} (hy : partB y = true) : y ≠ [] := by
  rintro rfl
  cases hy
theorem star_all {p s : Bs} (h : starL p = some s) : s.all okU = true := by
  cases p with
  | nil => cases h
  | cons c r =>
    unfold starL at h
    dsimp only at h
    split at h
    · rename_i hh
      injection h with h
      rw [← h]
      exact hh.2
    · cases h
theorem partB_star {p s : Bs} (h : starL p = some s) : partB p = true := by unfold partB; rw [h]; rfl
theorem okB_one {x : List Bs × Bool} (h : okB false x = true) : ∃ y, x = ([y], false) ∧ partB y = true := by
  obtain ⟨l, f⟩ := x
  simp only [okB, Bool.false_eq_true, if_false, Bool.and_eq_true, decide_eq_true_eq, Bool.not_eq_true'] at h
  obtain ⟨y, rfl⟩ := List.length_eq_one_iff.1 h.2.1
  refine ⟨y, by rw [h.2.2], ?_⟩
  simpa using h.1
theorem inB_cut {q p s : Bs} (hq : partB q = true) (hp : starL p = some s) (h : inB q p = true) : partB (q.take (q.length - s.length)) = true ∧ q.take (q.length - s.length) ++ s = q := by
  unfold inB at h
  rw [hp] at h
  dsimp only at h
  rcases part_cases hq with ⟨h1, h2⟩ | ⟨t, h1, h2, h3⟩
  · rw [h1] at h
    dsimp only at h
    obtain ⟨h4, h5⟩ := cap_iff.1 h
    obtain ⟨u, rfl⟩ := suffix_iff.1 h5
    have e : (u ++ s).length - s.length = u.length := by simp
    rw [e]
    refine ⟨?_, by rw [List.take_left]⟩
    unfold partB
    rw [comp_take h2]
    have : 0 < u.length := by simp at h4; exact h4
    simp [this]
  · rw [h1] at h
    dsimp only at h
    obtain ⟨u, rfl⟩ := suffix_iff.1 h
    have e : q.length - s.length = (42 :: u).length := by rw [h2, List.length_cons, List.length_append, List.length_cons]; omega
    have e2 : q = (42 :: u) ++ s := by rw [h2]; rfl
    have e3 : q.take (q.length - s.length) = 42 :: u := by
      rw [e, e2, List.take_left]
    rw [e3]
    rw [List.all_append, Bool.and_eq_true] at h3
    exact ⟨partB_star (star_mk h3.1), e2.symm⟩
/-- Bindings of a narrower pattern, put in again. -/
theorem bind_subL : ∀ (ps qs : List Bs) (t : List (List Bs × Bool)), ps.length ≤ qs.length → (∀ i (h : i < ps.length) (h' : i < qs.length), inB qs[i] ps[i] = true) → (∀ x ∈ qs, partB x = true) →
    (bindL ps qs).length = starsN ps ∧ (bindL ps qs).all (okB false) = true ∧ subL ps (bindL ps qs ++ t) = (qs.take ps.length, t)
  | [], qs, t, _, _, _ => by simp [bindL, subL, starsN]
  | _ :: _, [], t, h, _, _ => by simp at h
  | p :: ps, q :: qs, t, hl, hin, hq => by
    have ih := bind_subL ps qs t (by simpa using hl) (fun i h h' => hin (i + 1) (Nat.succ_lt_succ h) (Nat.succ_lt_succ h')) (fun x hx => hq x (List.mem_cons_of_mem _ hx))
    have h0 := hin 0 (by simp) (by simp)
    simp only [List.getElem_cons_zero] at h0
    simp only [bindL, subL, starsN_cons]
    cases hs : starL p with
    | none =>
      have e : q = p := by
        unfold inB at h0
        rw [hs] at h0
        simpa using h0
      simp only [Option.isSome_none, Bool.false_eq_true, if_false, Nat.add_zero]
      refine ⟨ih.1, ih.2.1, ?_⟩
      rw [ih.2.2, e]
      simp
    | some s =>
      obtain ⟨h1, h2⟩ := inB_cut (hq q (by simp)) hs h0
      simp only [Option.isSome_some, if_true, List.length_cons, List.all_cons, Bool.and_eq_true]
      refine ⟨by rw [ih.1], ⟨?_, ih.2.1⟩, ?_⟩
      · simp [okB, h1]
      · rw [List.cons_append]
        simp only [List.headD_cons, h2]
        rw [ih.2.2]
        simp
theorem sub2_bind {ps qs : List Bs} {b b' : Bool} (h : inP qs b' ps b = true) : sub2 ps b (bindP ps b qs b') = some (qs, b') := by
  have hh := inP_iff.1 h
  obtain ⟨hq, hp, hl, hlt, heq, hin⟩ := hh
  have cq := check_ok hq
  have hb := bind_subL ps qs (if b = true then [(qs.drop ps.length, b')] else []) hl (fun i h1 h2 => hin i h1 h2) cq.2.2.1
  have e : subOut ps b (bindP ps b qs b') = (qs, b') := by
    unfold subOut bindP
    rw [hb.2.2]
    cases b
    · have : ps.length = qs.length := by
        by_cases h1 : ps.length < qs.length
        · exact absurd (hlt h1) (by decide)
        · omega
      have e2 : b' = false := heq this.symm
      simp [this, e2]
    · simp
  unfold sub2
  rw [if_pos, e]
  refine ⟨hp, ?_, ?_, ?_⟩
  · unfold bindP
    rw [List.length_append, hb.1]
    cases b <;> simp [oneN]
  · unfold bindP
    rw [fitL_append _ _ _ hb.1, hb.2.1, Bool.true_and]
    cases b
    · rfl
    · simp only [if_true, fitL, List.all_nil, Bool.and_true, okB, Bool.and_eq_true]
      refine ⟨List.all_eq_true.2 fun x hx => cq.2.2.1 x (List.mem_of_mem_drop hx), ?_⟩
      by_cases h1 : ps.length < qs.length
      · rw [Bool.or_eq_true]
        right
        rw [decide_eq_true_eq, List.length_drop]
        omega
      · rw [heq (by omega)]
        simp
  · rw [e]
    exact cq.2.1
/-- The parts that the bindings put in. -/
def ysL (ls : List (List Bs × Bool)) : List Bs := ls.map fun x => x.1.headD []
theorem sub_bindL : ∀ (ps : List Bs) (ls t : List (List Bs × Bool)) (r : List Bs), ls.length = starsN ps → ls.all (okB false) = true → (∀ x ∈ ps, partB x = true) →
    (subL ps (ls ++ t)).1.length = ps.length ∧ (subL ps (ls ++ t)).2 = t ∧ (∀ x ∈ (subL ps (ls ++ t)).1, partB x = true) ∧ (∀ i (h : i < ps.length) (h' : i < (subL ps (ls ++ t)).1.length), inB (subL ps (ls ++ t)).1[i] ps[i] = true) ∧
      bindL ps ((subL ps (ls ++ t)).1 ++ r) = ls ∧ starsN (subL ps (ls ++ t)).1 = starsN (ysL ls)
  | [], ls, t, r, hl, _, _ => by
    obtain rfl := List.eq_nil_of_length_eq_zero (show ls.length = 0 from hl)
    simp [subL, bindL, starsN, ysL]
  | p :: ps, ls, t, r, hl, hf, hp => by
    rw [starsN_cons] at hl
    cases hs : starL p with
    | none =>
      rw [hs] at hl
      simp only [Option.isSome_none, Bool.false_eq_true, if_false, Nat.add_zero] at hl
      obtain ⟨i1, i2, i3, i4, i5, i6⟩ := sub_bindL ps ls t r hl hf (fun x hx => hp x (List.mem_cons_of_mem _ hx))
      have e : subL (p :: ps) (ls ++ t) = (p :: (subL ps (ls ++ t)).1, (subL ps (ls ++ t)).2) := by simp only [subL, hs]
      rw [e]
      refine ⟨by simp [i1], i2, ?_, ?_, ?_, ?_⟩
      · intro x hx
        rcases List.mem_cons.1 hx with rfl | hx
        · exact hp _ (by simp)
        · exact i3 x hx
      · intro i h h'
        cases i with
        | zero => simp [inB, hs]
        | succ i => exact i4 i (Nat.lt_of_succ_lt_succ h) (Nat.lt_of_succ_lt_succ h')
      · simp only [List.cons_append, bindL, hs]
        exact i5
      · rw [starsN_cons, hs, i6]
        simp
    | some s =>
      rw [hs] at hl
      simp only [Option.isSome_some, if_true] at hl
      cases ls with
      | nil => simp at hl
      | cons x ls =>
        simp only [List.all_cons, Bool.and_eq_true] at hf
        obtain ⟨y, rfl, hy⟩ := okB_one hf.1
        have hsa := star_all hs
        obtain ⟨i1, i2, i3, i4, i5, i6⟩ := sub_bindL ps ls t r (by simpa using hl) hf.2 (fun x hx => hp x (List.mem_cons_of_mem _ hx))
        have e : subL (p :: ps) (([y], false) :: ls ++ t) = ((y ++ s) :: (subL ps (ls ++ t)).1, (subL ps (ls ++ t)).2) := by simp only [subL, hs, List.cons_append, List.headD_cons]
        rw [e]
        have hpart : partB (y ++ s) = true := by
          rcases part_app hy hsa with ⟨t', _, h2⟩ | ⟨_, _, h3, _⟩
          · exact partB_star h2
          · unfold partB
            rw [h3, Bool.or_true]
        refine ⟨by simp [i1], i2, ?_, ?_, ?_, ?_⟩
        · intro x hx
          rcases List.mem_cons.1 hx with rfl | hx
          · exact hpart
          · exact i3 x hx
        · intro i h h'
          cases i with
          | zero =>
            simp only [List.getElem_cons_zero]
            unfold inB
            rw [hs]
            dsimp only
            rcases part_app hy hsa with ⟨t', _, h2⟩ | ⟨_, _, _, h4⟩
            · rw [h2]
              exact suffix_iff.2 ⟨t', rfl⟩
            · rw [h4]
              dsimp only
              rw [cap_iff]
              have := List.length_pos_iff.2 (part_ne hy)
              exact ⟨by simp; omega, suffix_iff.2 ⟨y, rfl⟩⟩
          | succ i => exact i4 i (Nat.lt_of_succ_lt_succ h) (Nat.lt_of_succ_lt_succ h')
        · simp only [List.cons_append, bindL, hs]
          rw [i5]
          simp
        · rw [starsN_cons, i6]
          simp only [ysL, List.map_cons, List.headD_cons, starsN_cons]
          rcases part_app hy hsa with ⟨t', h1, h2⟩ | ⟨h1, _, _, h4⟩
          · rw [h1, h2]
            rfl
          · rw [h1, h4]
/-- Bindings that fit, as those of the parts and that of the rest. -/
theorem sub2_parts {ps : List Bs} {b : Bool} {l : List (List Bs × Bool)} {o : List Bs} {f : Bool} (h : sub2 ps b l = some (o, f)) :
    ∃ (ls : List (List Bs × Bool)) (rp : List Bs), l = ls ++ (if b = true then [(rp, f)] else []) ∧ ls.length = starsN ps ∧ ls.all (okB false) = true ∧ (∀ x ∈ rp, partB x = true) ∧ (b = false → rp = [] ∧ f = false) ∧ (b = true → f = true ∨ 0 < rp.length) ∧
      o = (subL ps (ls ++ [])).1 ++ rp ∧ o.length ≤ 12 ∧ checkI ps b = 0 := by
  unfold sub2 at h
  split at h
  · rename_i hh
    obtain ⟨hc, hl, hf, h12⟩ := hh
    injection h with h
    have e : l = l.take (starsN ps) ++ l.drop (starsN ps) := (List.take_append_drop _ _).symm
    have hlen : (l.take (starsN ps)).length = starsN ps := by rw [List.length_take]; omega
    rw [e, fitL_append _ _ _ hlen, Bool.and_eq_true] at hf
    have hps := (check_ok hc).2.2.1
    generalize hls : l.take (starsN ps) = ls at e hlen hf
    generalize htt : l.drop (starsN ps) = tt at e hf
    have htl : tt.length = oneN b := by rw [← htt, List.length_drop]; omega
    have hsub := sub_bindL ps ls tt [] hlen hf.1 hps
    have hsub0 := sub_bindL ps ls [] [] hlen hf.1 hps
    have e1 : (subL ps (ls ++ tt)).1 = (subL ps (ls ++ [])).1 := by
      clear hsub hsub0
      have : ∀ (ps : List Bs) (ls t : List (List Bs × Bool)), ls.length = starsN ps → (subL ps (ls ++ t)).1 = (subL ps (ls ++ [])).1 := by
        intro ps
        induction ps with
        | nil => intro ls t _; rfl
        | cons p ps ih =>
          intro ls t hl
          rw [starsN_cons] at hl
          simp only [subL]
          cases hs : starL p with
          | none =>
            rw [hs] at hl
            simp only [ih ls t (by simpa using hl)]
          | some s =>
            rw [hs] at hl
            cases ls with
            | nil => simp at hl
            | cons x ls =>
              simp only [List.cons_append]
              rw [ih ls t (by simpa using hl)]
      exact this ps ls tt hlen
    unfold subOut at h h12
    rw [e] at h h12
    rw [hsub.2.1, e1] at h h12
    cases b
    · obtain rfl := List.eq_nil_of_length_eq_zero (show tt.length = 0 by simpa [oneN] using htl)
      simp only [Bool.false_eq_true, if_false, Prod.mk.injEq] at h h12
      obtain ⟨rfl, rfl⟩ := h
      exact ⟨ls, [], by simpa using e, hlen, hf.1, (fun x hx => by simp at hx), (fun _ => ⟨rfl, rfl⟩), (fun h => by simp at h), (List.append_nil _).symm, h12, hc⟩
    · obtain ⟨x, rfl⟩ := List.length_eq_one_iff.1 (show tt.length = 1 by simpa [oneN] using htl)
      simp only [if_true, Prod.mk.injEq, List.headD_cons] at h h12
      obtain ⟨rfl, rfl⟩ := h
      have h2 := hf.2
      simp only [fitL, List.all_nil, Bool.and_true, okB, if_true, Bool.and_eq_true, Bool.or_eq_true, decide_eq_true_eq] at h2
      exact ⟨ls, x.1, by simpa using e, hlen, hf.1, (fun y hy => List.all_eq_true.1 h2.1 y hy), (fun h => by simp at h), (fun _ => h2.2), rfl, h12, hc⟩
  · cases h
/-- What was narrowed lies within, and is bound by what was put in. -/
theorem bind_sub2 {ps : List Bs} {b : Bool} {l : List (List Bs × Bool)} {o : List Bs} {f : Bool} (h : sub2 ps b l = some (o, f)) : inP o f ps b = true ∧ bindP ps b o f = l ∧ checkI o f = 0 := by
  obtain ⟨ls, rp, e, hlen, hf, hrp, h0, h1, ho, h12, hc⟩ := sub2_parts h
  have cp := check_ok hc
  obtain ⟨i1, i2, i3, i4, i5, i6⟩ := sub_bindL ps ls [] rp hlen hf cp.2.2.1
  have hol : o.length = ps.length + rp.length := by rw [ho, List.length_append, i1]
  have hop : ∀ x ∈ o, partB x = true := by
    intro x hx
    rw [ho] at hx
    rcases List.mem_append.1 hx with hx | hx
    · exact i3 x hx
    · exact hrp x hx
  have hco : checkI o f = 0 := by
    have hs : shapeB o f = true := by
      cases ps with
      | nil => exact absurd rfl cp.2.2.2
      | cons a r =>
        have hsh := cp.1
        simp only [shapeB, Bool.and_eq_true] at hsh
        have ha : starL a = none := comp_star hsh.2.1
        have eo : o = a :: ((subL r (ls ++ [])).1 ++ rp) := by
          rw [ho]
          simp only [subL, ha, List.cons_append]
        rw [eo]
        rw [eo] at hop hol
        simp only [shapeB, Bool.and_eq_true]
        refine ⟨?_, hsh.2.1, List.all_eq_true.2 fun x hx => hop x (List.mem_cons_of_mem _ hx)⟩
        simp only [List.length_cons] at hol
        rw [Bool.or_eq_true]
        cases b
        · right
          have h2 := hsh.1
          simp only [Bool.false_or] at h2
          have : 0 < r.length := by
            cases r with
            | nil => simp at h2
            | cons _ _ => simp
          have : 0 < ((subL r (ls ++ [])).1 ++ rp).length := by omega
          cases hh : (subL r (ls ++ [])).1 ++ rp with
          | nil => rw [hh] at this; simp at this
          | cons _ _ => rfl
        · rcases h1 rfl with h | h
          · left
            exact h
          · right
            have : 0 < ((subL r (ls ++ [])).1 ++ rp).length := by omega
            cases hh : (subL r (ls ++ [])).1 ++ rp with
            | nil => rw [hh] at this; simp at this
            | cons _ _ => rfl
    unfold checkI
    rw [if_pos hs, if_neg (by omega)]
  refine ⟨?_, ?_, hco⟩
  · rw [inP_iff]
    refine ⟨hco, hc, by omega, ?_, ?_, ?_⟩
    · intro hlt
      cases b
      · have := (h0 rfl).1
        rw [this] at hol
        simp at hol
        omega
      · rfl
    · intro heq
      cases b
      · exact (h0 rfl).2
      · rcases h1 rfl with h | h
        · exact h
        · omega
    · intro i hi hi'
      have := i4 i hi (by omega)
      have e : o[i] = (subL ps (ls ++ [])).1[i]'(by omega) := by
        simp only [ho]
        rw [List.getElem_append_left (by omega)]
      rw [e]
      exact this
  · unfold bindP
    rw [ho, i5, e]
    cases b
    · simp
    · have : ((subL ps (ls ++ [])).1 ++ rp).drop ps.length = rp := by
        rw [← i1, List.drop_left]
      rw [this]
end Go.Proofs.YthclkdplihchjaaDoor.P

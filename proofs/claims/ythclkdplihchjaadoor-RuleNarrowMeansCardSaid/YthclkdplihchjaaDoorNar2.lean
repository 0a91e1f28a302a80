/-
  Layer 4: what Forward, NarrowLeft and Chain come to, told by components. No project text.
-/
import Derived.Test.YthclkdplihchjaaDoorNar1
import Derived.Test.YthclkdplihchjaaDoorNarE
import Derived.Test.YthclkdplihchjaaDoorPx3
namespace Go.Proofs.YthclkdplihchjaaDoor.P
open Go.RowKit Go.Proofs.YthclkdplihchjaaDoorW.PrintWords Go.Proofs.YthclkdplihchjaaDoor.Args
set_option linter.unusedVariables false
set_option linter.unusedSimpArgs false

/-! ### Forward -/
theorem matchL_comp : ∀ (ps ws : List Bs) {cs : List Bs}, (∀ w ∈ ws, compL w = true) → matchL ps ws = some cs → ∀ c ∈ cs, compL c = true
  | [], ws, cs, _, h => by
    simp only [matchL, Option.some.injEq] at h
    subst h
    simp
  | _ :: _, [], cs, _, h => by cases h
  | p :: ps, w :: ws, cs, hw, h => by
    simp only [matchL] at h
    have hw2 : ∀ x ∈ ws, compL x = true := fun x hx => hw x (List.mem_cons_of_mem _ hx)
    cases hs : starL p with
    | none =>
      rw [hs] at h
      dsimp only at h
      by_cases hq : w = p
      · rw [if_pos hq] at h
        exact matchL_comp ps ws hw2 h
      · rw [if_neg hq] at h
        cases h
    | some s =>
      rw [hs] at h
      dsimp only at h
      cases hc : capR w s with
      | none => rw [hc] at h; cases h
      | some x =>
        rw [hc] at h
        dsimp only at h
        obtain ⟨cs', h1, rfl⟩ := Option.map_eq_some_iff.1 h
        intro c hcm
        rcases List.mem_cons.1 hcm with rfl | hcm
        · unfold capR at hc
          split at hc
          · rename_i hh
            injection hc with hc
            rw [← hc, comp_take (hw w (by simp)), decide_eq_true_eq]
            omega
          · cases hc
        · exact matchL_comp ps ws hw2 h1 c hcm
theorem mat_comp {ps ws cs rw : List Bs} {b : Bool} (hw : ∀ w ∈ ws, compL w = true) (h : mat ps b ws = some (cs, rw)) : (∀ c ∈ cs, compL c = true) ∧ ∀ w ∈ rw, compL w = true := by
  unfold mat at h
  split at h
  · obtain ⟨cs', h1, h2⟩ := Option.map_eq_some_iff.1 h
    simp only [Prod.mk.injEq] at h2
    obtain ⟨rfl, rfl⟩ := h2
    exact ⟨matchL_comp ps ws hw h1, fun w hx => hw w (List.mem_of_mem_drop hx)⟩
  · cases h
theorem fillL_fillW : ∀ (ps cs t : List Bs), cs.length = starsN ps → (∀ c ∈ cs, compL c = true) → fillL ps (cs ++ t) = some (fillW ps cs, t)
  | [], cs, t, h, _ => by
    obtain rfl := List.eq_nil_of_length_eq_zero (show cs.length = 0 from h)
    rfl
  | p :: ps, cs, t, h, hc => by
    rw [starsN_cons] at h
    simp only [fillL, fillW]
    cases hs : starL p with
    | none =>
      rw [hs] at h
      simp only [fillL_fillW ps cs t (by simpa using h) hc, Option.map_some]
    | some s =>
      rw [hs] at h
      cases cs with
      | nil => simp at h
      | cons c cs =>
        simp only [List.cons_append, hc c (by simp), if_true, List.headD_cons, List.tail_cons]
        rw [fillL_fillW ps cs t (by simpa using h) (fun x hx => hc x (List.mem_cons_of_mem _ hx))]
        rfl
theorem fillW_comp : ∀ (ps cs : List Bs), (∀ x ∈ ps, partB x = true) → cs.length = starsN ps → (∀ c ∈ cs, compL c = true) → ∀ w ∈ fillW ps cs, compL w = true
  | [], cs, _, _, _ => fun w hw => by simp [fillW] at hw
  | p :: ps, cs, hp, hl, hc => by
    rw [starsN_cons] at hl
    intro w hw
    simp only [fillW] at hw
    cases hs : starL p with
    | none =>
      rw [hs] at hl hw
      rcases List.mem_cons.1 hw with rfl | hw
      · have := hp w (by simp)
        unfold partB at this
        rw [hs] at this
        simpa using this
      · exact fillW_comp ps cs (fun x hx => hp x (List.mem_cons_of_mem _ hx)) (by simpa using hl) hc w hw
    | some s =>
      rw [hs] at hl hw
      cases cs with
      | nil => simp at hl
      | cons c cs =>
        rcases List.mem_cons.1 hw with rfl | hw
        · exact comp_app (hc c (by simp)) (star_all hs)
        · exact fillW_comp ps cs (fun x hx => hp x (List.mem_cons_of_mem _ hx)) (by simpa using hl) (fun x hx => hc x (List.mem_cons_of_mem _ hx)) w hw
theorem matchW_mat {ps ws : List Bs} {b : Bool} : matchW ps b ws = if checkI ps b = 0 then (mat ps b ws).map fun x => x.1 ++ (if b = true then [joinL x.2] else []) else none := by
  unfold matchW mat restL
  by_cases hc : checkI ps b = 0
  · rw [if_pos hc]
    by_cases h : ps.length ≤ ws.length ∧ decide (ps.length < ws.length) = b
    · rw [if_pos ⟨hc, h.1, h.2⟩, if_pos h, Option.map_map]
      rfl
    · rw [if_neg h, if_neg (fun hh => h ⟨hh.2.1, hh.2.2⟩)]
      rfl
  · rw [if_neg hc, if_neg (fun hh => hc hh.1)]
theorem fill_words {q cs rw : List Bs} {b : Bool} (hq : checkI q b = 0) (hl : cs.length = starsN q) (hc : ∀ c ∈ cs, compL c = true) (hr : ∀ w ∈ rw, compL w = true) (hb : decide (0 < rw.length) = b) :
    fillR q b (cs ++ (if b = true then [joinL rw] else [])) = (S (textL (fillW q cs ++ rw)), 0) ∧ (∀ w ∈ fillW q cs ++ rw, compL w = true) ∧ 2 ≤ (fillW q cs ++ rw).length := by
  have hcq := check_ok hq
  have hlen := check_len hq
  have hcomp : ∀ w ∈ fillW q cs ++ rw, compL w = true := by
    intro w hw
    rcases List.mem_append.1 hw with hw | hw
    · exact fillW_comp q cs hcq.2.2.1 hl hc w hw
    · exact hr w hw
  have h2 : 2 ≤ (fillW q cs ++ rw).length := by
    rw [List.length_append, fillW_length]
    cases b
    · have := hlen.2 rfl
      omega
    · have := of_decide_eq_true hb
      omega
  refine ⟨?_, hcomp, h2⟩
  unfold fillR
  rw [if_pos hq, if_pos (by cases b <;> simp [hl, one]), fillL_fillW q cs _ hl hc]
  have e : [] ++ fillW q cs ++ restW b (if b = true then [joinL rw] else []) = fillW q cs ++ rw := by
    cases b
    · have : rw = [] := by
        have := of_decide_eq_false hb
        exact List.eq_nil_of_length_eq_zero (by omega)
      simp [restW, this]
    · have hne : rw ≠ [] := List.length_pos_iff.1 (of_decide_eq_true hb)
      simp only [restW, if_true, List.headD_cons, List.nil_append]
      rw [split_join hne (fun x hx => comp_free (hr x hx))]
  simp only [endR, e, join32]
  rw [if_pos ⟨h2, List.all_eq_true.2 hcomp⟩]
def fwdV (o : Option (List Bs)) : ByteArray × Bool := match o with
  | none => (S [], false)
  | some ws => (S (textL ws), true)
def fwdW (p : List Bs) (a : Bool) (q : List Bs) (l : Bs) : Option (List Bs) := (pathL l).bind (mapW p a q)
theorem forward_words {p q : List Bs} {a b : Bool} (hr : ruleI p a q b = 0) (l : Bs) : forwardR p a q b l = fwdV (fwdW p a q l) ∧ ∀ ws, fwdW p a q l = some ws → (∀ w ∈ ws, compL w = true) ∧ 2 ≤ ws.length := by
  have hr' := hr
  unfold ruleI at hr
  split at hr
  · rename_i hp
    split at hr
    · rename_i hq
      split at hr
      · rename_i hk
        obtain ⟨hst, rfl⟩ := hk
        unfold forwardR fwdW
        rw [if_pos hr']
        unfold matchP
        cases hpath : pathL l with
        | none => exact ⟨rfl, fun ws h => by cases h⟩
        | some ws =>
          have hw := (path_text hpath).2.1
          simp only [Option.bind_some, matchW_mat, if_pos hp]
          unfold mapW
          cases hm : mat p a ws with
          | none => exact ⟨rfl, fun ws h => by cases h⟩
          | some x =>
            obtain ⟨cs, rw⟩ := x
            obtain ⟨m1, m2, m3, m4⟩ := mat_iff.1 hm
            obtain ⟨k1, k2⟩ := mat_comp (fun w hx => List.all_eq_true.1 hw w hx) hm
            have hf := fill_words hq (m1.trans hst) k1 k2 m4
            simp only [Option.map_some]
            refine ⟨?_, fun ws' h => ?_⟩
            · rw [hf.1]
              rfl
            · injection h with h
              rw [← h]
              exact hf.2
      · cases hr
    · cases hr
  · cases hr
theorem ruleI_ok {p q : List Bs} {a b : Bool} (h : ruleI p a q b = 0) : checkI p a = 0 ∧ checkI q b = 0 ∧ starsN p = starsN q ∧ a = b := by
  unfold ruleI at h
  split at h
  · rename_i h1
    split at h
    · rename_i h2
      split at h
      · rename_i h3
        exact ⟨h1, h2, h3.1, h3.2⟩
      · cases h
    · cases h
  · cases h
theorem ruleI_mk {p q : List Bs} {a : Bool} (h1 : checkI p a = 0) (h2 : checkI q a = 0) (h3 : starsN p = starsN q) : ruleI p a q a = 0 := by
  unfold ruleI
  rw [if_pos h1, if_pos h2, if_pos ⟨h3, rfl⟩]
/-! ### sizes -/
/-! ### carry, NarrowLeft, Chain -/
/-! ### what they mean -/
theorem nar_none {p q c : List Bs} {a b cb : Bool} (h : narO p a q b c cb = (none, 0)) : ruleI p a q b = 0 ∧ checkI c cb = 0 ∧ meetP p a c cb = none := by
  unfold narO at h
  split at h
  · rename_i h1
    split at h
    · rename_i h2
      split at h
      · rename_i h3
        exact ⟨h1, h2, h3⟩
      · rename_i o1 r1 h3
        split at h
        · injection h with _ h; cases h
        · injection h with h _; cases h
    · rename_i h2
      injection h with _ h
      exact absurd h h2
  · rename_i h1
    injection h with _ h
    exact absurd h h1
theorem nar_words {p q c o o' : List Bs} {a b cb r r' : Bool} {e : Int} (h : narO p a q b c cb = (some (o, r, o', r'), e)) :
    ruleI o r o' r' = 0 ∧ ∀ ws, mapW o r o' ws = if (mat c cb ws).isSome = true then mapW p a q ws else none := by
  obtain ⟨h1, h2, h3, h4⟩ := nar_some h
  obtain ⟨k1, k2, k3, k4⟩ := ruleI_ok h1
  subst k4
  have hin := (meet_in h3).1
  have hb : bindW p a o r = bindP p a o r := by unfold bindW; rw [if_pos hin]
  rw [hb] at h4
  have h5 := sub2_bind hin
  obtain ⟨f1, f2, f3⟩ := map_sub h5 h4 k3
  subst f1
  refine ⟨ruleI_mk (meetP_check h3).1 (bind_sub2 h4).2.2 f2, fun ws => ?_⟩
  rw [f3 ws]
  have hh := meetP_hit k1 h2 ws
  by_cases hc : (mat c cb ws).isSome = true
  · rw [if_pos hc]
    by_cases hp : (mat p a ws).isSome = true
    · obtain ⟨o1, r1, e1, e2⟩ := hh.1 ⟨mat_hit.1 hp, mat_hit.1 hc⟩
      rw [h3] at e1
      injection e1 with e1
      injection e1 with e1 e3
      subst e1
      subst e3
      rw [if_pos (mat_hit.2 e2)]
    · have : mapW p a q ws = none := by
        rw [← Option.not_isSome_iff_eq_none, mapW_some]
        exact hp
      rw [this]
      split <;> rfl
  · rw [if_neg hc, if_neg]
    intro hm
    exact hc (mat_hit.2 (hh.2 ⟨o, _, h3, mat_hit.1 hm⟩).2)
theorem cha_none {p q p2 q2 : List Bs} {a b a2 b2 : Bool} (h : chaO p a q b p2 a2 q2 b2 = (none, 0)) : ruleI p a q b = 0 ∧ ruleI p2 a2 q2 b2 = 0 ∧ meetP q b p2 a2 = none := by
  unfold chaO at h
  split at h
  · rename_i h1
    split at h
    · rename_i h2
      split at h
      · rename_i h3
        exact ⟨h1, h2, h3⟩
      · rename_i o1 r1 h3
        split at h
        · injection h with h _; cases h
        · injection h with _ h; cases h
    · rename_i h2
      injection h with _ h
      exact absurd h h2
  · rename_i h1
    injection h with _ h
    exact absurd h h1
theorem cha_words {p q p2 q2 x y : List Bs} {a b a2 b2 f g : Bool} {e : Int} (h : chaO p a q b p2 a2 q2 b2 = (some (x, f, y, g), e)) :
    ruleI x f y g = 0 ∧ ∀ ws, mapW x f y ws = (mapW p a q ws).bind (mapW p2 a2 q2) := by
  obtain ⟨h1, h2, o, r, h3, h4, h5⟩ := cha_some h
  obtain ⟨k1, k2, k3, k4⟩ := ruleI_ok h1
  obtain ⟨l1, l2, l3, l4⟩ := ruleI_ok h2
  subst k4
  subst l4
  obtain ⟨i1, i2⟩ := meet_in h3
  have e1 : bindW q a o r = bindP q a o r := by unfold bindW; rw [if_pos i1]
  have e2 : bindW p2 a2 o r = bindP p2 a2 o r := by unfold bindW; rw [if_pos i2]
  rw [e1] at h4
  rw [e2] at h5
  have m1 := sub2_bind i1
  have m2 := sub2_bind i2
  obtain ⟨f1, f2, f3⟩ := map_sub h4 m1 k3
  obtain ⟨_, _, f4⟩ := map_sub m1 h4 k3.symm
  obtain ⟨g1, g2, g3⟩ := map_sub m2 h5 l3
  subst f1
  subst g1
  refine ⟨ruleI_mk (bind_sub2 h4).2.2 (bind_sub2 h5).2.2 (f2.trans g2), fun ws => ?_⟩
  rw [mapW_comp f2 ws, f3 ws]
  cases hw : mapW p a q ws with
  | none => split <;> rfl
  | some w1 =>
    simp only [Option.bind_some]
    cases hw2 : mapW p2 a2 q2 w1 with
    | none =>
      split
      · simp only [Option.bind_some, g3 w1, hw2]
        split <;> rfl
      · rfl
    | some w2 =>
      have hq1 : (mat q a w1).isSome = true := by rw [← mapW_some (q := p), mapW_inv k3 hw]; rfl
      have hp1 : (mat p2 a2 w1).isSome = true := by rw [← mapW_some (q := q2), hw2]; rfl
      obtain ⟨o', r', n1, n2⟩ := (meetP_hit k2 l1 w1).1 ⟨mat_hit.1 hq1, mat_hit.1 hp1⟩
      rw [h3] at n1
      injection n1 with n1
      injection n1 with n1 n3
      subst n1
      subst n3
      have ho := mat_hit.2 n2
      have hback := f4 w1
      rw [if_pos ho, mapW_inv k3 hw] at hback
      have hx : (mat x g ws).isSome = true := by rw [← mapW_some (q := o), mapW_inv f2.symm hback]; rfl
      rw [if_pos hx]
      simp only [Option.bind_some, g3 w1, if_pos ho, hw2]
/-! ### how long a path is to which a line leads; Forward at a short path -/
theorem joinL_len : ∀ ws : List Bs, ws ≠ [] → (joinL ws).length + 1 = totalL ws + ws.length
  | [], h => absurd rfl h
  | [w], _ => by simp [joinL, totalL]
  | w :: v :: r, _ => by
    have ih := joinL_len (v :: r) (by simp)
    have e : joinL (w :: v :: r) = w ++ 47 :: joinL (v :: r) := rfl
    rw [e]
    simp only [totalL, List.map_cons, List.sum_cons, List.length_append, List.length_cons] at ih ⊢
    omega
theorem total_app (xs ys : List Bs) : totalL (xs ++ ys) = totalL xs + totalL ys := by simp [totalL, List.map_append, List.sum_append]
theorem total_fill : ∀ (q cs : List Bs), totalL (fillW q cs) ≤ totalL q + totalL cs
  | [], cs => by simp [fillW, totalL]
  | p :: ps, cs => by
    simp only [fillW]
    cases hs : starL p with
    | none =>
      have := total_fill ps cs
      simp only [totalL, List.map_cons, List.sum_cons] at this ⊢
      omega
    | some s =>
      have := total_fill ps cs.tail
      have hs := starL_len hs
      cases cs with
      | nil =>
        simp only [totalL, List.map_cons, List.sum_cons, List.headD_nil, List.nil_append, List.tail_nil, List.map_nil, List.sum_nil] at this ⊢
        omega
      | cons c cs =>
        simp only [totalL, List.map_cons, List.sum_cons, List.headD_cons, List.length_append, List.tail_cons] at this ⊢
        omega
theorem total_caps : ∀ (p cs : List Bs), cs.length = starsN p → totalL cs ≤ totalL (fillW p cs)
  | [], cs, h => by
    obtain rfl := List.eq_nil_of_length_eq_zero (show cs.length = 0 from h)
    simp [totalL]
  | p :: ps, cs, h => by
    rw [starsN_cons] at h
    simp only [fillW]
    cases hs : starL p with
    | none =>
      rw [hs] at h
      have := total_caps ps cs (by simpa using h)
      simp only [totalL, List.map_cons, List.sum_cons] at this ⊢
      omega
    | some s =>
      rw [hs] at h
      cases cs with
      | nil => simp at h
      | cons c cs =>
        have := total_caps ps cs (by simpa using h)
        simp only [totalL, List.map_cons, List.sum_cons, List.headD_cons, List.length_append, List.tail_cons] at this ⊢
        omega
theorem fwd_len {p q w1 : List Bs} {a : Bool} {l : Bs} (h : fwdW p a q l = some w1) (hw : w1 ≠ []) : (textL w1).length ≤ totalL q + q.length + l.length := by
  unfold fwdW at h
  obtain ⟨ws, h1, h2⟩ := Option.bind_eq_some_iff.1 h
  obtain ⟨cs, rw, h3, rfl⟩ := mapW_iff.1 h2
  obtain ⟨m1, _, m3, _⟩ := mat_iff.1 h3
  have hp := path_text h1
  have hne : ws ≠ [] := by
    rintro rfl
    have := hp.2.2
    simp at this
  have e1 := joinL_len ws hne
  have e2 := joinL_len _ hw
  have e3 : l.length = 2 + (joinL ws).length := by
    rw [hp.1]
    simp only [textL, List.length_cons]
    omega
  have e4 : (textL (fillW q cs ++ rw)).length = 2 + (joinL (fillW q cs ++ rw)).length := by
    simp only [textL, List.length_cons]
    omega
  have t1 := total_fill q cs
  have t2 := total_caps p cs m1
  have e5 : totalL ws = totalL (fillW p cs) + totalL rw := by rw [m3, total_app]
  have e6 : ws.length = p.length + rw.length := by rw [m3, List.length_append, fillW_length]
  rw [total_app, List.length_append, fillW_length] at e2
  omega
theorem small4_total {ps : List Bs} (h : small4B ps = true) : totalL ps ≤ 300 := by
  unfold small4B at h
  simp only [Bool.and_eq_true, decide_eq_true_eq] at h
  exact h.2
def hasB (c : List Bs) (cb : Bool) (l : Bs) : Bool := ((pathL l).bind (mat c cb)).isSome
theorem match_has {c : List Bs} {cb : Bool} (h : checkI c cb = 0) (l : Bs) : (matchP c cb l).isSome = hasB c cb l := by
  unfold matchP hasB
  cases pathL l with
  | none => rfl
  | some ws => simp only [Option.bind_some, matchW_mat, if_pos h, Option.isSome_map]
theorem fwdV_some (o : Option (List Bs)) : (fwdV o).2 = o.isSome := by cases o <;> rfl
/-- Forward, at a short path. -/
theorem fwd_ev (z : Bool) {p q : List Bs} {a b : Bool} (s : ByteArray) (hp : len20 p 1000) (hq : len20 q 1000) (hs : (L s).length ≤ 1000) (hr : ruleI p a q b = 0) :
    Ev (fun k => rule_Forward.f k z (Ss p) a (Ss q) b s) (fwdV (fwdW p a q (L s))) := by
  have hsz := size_eq s
  have := forward_ev z p a q b s hp.1 hp.2 hq.1 hq.2 (by omega) (fun o ho => match_size2 ho hs)
  rw [(forward_words hr (L s)).1] at this
  exact this
end Go.Proofs.YthclkdplihchjaaDoor.P

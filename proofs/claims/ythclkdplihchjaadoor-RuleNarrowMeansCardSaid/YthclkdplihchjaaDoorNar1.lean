/-
  Layers 3 and 4: what a line makes of a path's components; how that goes with Substitute. Plain lists; no printed function of its own.
-/
import Derived.Test.YthclkdplihchjaaDoorNar0
import Derived.Test.YthclkdplihchjaaDoorRule
import Derived.Test.YthclkdplihchjaaDoorOut
namespace Go.Proofs.YthclkdplihchjaaDoor.P
open Go.RowKit Go.Proofs.YthclkdplihchjaaDoorW.PrintWords Go.Proofs.YthclkdplihchjaaDoor.Args
set_option linter.unusedVariables false
set_option linter.unusedSimpArgs false

/-- The components that captures make of parts. -/
def fillW : List Bs → List Bs → List Bs
  | [], _ => []
  | p :: ps, cs => match starL p with
    | none => p :: fillW ps cs
    | some s => (cs.headD [] ++ s) :: fillW ps cs.tail
theorem fillW_length : ∀ (ps cs : List Bs), (fillW ps cs).length = ps.length
  | [], _ => rfl
  | p :: ps, cs => by
    simp only [fillW]
    cases starL p <;> simp [fillW_length ps]
theorem fillW_append : ∀ (xs ys c1 c2 : List Bs), c1.length = starsN xs → fillW (xs ++ ys) (c1 ++ c2) = fillW xs c1 ++ fillW ys c2
  | [], ys, c1, c2, h => by
    obtain rfl := List.eq_nil_of_length_eq_zero (show c1.length = 0 from h)
    rfl
  | x :: xs, ys, c1, c2, h => by
    rw [starsN_cons] at h
    simp only [List.cons_append, fillW]
    cases hs : starL x with
    | none =>
      rw [hs] at h
      simp only [fillW_append xs ys c1 c2 (by simpa using h)]
      rfl
    | some s =>
      rw [hs] at h
      cases c1 with
      | nil => simp at h
      | cons c c1 =>
        simp only [List.cons_append, List.headD_cons, List.tail_cons]
        rw [fillW_append xs ys c1 c2 (by simpa using h)]
theorem matchL_fillW : ∀ (ps cs rw : List Bs), cs.length = starsN ps → (∀ c ∈ cs, c ≠ []) → matchL ps (fillW ps cs ++ rw) = some cs
  | [], cs, rw, h, _ => by
    obtain rfl := List.eq_nil_of_length_eq_zero (show cs.length = 0 from h)
    rfl
  | p :: ps, cs, rw, h, hn => by
    rw [starsN_cons] at h
    simp only [fillW]
    cases hs : starL p with
    | none =>
      rw [hs] at h
      simp only [List.cons_append, matchL, hs, if_true]
      exact matchL_fillW ps cs rw (by simpa using h) hn
    | some s =>
      rw [hs] at h
      cases cs with
      | nil => simp at h
      | cons c cs =>
        simp only [List.cons_append, List.headD_cons, List.tail_cons, matchL, hs, capR_app (hn c (by simp))]
        rw [matchL_fillW ps cs rw (by simpa using h) (fun x hx => hn x (List.mem_cons_of_mem _ hx))]
        rfl
theorem matchL_inv : ∀ (ps ws : List Bs) {cs : List Bs}, matchL ps ws = some cs → ps.length ≤ ws.length ∧ cs.length = starsN ps ∧ (∀ c ∈ cs, c ≠ []) ∧ ws = fillW ps cs ++ ws.drop ps.length
  | [], ws, cs, h => by
    simp only [matchL, Option.some.injEq] at h
    subst h
    simp [starsN, fillW]
  | _ :: _, [], cs, h => by cases h
  | p :: ps, w :: ws, cs, h => by
    simp only [matchL] at h
    rw [starsN_cons]
    cases hs : starL p with
    | none =>
      rw [hs] at h
      dsimp only at h
      by_cases hq : w = p
      · rw [if_pos hq] at h
        obtain ⟨i1, i2, i3, i4⟩ := matchL_inv ps ws h
        refine ⟨by simpa using i1, by simpa using i2, i3, ?_⟩
        simp only [fillW, hs, List.length_cons, List.drop_succ_cons, List.cons_append]
        rw [← i4, hq]
      · rw [if_neg hq] at h
        cases h
    | some s =>
      rw [hs] at h
      dsimp only at h
      cases hc : capR w s with
      | none => rw [hc] at h; cases h
      | some x =>
        rw [hc] at h
        dsimp only at h
        obtain ⟨cs', h1, rfl⟩ := Option.map_eq_some_iff.1 h
        obtain ⟨i1, i2, i3, i4⟩ := matchL_inv ps ws h1
        obtain ⟨e1, e2⟩ := capR_some hc
        refine ⟨by simpa using i1, by simpa using i2, ?_, ?_⟩
        · intro c hc
          rcases List.mem_cons.1 hc with rfl | hc
          · exact e2
          · exact i3 c hc
        · simp only [fillW, hs, List.length_cons, List.drop_succ_cons, List.cons_append, List.headD_cons, List.tail_cons]
          rw [← i4, ← e1]
/-- The captures of a path's components, and what is behind the parts. -/
def mat (ps : List Bs) (b : Bool) (ws : List Bs) : Option (List Bs × List Bs) := if ps.length ≤ ws.length ∧ decide (ps.length < ws.length) = b then (matchL ps ws).map fun cs => (cs, ws.drop ps.length) else none
theorem mat_iff {ps ws cs rw : List Bs} {b : Bool} : mat ps b ws = some (cs, rw) ↔ cs.length = starsN ps ∧ (∀ c ∈ cs, c ≠ []) ∧ ws = fillW ps cs ++ rw ∧ decide (0 < rw.length) = b := by
  unfold mat
  constructor
  · intro h
    split at h
    · rename_i hh
      obtain ⟨cs', h1, h2⟩ := Option.map_eq_some_iff.1 h
      simp only [Prod.mk.injEq] at h2
      obtain ⟨rfl, rfl⟩ := h2
      obtain ⟨i1, i2, i3, i4⟩ := matchL_inv ps ws h1
      refine ⟨i2, i3, i4, ?_⟩
      rw [← hh.2, List.length_drop]
      exact decide_eq_decide.2 (by omega)
    · cases h
  · rintro ⟨h1, h2, h3, h4⟩
    have hl : ws.length = ps.length + rw.length := by rw [h3, List.length_append, fillW_length]
    rw [if_pos ⟨by omega, by rw [← h4]; exact decide_eq_decide.2 (by omega)⟩, h3, matchL_fillW ps cs rw h1 h2]
    have : (fillW ps cs ++ rw).drop ps.length = rw := by rw [← fillW_length ps cs, List.drop_left]
    simp [this]
theorem mat_hit {ps ws : List Bs} {b : Bool} : (mat ps b ws).isSome = true ↔ hitW ps b ws := by
  unfold mat hitW
  by_cases h : ps.length ≤ ws.length ∧ decide (ps.length < ws.length) = b
  · rw [if_pos h, Option.isSome_map, matchL_some]
    exact ⟨fun h2 => ⟨h.1, h.2, h2.2⟩, fun h2 => ⟨h.1, h2.2.2⟩⟩
  · rw [if_neg h]
    constructor
    · intro h2
      cases h2
    · intro h2
      exact absurd ⟨h2.1, h2.2.1⟩ h
/-- What a line makes of a path's components. -/
def mapW (p : List Bs) (a : Bool) (q : List Bs) (ws : List Bs) : Option (List Bs) := (mat p a ws).map fun x => fillW q x.1 ++ x.2
theorem mapW_iff {p q ws w1 : List Bs} {a : Bool} : mapW p a q ws = some w1 ↔ ∃ cs rw, mat p a ws = some (cs, rw) ∧ w1 = fillW q cs ++ rw := by
  unfold mapW
  rw [Option.map_eq_some_iff]
  constructor
  · rintro ⟨⟨cs, rw⟩, h1, h2⟩
    exact ⟨cs, rw, h1, h2.symm⟩
  · rintro ⟨cs, rw, h1, h2⟩
    exact ⟨(cs, rw), h1, h2.symm⟩
theorem mat_other {p q ws cs rw : List Bs} {a : Bool} (hs : starsN p = starsN q) (h : mat p a ws = some (cs, rw)) : mat q a (fillW q cs ++ rw) = some (cs, rw) := by
  obtain ⟨h1, h2, h3, h4⟩ := mat_iff.1 h
  exact mat_iff.2 ⟨h1.trans hs, h2, rfl, h4⟩
theorem mapW_inv {p q ws w1 : List Bs} {a : Bool} (hs : starsN p = starsN q) (h : mapW p a q ws = some w1) : mapW q a p w1 = some ws := by
  obtain ⟨cs, rw, h1, rfl⟩ := mapW_iff.1 h
  exact mapW_iff.2 ⟨cs, rw, mat_other hs h1, (mat_iff.1 h1).2.2.1⟩
theorem mapW_comp {p q r : List Bs} {a : Bool} (hs : starsN p = starsN q) (ws : List Bs) : mapW p a r ws = (mapW p a q ws).bind (mapW q a r) := by
  unfold mapW
  cases h : mat p a ws with
  | none => rfl
  | some x =>
    obtain ⟨cs, rw⟩ := x
    simp only [Option.map_some, Option.bind_some, mat_other hs h]
theorem mapW_some {p q ws : List Bs} {a : Bool} : (mapW p a q ws).isSome = (mat p a ws).isSome := by
  unfold mapW
  rw [Option.isSome_map]

/-! ### Substitute -/
theorem sub_fillL : ∀ (ps : List Bs) (ls : List (List Bs × Bool)) (ds : List Bs), ls.length = starsN ps → ls.all (okB false) = true → fillW (subL ps (ls ++ [])).1 ds = fillW ps (fillW (ysL ls) ds)
  | [], ls, ds, h, _ => rfl
  | p :: ps, ls, ds, h, hf => by
    rw [starsN_cons] at h
    cases hs : starL p with
    | none =>
      rw [hs] at h
      simp only [subL, hs, fillW]
      rw [sub_fillL ps ls ds (by simpa using h) hf]
    | some s =>
      rw [hs] at h
      cases ls with
      | nil => simp at h
      | cons x ls =>
        simp only [List.all_cons, Bool.and_eq_true] at hf
        obtain ⟨y, rfl, hy⟩ := okB_one hf.1
        have e : (subL (p :: ps) (([y], false) :: ls ++ [])).1 = (y ++ s) :: (subL ps (ls ++ [])).1 := by simp only [subL, hs, List.cons_append, List.headD_cons]
        have e2 : ysL (([y], false) :: ls) = y :: ysL ls := rfl
        rw [e, e2]
        rcases part_app hy (star_all hs) with ⟨t, h1, h2⟩ | ⟨h1, _, _, h4⟩
        · simp only [fillW, hs, h1, h2, List.headD_cons, List.tail_cons]
          rw [sub_fillL ps ls ds.tail (by simpa using h) hf.2, List.append_assoc]
        · simp only [fillW, hs, h1, h4, List.headD_cons, List.tail_cons]
          rw [sub_fillL ps ls ds (by simpa using h) hf.2]
theorem ysL_part {ls : List (List Bs × Bool)} (hf : ls.all (okB false) = true) : ∀ y ∈ ysL ls, partB y = true := by
  intro y hy
  obtain ⟨x, hx, rfl⟩ := List.mem_map.1 hy
  obtain ⟨z, rfl, hz⟩ := okB_one (List.all_eq_true.1 hf x hx)
  exact hz
theorem fillW_ne : ∀ (ps cs : List Bs), (∀ x ∈ ps, partB x = true) → cs.length = starsN ps → (∀ c ∈ cs, c ≠ []) → ∀ w ∈ fillW ps cs, w ≠ []
  | [], cs, _, _, _ => fun w hw => by simp [fillW] at hw
  | p :: ps, cs, hp, hl, hc => by
    rw [starsN_cons] at hl
    intro w hw
    simp only [fillW] at hw
    cases hs : starL p with
    | none =>
      rw [hs] at hl hw
      rcases List.mem_cons.1 hw with rfl | hw
      · exact part_ne (hp _ (by simp))
      · exact fillW_ne ps cs (fun x hx => hp x (List.mem_cons_of_mem _ hx)) (by simpa using hl) hc w hw
    | some s =>
      rw [hs] at hl hw
      cases cs with
      | nil => simp at hl
      | cons c cs =>
        rcases List.mem_cons.1 hw with rfl | hw
        · have := hc c (by simp)
          simp [this]
        · exact fillW_ne ps cs (fun x hx => hp x (List.mem_cons_of_mem _ hx)) (by simpa using hl) (fun x hx => hc x (List.mem_cons_of_mem _ hx)) w hw
theorem map_sub {p q o o' : List Bs} {a f f' : Bool} {l : List (List Bs × Bool)} (h : sub2 p a l = some (o, f)) (h' : sub2 q a l = some (o', f')) (hs : starsN p = starsN q) :
    f' = f ∧ starsN o = starsN o' ∧ ∀ ws, mapW o f o' ws = if (mat o f ws).isSome = true then mapW p a q ws else none := by
  obtain ⟨ls, rp, e1, e2, e3, e4, e5, e6, e7, _, hc⟩ := sub2_parts h
  obtain ⟨ls', rp', g1, g2, g3, g4, g5, g6, g7, _, hc'⟩ := sub2_parts h'
  have hls : ls' = ls ∧ rp' = rp ∧ f' = f := by
    have hh := g1.symm.trans e1
    have := List.append_inj hh (by rw [g2, e2, hs])
    refine ⟨this.1, ?_⟩
    cases a
    · exact ⟨(g5 rfl).1.trans (e5 rfl).1.symm, (g5 rfl).2.trans (e5 rfl).2.symm⟩
    · have h2 := this.2
      simp only [if_true, List.cons.injEq, Prod.mk.injEq, and_true] at h2
      exact h2
  obtain ⟨rfl, rfl, rfl⟩ := hls
  have hps := (check_ok hc).2.2.1
  have hqs := (check_ok hc').2.2.1
  have s1 := sub_bindL p ls' [] [] e2 e3 hps
  have s2 := sub_bindL q ls' [] [] g2 e3 hqs
  have stars_app : ∀ xs ys : List Bs, starsN (xs ++ ys) = starsN xs + starsN ys := fun xs ys => by simp [starsN, List.countP_append]
  have n1 : starsN o = starsN (ysL ls') + starsN rp' := by rw [e7, stars_app, s1.2.2.2.2.2]
  have n2 : starsN o' = starsN (ysL ls') + starsN rp' := by rw [g7, stars_app, s2.2.2.2.2.2]
  refine ⟨rfl, n1.trans n2.symm, fun ws => ?_⟩
  cases hm : mat o f' ws with
  | none =>
    unfold mapW
    rw [hm]
    rfl
  | some x =>
    obtain ⟨ds, rw⟩ := x
    simp only [Option.isSome_some, if_true]
    obtain ⟨d1, d2, d3, d4⟩ := mat_iff.1 hm
    have hds : ds = ds.take (starsN (ysL ls')) ++ ds.drop (starsN (ysL ls')) := (List.take_append_drop _ _).symm
    have hl1 : (ds.take (starsN (ysL ls'))).length = starsN (ysL ls') := by rw [List.length_take]; omega
    have hl2 : (ds.drop (starsN (ysL ls'))).length = starsN rp' := by rw [List.length_drop]; omega
    have key : ∀ (r : List Bs), r.length = r.length → ∀ (hr : ls'.length = starsN r) (so : starsN (subL r (ls' ++ [])).1 = starsN (ysL ls')), fillW ((subL r (ls' ++ [])).1 ++ rp') ds = fillW r (fillW (ysL ls') (ds.take (starsN (ysL ls')))) ++ fillW rp' (ds.drop (starsN (ysL ls'))) := by
      intro r _ hr so
      rw [← sub_fillL r ls' _ hr e3]
      rw [← fillW_append _ _ _ _ (by rw [hl1, so]), ← hds]
    have k1 := key p rfl e2 s1.2.2.2.2.2
    have k2 := key q rfl g2 s2.2.2.2.2.2
    rw [← e7] at k1
    rw [← g7] at k2
    have hne1 : ∀ c ∈ fillW (ysL ls') (ds.take (starsN (ysL ls'))), c ≠ [] := fillW_ne _ _ (ysL_part e3) hl1 (fun c hc => d2 c (List.mem_of_mem_take hc))
    have hyl : (fillW (ysL ls') (ds.take (starsN (ysL ls')))).length = starsN p := by rw [fillW_length, ysL, List.length_map, e2]
    have hrest : decide (0 < (fillW rp' (ds.drop (starsN (ysL ls'))) ++ rw).length) = a := by
      rw [List.length_append, fillW_length]
      cases a
      · have h5 := e5 rfl
        rw [h5.1]
        rw [h5.2] at d4
        simp only [List.length_nil, Nat.zero_add]
        exact d4
      · rw [decide_eq_true_eq]
        rcases e6 rfl with h6 | h6
        · rw [h6] at d4
          have := of_decide_eq_true d4
          omega
        · omega
    have hm2 : mat p a ws = some (fillW (ysL ls') (ds.take (starsN (ysL ls'))), fillW rp' (ds.drop (starsN (ysL ls'))) ++ rw) := by
      rw [mat_iff]
      refine ⟨hyl, hne1, ?_, hrest⟩
      rw [d3, k1, List.append_assoc]
    unfold mapW
    rw [hm, hm2]
    simp only [Option.map_some]
    rw [k2, List.append_assoc]

/-! ### patterns that match the same paths -/
theorem in_of_hit {ps qs : List Bs} {b b' : Bool} (hp : checkI ps b = 0) (hq : checkI qs b' = 0) (h : ∀ ws, hitW ps b ws → hitW qs b' ws) : inP ps b qs b' = true := by
  refine wit_in hp hq fun n h1 h2 => h _ (wit_path hp n ?_).2
  cases b
  · have : ¬ 0 < n := by simp at h2; omega
    simp [this]
  · have : 0 < n := by simp at h1; omega
    simp [this]
theorem same_of_hit {ps qs : List Bs} {b b' : Bool} (hp : checkI ps b = 0) (hq : checkI qs b' = 0) (h : ∀ ws, hitW ps b ws ↔ hitW qs b' ws) : ps = qs ∧ b = b' := by
  have h1 := in_of_hit hp hq (fun ws => (h ws).1)
  have h2 := in_of_hit hq hp (fun ws => (h ws).2)
  unfold inP at h1 h2
  rw [decide_eq_true_eq] at h1 h2
  rw [meetP_comm, h1] at h2
  injection h2 with h2
  injection h2 with h3 h4
  exact ⟨h3, h4⟩
theorem meet_in {ps qs o : List Bs} {b b' r : Bool} (h : meetP ps b qs b' = some (o, r)) : inP o r ps b = true ∧ inP o r qs b' = true := by
  obtain ⟨h1, h2, h3⟩ := meetP_check h
  have hh : ∀ ws, hitW o r ws → hitW ps b ws ∧ hitW qs b' ws := fun ws hw => (meetP_hit h2 h3 ws).2 ⟨o, r, h, hw⟩
  exact ⟨in_of_hit h1 h2 (fun ws hw => (hh ws hw).1), in_of_hit h1 h3 (fun ws hw => (hh ws hw).2)⟩
end Go.Proofs.YthclkdplihchjaaDoor.P

/-
  Layer 3: what captures make of a pattern: Fill; that Match and Fill undo each other. No project text.
-/
import Derived.Test.YthclkdplihchjaaDoorKinds
import Derived.Test.YthclkdplihchjaaDoorPx3
namespace Go.Proofs.YthclkdplihchjaaDoor.P
open Go.RowKit Go.Proofs.YthclkdplihchjaaDoorW.PrintWords Go.Proofs.YthclkdplihchjaaDoor.Args
set_option linter.unusedVariables false
set_option linter.unusedSimpArgs false

/-- The components that captures make of parts, and the captures that are left. -/
def fillL : List Bs → List Bs → Option (List Bs × List Bs)
  | [], cs => some ([], cs)
  | p :: ps, cs => match starL p with
    | none => (fillL ps cs).map fun o => (p :: o.1, o.2)
    | some s => match cs with
      | [] => none
      | c :: cs => if compL c = true then (fillL ps cs).map fun o => ((c ++ s) :: o.1, o.2) else none
def one (b : Bool) : Nat := if b = true then 1 else 0
def restW (rest : Bool) (r : List Bs) : List Bs := if rest = true then splitL (r.headD []) else []
def join32 (ws : List Bs) : ByteArray × Int := if 2 ≤ ws.length ∧ ws.all compL = true then (S (textL ws), 0) else (S [], 32)
def endR (rest : Bool) (acc : List Bs) (o : Option (List Bs × List Bs)) : ByteArray × Int := match o with
  | none => (S [], 32)
  | some (o, r) => join32 (acc ++ o ++ restW rest r)
theorem endR_cons (rest : Bool) (acc : List Bs) (x : Bs) (o : Option (List Bs × List Bs)) : endR rest acc (o.map fun o => (x :: o.1, o.2)) = endR rest (acc ++ [x]) o := by
  cases o <;> simp [endR]
theorem endR_none (rest : Bool) (acc : List Bs) : endR rest acc none = (S [], 32) := rfl
theorem pathjoin_ev (ws : List Bs) (h1 : ws.length ≤ 1048576) (hx : ∀ x ∈ ws, x.length ≤ 1048576) : Ev (fun k => path_Join.f k (Ss ws)) (if 2 ≤ ws.length ∧ ws.all compL = true then (S (textL ws), 0) else (S [], 21)) := by
  have hb := join_size ws h1 hx
  have loop : ∀ (d i : Nat), i + d = ws.length → Ev (fun k => path_Join.l0 k (Ss ws) (Ss ws) (ws.length : Int) (i : Int)) (if (ws.drop i).all compL = true then (S (textL ws), 0) else (S [], 21)) := by
    intro d
    induction d with
    | zero =>
      intro i hi
      refine Ev.succ ?_
      simp (disch := omega) only [path_Join.l0, if_neg, Ss_length]
      rw [joinS_eq ws h1 hx, List.drop_of_length_le (by omega)]
      have c1 : 2 + (S (joinL ws)).size ≤ 9223372036854775807 := by rw [size_S]; omega
      simp only [Option.bind_some, List.all_nil, if_true, if_pos c1, text_app]
      exact Ev.now _
    | succ d ih =>
      intro i hi
      have hlt : i < ws.length := by omega
      refine Ev.succ ?_
      simp (disch := omega) only [path_Join.l0, if_pos, wrap64_id, Ss_length]
      rw [rd_Ss ws i hlt, Ev.bind_iff (comp_ev _ (by rw [size_S]; have := hx _ (List.getElem_mem hlt); omega)), L_S, List.drop_eq_getElem_cons hlt, List.all_cons]
      cases hc : compL ws[i]
      · simp only [Bool.false_eq_true, if_false, Bool.false_and]
        exact Ev.now _
      · simp only [if_true, Bool.true_and]
        exact ih (i + 1) (by omega)
  simp only [path_Join.f, Ss_length]
  by_cases h : ws.length < 2
  · have c1 : (ws.length : Int) < 2 := by omega
    have c2 : ¬ 2 ≤ ws.length := by omega
    simp only [if_pos c1, c2, false_and, if_false]
    exact Ev.now _
  · have c1 : ¬ (ws.length : Int) < 2 := by omega
    have c2 : 2 ≤ ws.length := by omega
    simp only [if_neg c1, c2, true_and]
    have := loop ws.length 0 (by omega)
    simpa using this
theorem join32_ev (ws : List Bs) (h1 : ws.length ≤ 1048576) (hx : ∀ x ∈ ws, x.length ≤ 1048576) :
    Ev (fun k => (path_Join.f k (Ss ws)).bind fun t => if t.2 = 0 then some (t.1, 0) else some ((⟨#[]⟩ : ByteArray), 32)) (join32 ws) := by
  rw [Ev.bind_iff (pathjoin_ev ws h1 hx)]
  unfold join32
  by_cases h : 2 ≤ ws.length ∧ ws.all compL = true
  · simp only [if_pos h, if_true]
    exact Ev.now _
  · have n21 : ¬ (21 : Int) = 0 := by decide
    simp only [if_neg h, if_neg n21]
    exact Ev.now _
theorem star_len {p s : Bs} (h : starL p = some s) : s.length + 1 = p.length := by rw [star_some h]; rfl
theorem stars_cons_some {p s : Bs} {ps : List Bs} (h : starL p = some s) : starsN (p :: ps) = starsN ps + 1 := by simp [starsN, h]
theorem stars_cons_none {p : Bs} {ps : List Bs} (h : starL p = none) : starsN (p :: ps) = starsN ps := by simp [starsN, h]
theorem fill_loop (ps : List Bs) (rest : Bool) (hl : ps.length ≤ 20) (hx : ∀ x ∈ ps, x.length ≤ 1000) : ∀ (d i : Nat) (acc cs : List Bs), i + d = ps.length → acc.length ≤ i → (∀ x ∈ acc, x.length ≤ 2000) → (∀ x ∈ cs, x.length ≤ 1000) →
    cs.length = starsN (ps.drop i) + one rest →
    Ev (fun k => pattern_Fill.l0 k (Ss cs) rest (Ss acc) (Ss ps) (ps.length : Int) (i : Int)) (endR rest acc (fillL (ps.drop i) cs)) := by
  intro d
  induction d with
  | zero =>
    intro i acc cs hi ha hacc hcs hn
    refine Ev.succ ?_
    rw [List.drop_of_length_le (by omega)] at hn ⊢
    simp (disch := omega) only [pattern_Fill.l0, if_neg, fillL, endR, List.append_nil]
    cases rest
    · simp only [Bool.false_eq_true, if_false, restW, List.append_nil]
      exact join32_ev acc (by omega) (fun x hx2 => by have := hacc x hx2; omega)
    · simp only [one, if_true, starsN, List.countP_nil, Nat.zero_add] at hn
      obtain ⟨c, rfl⟩ : ∃ c, cs = [c] := List.length_eq_one_iff.1 hn
      have hc := hcs c (by simp)
      have e : rdOf ByteArray.empty (Ss [c]) 0 = S c := rfl
      have c1 : (0 : Int) < ((Ss [c]).length : Int) := by rw [Ss_length]; simp
      have hlen := splitL_len_le c
      have hszs := splitL_length_le c
      have c2 : (Ss acc).length + (Ss (splitL c)).length < 8796093022208 := by rw [Ss_length, Ss_length]; omega
      simp only [if_true, if_pos c1, e]
      rw [split_eq _ (by rw [size_S]; omega)]
      simp only [Option.bind_some, L_S, if_pos c2, Ss_append, restW, if_true, List.headD_cons]
      refine join32_ev (acc ++ splitL c) (by rw [List.length_append]; omega) ?_
      intro x hx2
      rcases List.mem_append.1 hx2 with h | h
      · have := hacc x h; omega
      · have := hszs x h; omega
  | succ d ih =>
    intro i acc cs hi ha hacc hcs hn
    have hlt : i < ps.length := by omega
    have hxi := hx _ (List.getElem_mem hlt)
    refine Ev.succ ?_
    simp only [pattern_Fill.l0, Ss_length]
    have c1 : (i : Int) < (ps.length : Int) := by omega
    have c2 : (0 : Int) ≤ (i : Int) := by omega
    have c4 : acc.length < 8796093022208 := by omega
    have e : wrap64 ((i : Int) + 1) = ((i + 1 : Nat) : Int) := by rw [wrap64_id (by omega) (by omega)]; omega
    simp only [if_pos c1, if_pos c2, if_pos c4, e]
    rw [List.drop_eq_getElem_cons hlt] at hn ⊢
    rw [rd_Ss ps i hlt, Ev.bind_iff (form_ev _ (by rw [size_S]; omega)), L_S]
    simp only [fillL]
    cases hs : starL ps[i] with
    | none =>
      rw [stars_cons_none hs] at hn
      have hf : ¬ (formR ps[i]).1 = 2 := by rw [form_star, hs]; simp
      simp only [if_neg hf, Ss_snoc, endR_cons]
      refine ih (i + 1) (acc ++ [ps[i]]) cs (by omega) (by simp; omega) ?_ hcs hn
      intro x hx2
      rcases List.mem_append.1 hx2 with h | h
      · exact hacc x h
      · rw [List.mem_singleton.1 h]
        omega
    | some r =>
      rw [stars_cons_some hs] at hn
      have hr := star_len hs
      have hf : formR ps[i] = (2, S r) := by simp [formR, hs]
      cases cs with
      | nil =>
        rw [List.length_nil] at hn
        omega
      | cons c cs =>
        have hc := hcs c (by simp)
        have e0 : rdOf ByteArray.empty (Ss (c :: cs)) 0 = S c := rfl
        have d1 : (0 : Int) < ((c :: cs).length : Int) := by simp only [List.length_cons]; omega
        have d2 : (1 : Int) ≤ ((c :: cs).length : Int) := by simp only [List.length_cons]; omega
        have d3 : (S c).size + (S r).size ≤ 9223372036854775807 := by rw [size_S, size_S]; omega
        have d4 : (Ss (c :: cs)).drop 1 = Ss cs := rfl
        simp only [hf, if_true, if_pos d1, e0]
        rw [Ev.bind_iff (comp_ev _ (by rw [size_S]; omega)), L_S]
        cases hcc : compL c
        · simp only [Bool.false_eq_true, if_false, endR_none]
          exact Ev.now _
        · simp only [if_true, if_pos d3, if_pos d2, d4, append_S, L_S, Ss_snoc, endR_cons]
          refine ih (i + 1) (acc ++ [c ++ r]) cs (by omega) (by simp; omega) ?_ (fun x hx2 => hcs x (List.mem_cons_of_mem _ hx2)) (by rw [List.length_cons] at hn; omega)
          intro x hx2
          rcases List.mem_append.1 hx2 with h | h
          · exact hacc x h
          · rw [List.mem_singleton.1 h, List.length_append]
            omega
/-- What Fill answers. -/
def fillR (ps : List Bs) (rest : Bool) (cs : List Bs) : ByteArray × Int := if checkI ps rest = 0 then (if cs.length = starsN ps + one rest then endR rest [] (fillL ps cs) else (S [], 32)) else (S [], checkI ps rest)
theorem stars_le (ps : List Bs) : starsN ps ≤ ps.length := List.countP_le_length
theorem fill_ev (ps : List Bs) (rest : Bool) (cs : List Bs) (hl : ps.length ≤ 20) (hx : ∀ x ∈ ps, x.length ≤ 1000) (hc : ∀ x ∈ cs, x.length ≤ 1000) :
    Ev (fun k => pattern_Fill.f k (Ss ps) rest (Ss cs)) (fillR ps rest cs) := by
  simp only [pattern_Fill.f]
  rw [Ev.bind_iff (kinds_ev ps rest (by omega) (fun x hx2 => by have := hx x hx2; omega))]
  unfold kindsR fillR
  by_cases hck : checkI ps rest = 0
  · have hsl := stars_le ps
    simp only [hck, if_true]
    have go : ∀ b : Bool, b = rest → Ev (fun k => pattern_Fill.j0 k (Ss cs) b ((starsN ps + one rest : Nat) : Int) (Ss ps) rest) (if cs.length = starsN ps + one rest then endR rest [] (fillL ps cs) else (S [], 32)) := by
      rintro b rfl
      refine Ev.succ ?_
      simp only [pattern_Fill.j0, Ss_length]
      by_cases hn : cs.length = starsN ps + one b
      · have e : (cs.length : Int) = ((starsN ps + one b : Nat) : Int) := by omega
        have c1 : (0 : Int) ≤ (ps.length : Int) := by omega
        have c2 : ((ps.length : Int)).toNat ≤ 17592186044416 := by omega
        simp only [if_pos e, if_pos hn, if_pos c1, if_pos c2]
        have := fill_loop ps b hl hx ps.length 0 [] cs (by omega) (by simp) (by simp) hc (by simpa using hn)
        exact this
      · have e : ¬ (cs.length : Int) = ((starsN ps + one b : Nat) : Int) := by omega
        simp only [if_neg e, if_neg hn]
        exact Ev.now _
    cases rest
    · simp only [Bool.false_eq_true, if_false]
      have := go false rfl
      simpa [one] using this
    · simp only [if_true]
      have e : wrap64 (((starsN ps : Nat) : Int) + 1) = ((starsN ps + one true : Nat) : Int) := by rw [wrap64_id (by omega) (by omega)]; simp [one]
      rw [e]
      exact go true rfl
  · simp only [hck, if_false]
    exact Ev.now _

/-! ### the law of Match and Fill -/
theorem comp_app {c s : Bs} (h : compL c = true) (hs : s.all okU = true) : compL (c ++ s) = true := by
  cases c with
  | nil => cases h
  | cons x r =>
    simp only [compL, Bool.and_eq_true, List.all_cons] at h
    simp only [List.cons_append, compL, Bool.and_eq_true, List.all_cons, List.all_append]
    exact ⟨h.1, h.2.1, h.2.2, hs⟩
theorem star_ok {p s : Bs} (h : starL p = some s) : s.all okU = true := by
  have e := star_some h
  subst e
  by_cases hh : s.all okU = true
  · exact hh
  · simp [starL, hh] at h
theorem comp_ne {c : Bs} (h : compL c = true) : c ≠ [] := by
  rintro rfl
  cases h
theorem capR_app {c s : Bs} (h : c ≠ []) : capR (c ++ s) s = some c := by
  have h1 : 0 < c.length := List.length_pos_iff.2 h
  unfold capR
  rw [if_pos ⟨by rw [List.length_append]; omega, List.isSuffixOf_iff_suffix.2 ⟨c, rfl⟩⟩, List.length_append, Nat.add_sub_cancel, List.take_left]
theorem capR_some {w s x : Bs} (h : capR w s = some x) : w = x ++ s ∧ x ≠ [] := by
  unfold capR at h
  by_cases hh : s.length < w.length ∧ s.isSuffixOf w = true
  · rw [if_pos hh] at h
    injection h with h
    obtain ⟨t, rfl⟩ := List.isSuffixOf_iff_suffix.1 hh.2
    rw [List.length_append, Nat.add_sub_cancel, List.take_left] at h
    subst h
    refine ⟨rfl, ?_⟩
    rintro rfl
    have := hh.1
    simp at this
  · rw [if_neg hh] at h
    cases h
/-- Captures that fill parts are those of what they make. -/
theorem fill_match : ∀ (ps cs : List Bs) {o r : List Bs} (t : List Bs), (∀ x ∈ ps, partB x = true) → fillL ps cs = some (o, r) →
    o.length = ps.length ∧ o.all compL = true ∧ ∃ caps, matchL ps (o ++ t) = some caps ∧ cs = caps ++ r ∧ caps.length = starsN ps
  | [], cs, o, r, t, _, h => by
    simp only [fillL, Option.some.injEq, Prod.mk.injEq] at h
    obtain ⟨rfl, rfl⟩ := h
    exact ⟨rfl, rfl, [], rfl, rfl, rfl⟩
  | p :: ps, cs, o, r, t, hp, h => by
    simp only [fillL] at h
    have hp1 := hp p (by simp)
    have hp2 : ∀ x ∈ ps, partB x = true := fun x hx => hp x (List.mem_cons_of_mem _ hx)
    cases hs : starL p with
    | none =>
      rw [hs] at h
      dsimp only at h
      obtain ⟨⟨o', r'⟩, h1, h2⟩ := Option.map_eq_some_iff.1 h
      simp only [Prod.mk.injEq] at h2
      obtain ⟨rfl, rfl⟩ := h2
      obtain ⟨a1, a2, caps, a3, a4, a5⟩ := fill_match ps cs t hp2 h1
      have hc : compL p = true := by
        unfold partB at hp1
        rw [hs] at hp1
        simpa using hp1
      refine ⟨by simp [a1], by simp [hc, List.all_eq_true.1 a2] ; exact fun x hx => List.all_eq_true.1 a2 x hx, caps, ?_, a4, by rw [stars_cons_none hs, a5]⟩
      simp only [List.cons_append, matchL, hs, if_true]
      exact a3
    | some s =>
      rw [hs] at h
      dsimp only at h
      cases cs with
      | nil => cases h
      | cons c cs =>
        dsimp only at h
        by_cases hc : compL c = true
        · rw [if_pos hc] at h
          obtain ⟨⟨o', r'⟩, h1, h2⟩ := Option.map_eq_some_iff.1 h
          simp only [Prod.mk.injEq] at h2
          obtain ⟨rfl, rfl⟩ := h2
          obtain ⟨a1, a2, caps, a3, a4, a5⟩ := fill_match ps cs t hp2 h1
          refine ⟨by simp [a1], ?_, c :: caps, ?_, by rw [a4]; rfl, by rw [stars_cons_some hs, List.length_cons, a5]⟩
          · rw [List.all_cons, a2, comp_app hc (star_ok hs)]
            rfl
          · simp only [List.cons_append, matchL, hs, capR_app (comp_ne hc)]
            rw [a3]
            rfl
        · rw [if_neg hc] at h
          cases h
/-- The captures of components make those components. -/
theorem match_fill : ∀ (ps ws : List Bs) {caps : List Bs} (t : List Bs), (∀ x ∈ ws, compL x = true) → matchL ps ws = some caps → ps.length ≤ ws.length →
    fillL ps (caps ++ t) = some (ws.take ps.length, t) ∧ caps.length = starsN ps
  | [], ws, caps, t, _, h, _ => by
    simp only [matchL, Option.some.injEq] at h
    subst h
    exact ⟨by simp [fillL], rfl⟩
  | p :: ps, [], caps, t, _, h, _ => by cases h
  | p :: ps, w :: ws, caps, t, hw, h, hl => by
    simp only [matchL] at h
    have hw1 := hw w (by simp)
    have hw2 : ∀ x ∈ ws, compL x = true := fun x hx => hw x (List.mem_cons_of_mem _ hx)
    have hl2 : ps.length ≤ ws.length := by simpa using hl
    cases hs : starL p with
    | none =>
      rw [hs] at h
      dsimp only at h
      by_cases hq : w = p
      · rw [if_pos hq] at h
        obtain ⟨a1, a2⟩ := match_fill ps ws t hw2 h hl2
        refine ⟨?_, by rw [stars_cons_none hs, a2]⟩
        simp only [fillL, hs, a1, Option.map_some, List.length_cons, List.take_succ_cons, hq]
      · rw [if_neg hq] at h
        cases h
    | some s =>
      rw [hs] at h
      dsimp only at h
      cases hc : capR w s with
      | none => rw [hc] at h; cases h
      | some x =>
        rw [hc] at h
        dsimp only at h
        obtain ⟨caps', h1, rfl⟩ := Option.map_eq_some_iff.1 h
        obtain ⟨a1, a2⟩ := match_fill ps ws t hw2 h1 hl2
        obtain ⟨e1, e2⟩ := capR_some hc
        have hcx : compL x = true := by
          have := comp_take hw1 x.length
          rw [e1, List.take_left] at this
          rw [this, decide_eq_true_iff]
          exact List.length_pos_iff.2 e2
        refine ⟨?_, by rw [stars_cons_some hs, List.length_cons, a2]⟩
        simp only [List.cons_append, fillL, hs, hcx, if_true, a1, Option.map_some, List.length_cons, List.take_succ_cons, ← e1]
theorem fill_sizes : ∀ (ps cs : List Bs) {o r : List Bs}, fillL ps cs = some (o, r) → (∀ x ∈ ps, x.length ≤ 400) → (∀ x ∈ cs, x.length ≤ 400) →
    o.length = ps.length ∧ (∀ x ∈ o, x.length ≤ 800) ∧ ∀ x ∈ r, x.length ≤ 400
  | [], cs, o, r, h, _, hc => by
    simp only [fillL, Option.some.injEq, Prod.mk.injEq] at h
    obtain ⟨rfl, rfl⟩ := h
    exact ⟨rfl, by simp, hc⟩
  | p :: ps, cs, o, r, h, hp, hc => by
    simp only [fillL] at h
    have hp1 := hp p (by simp)
    have hp2 : ∀ x ∈ ps, x.length ≤ 400 := fun x hx => hp x (List.mem_cons_of_mem _ hx)
    cases hs : starL p with
    | none =>
      rw [hs] at h
      dsimp only at h
      obtain ⟨⟨o', r'⟩, h1, h2⟩ := Option.map_eq_some_iff.1 h
      simp only [Prod.mk.injEq] at h2
      obtain ⟨rfl, rfl⟩ := h2
      obtain ⟨a1, a2, a3⟩ := fill_sizes ps cs h1 hp2 hc
      refine ⟨by simp [a1], ?_, a3⟩
      intro x hx
      rcases List.mem_cons.1 hx with rfl | hx
      · omega
      · exact a2 x hx
    | some s =>
      rw [hs] at h
      dsimp only at h
      cases cs with
      | nil => cases h
      | cons c cs =>
        dsimp only at h
        by_cases hcc : compL c = true
        · rw [if_pos hcc] at h
          obtain ⟨⟨o', r'⟩, h1, h2⟩ := Option.map_eq_some_iff.1 h
          simp only [Prod.mk.injEq] at h2
          obtain ⟨rfl, rfl⟩ := h2
          obtain ⟨a1, a2, a3⟩ := fill_sizes ps cs h1 hp2 (fun x hx => hc x (List.mem_cons_of_mem _ hx))
          have hcl := hc c (by simp)
          have hsl := star_len hs
          refine ⟨by simp [a1], ?_, a3⟩
          intro x hx
          rcases List.mem_cons.1 hx with rfl | hx
          · rw [List.length_append]
            omega
          · exact a2 x hx
        · rw [if_neg hcc] at h
          cases h
theorem fill_size {ps cs : List Bs} {rest : Bool} (hl : ps.length ≤ 20) (hp : ∀ x ∈ ps, x.length ≤ 400) (hc : ∀ x ∈ cs, x.length ≤ 400) : (fillR ps rest cs).1.size ≤ 1000000 := by
  unfold fillR
  split
  · split
    · cases hf : fillL ps cs with
      | none => simp [endR]
      | some q =>
        obtain ⟨o, r⟩ := q
        obtain ⟨a1, a2, a3⟩ := fill_sizes ps cs hf hp hc
        simp only [endR, List.nil_append, join32]
        split
        · have hr : ∀ x ∈ restW rest r, x.length ≤ 400 := by
            intro x hx
            unfold restW at hx
            split at hx
            · have h1 := splitL_length_le _ x hx
              cases r with
              | nil =>
                simp only [List.headD_nil, List.length_nil] at h1
                omega
              | cons c r =>
                have := a3 c (by simp)
                simp only [List.headD_cons] at h1
                omega
            · simp at hx
          have hrl : (restW rest r).length ≤ 401 := by
            unfold restW
            split
            · have h1 := splitL_len_le (r.headD [])
              cases r with
              | nil =>
                simp only [List.headD_nil, List.length_nil] at h1 ⊢
                omega
              | cons c r =>
                have := a3 c (by simp)
                simp only [List.headD_cons] at h1 ⊢
                omega
            · simp
          have hj := joinL_bound 800 (o ++ restW rest r) (by
            intro x hx
            rcases List.mem_append.1 hx with h | h
            · exact a2 x h
            · have := hr x h; omega)
          have hm : (o ++ restW rest r).length * (800 + 1) ≤ 421 * (800 + 1) := Nat.mul_le_mul_right _ (by rw [List.length_append]; omega)
          rw [size_S]
          unfold textL
          simp only [List.length_cons]
          omega
        · simp
    · simp
  · simp
theorem check_len {ps : List Bs} {b : Bool} (h : checkI ps b = 0) : 1 ≤ ps.length ∧ (b = false → 2 ≤ ps.length) := by
  obtain ⟨h1, _, _, h4⟩ := check_ok h
  refine ⟨List.length_pos_iff.2 h4, ?_⟩
  rintro rfl
  match ps, h1 with
  | [a], h1 => simp [shapeB] at h1
  | a :: b :: r, _ => simp
theorem fill_of_match {ps : List Bs} {rest : Bool} {l : Bs} {o : List Bs} (h : matchP ps rest l = some o) : fillR ps rest o = (S l, 0) := by
  unfold matchP at h
  obtain ⟨ws, h1, h2⟩ := Option.bind_eq_some_iff.1 h
  unfold matchW at h2
  by_cases hc : checkI ps rest = 0 ∧ ps.length ≤ ws.length ∧ decide (ps.length < ws.length) = rest
  · rw [if_pos hc] at h2
    obtain ⟨hc1, hc2, hc3⟩ := hc
    obtain ⟨caps, h3, rfl⟩ := Option.map_eq_some_iff.1 h2
    obtain ⟨t1, t2, t3⟩ := path_text h1
    have hw : ∀ x ∈ ws, compL x = true := fun x hx => List.all_eq_true.1 t2 x hx
    obtain ⟨a1, a2⟩ := match_fill ps ws (restL ps.length rest ws) hw h3 hc2
    have hlen : (caps ++ restL ps.length rest ws).length = starsN ps + one rest := by
      rw [List.length_append, a2]
      cases rest <;> simp [restL, one]
    unfold fillR
    rw [if_pos hc1, if_pos hlen, a1]
    have hws : [] ++ ws.take ps.length ++ restW rest (restL ps.length rest ws) = ws := by
      cases rest
      · have : ws.length ≤ ps.length := by
          have := decide_eq_false_iff_not.1 hc3
          omega
        simp [restW, List.take_of_length_le this]
      · have : ps.length < ws.length := decide_eq_true_iff.1 hc3
        have hne : ws.drop ps.length ≠ [] := by
          intro e
          have := congrArg List.length e
          rw [List.length_drop, List.length_nil] at this
          omega
        simp only [restW, restL, if_true, List.headD_cons, List.nil_append]
        rw [split_join hne (fun x hx => comp_free (hw x (List.mem_of_mem_drop hx))), List.take_append_drop]
    simp only [endR, hws, join32]
    rw [if_pos ⟨t3, t2⟩, ← t1]
  · rw [if_neg hc] at h2
    cases h2
theorem match_of_fill {ps : List Bs} {rest : Bool} {cs : List Bs} {s : ByteArray} (h : fillR ps rest cs = (s, 0)) : matchP ps rest (L s) = some cs := by
  unfold fillR at h
  by_cases hc : checkI ps rest = 0
  · rw [if_pos hc] at h
    by_cases hn : cs.length = starsN ps + one rest
    · rw [if_pos hn] at h
      cases hf : fillL ps cs with
      | none => rw [hf] at h; simp [endR] at h
      | some q =>
        obtain ⟨o, r⟩ := q
        rw [hf] at h
        simp only [endR, List.nil_append, join32] at h
        by_cases hj : 2 ≤ (o ++ restW rest r).length ∧ (o ++ restW rest r).all compL = true
        · rw [if_pos hj] at h
          simp only [Prod.mk.injEq, and_true] at h
          obtain ⟨a1, a2, caps, a3, a4, a5⟩ := fill_match ps cs (restW rest r) (check_ok hc).2.2.1 hf
          unfold matchP
          rw [← h, L_S, text_path hj.2 hj.1, Option.bind_some]
          unfold matchW
          have hr : r.length = one rest := by
            rw [a4, List.length_append] at hn
            omega
          cases rest
          · have hr0 : r = [] := List.length_eq_zero_iff.1 hr
            subst hr0
            simp only [restW, Bool.false_eq_true, if_false, List.append_nil] at a3 ⊢
            rw [if_pos ⟨hc, by omega, by rw [decide_eq_false_iff_not]; omega⟩, a3, a4]
            simp [restL]
          · obtain ⟨c, rfl⟩ : ∃ c, r = [c] := List.length_eq_one_iff.1 hr
            have hpos : 0 < (splitL c).length := List.length_pos_iff.2 (splitL_ne c)
            simp only [restW, if_true, List.headD_cons] at a3 ⊢
            rw [if_pos ⟨hc, by rw [List.length_append]; omega, by rw [decide_eq_true_iff, List.length_append]; omega⟩, a3, a4]
            simp only [restL, if_true, Option.map_some, ← a1, List.drop_left, join_split]
        · rw [if_neg hj] at h
          simp at h
    · rw [if_neg hn] at h
      simp at h
  · rw [if_neg hc] at h
    simp only [Prod.mk.injEq] at h
    exact absurd h.2 hc
theorem match_sizes {ps : List Bs} {rest : Bool} {l : Bs} {o : List Bs} (h : matchP ps rest l = some o) : ∀ x ∈ o, x.length ≤ l.length := by
  unfold matchP at h
  obtain ⟨ws, h1, h2⟩ := Option.bind_eq_some_iff.1 h
  unfold matchW at h2
  by_cases hc : checkI ps rest = 0 ∧ ps.length ≤ ws.length ∧ decide (ps.length < ws.length) = rest
  · rw [if_pos hc] at h2
    obtain ⟨caps, h3, rfl⟩ := Option.map_eq_some_iff.1 h2
    obtain ⟨t1, t2, t3⟩ := path_text h1
    have hj : l.length = (joinL ws).length + 2 := by rw [t1]; simp [textL]
    have key : ∀ (ps ws : List Bs) {caps : List Bs}, matchL ps ws = some caps → ∀ x ∈ caps, ∃ w ∈ ws, x.length ≤ w.length := by
      intro ps
      induction ps with
      | nil =>
        intro ws caps h x hx
        simp only [matchL, Option.some.injEq] at h
        subst h
        simp at hx
      | cons p ps ih =>
        intro ws caps h x hx
        cases ws with
        | nil => cases h
        | cons w ws =>
          simp only [matchL] at h
          cases hs : starL p with
          | none =>
            rw [hs] at h
            dsimp only at h
            by_cases hq : w = p
            · rw [if_pos hq] at h
              obtain ⟨w', h1, h2⟩ := ih ws h x hx
              exact ⟨w', List.mem_cons_of_mem _ h1, h2⟩
            · rw [if_neg hq] at h
              cases h
          | some s =>
            rw [hs] at h
            dsimp only at h
            cases hc : capR w s with
            | none => rw [hc] at h; cases h
            | some y =>
              rw [hc] at h
              dsimp only at h
              obtain ⟨caps', h1, rfl⟩ := Option.map_eq_some_iff.1 h
              rcases List.mem_cons.1 hx with rfl | hx
              · refine ⟨w, by simp, ?_⟩
                rw [(capR_some hc).1, List.length_append]
                omega
              · obtain ⟨w', h3, h4⟩ := ih ws h1 x hx
                exact ⟨w', List.mem_cons_of_mem _ h3, h4⟩
    intro x hx
    rcases List.mem_append.1 hx with hx | hx
    · obtain ⟨w, hw, hle⟩ := key ps ws h3 x hx
      have hd := (pathL_length h1).2.2
      unfold dirL at hd
      split at hd
      · injection hd with hd
        have := splitL_length_le (l.drop 2) w (by rw [hd]; exact hw)
        rw [List.length_drop] at this
        omega
      · cases hd
    · unfold restL at hx
      split at hx
      · rw [List.mem_singleton.1 hx]
        have hle : ∀ (n : Nat) (ws : List Bs), (joinL (ws.drop n)).length ≤ (joinL ws).length := by
          intro n
          induction n with
          | zero => intro ws; simp
          | succ n ih =>
            intro ws
            cases ws with
            | nil => simp
            | cons a r =>
              rw [List.drop_succ_cons]
              refine Nat.le_trans (ih r) ?_
              cases r with
              | nil => simp [joinL]
              | cons b r =>
                rw [join_cons a (by simp), List.length_append, List.length_cons]
                omega
        have := hle ps.length ws
        omega
      · simp at hx
  · rw [if_neg hc] at h2
    cases h2
end Go.Proofs.YthclkdplihchjaaDoor.P

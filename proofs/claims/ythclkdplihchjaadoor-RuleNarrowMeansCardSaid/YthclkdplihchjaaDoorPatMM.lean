/-
  Layer 3: the reference's Match (where it stands apart). No project text.
-/
import Derived.Test.YthclkdplihchjaaDoorPatB
import Derived.Test.YthclkdplihchjaaDoorPatR2
import Derived.Test.YthclkdplihchjaaDoorPx1
import Derived.Test.YthclkdplihchjaaDoorPx4
import Derived.Test.YthclkdplihchjaaDoorPx5
namespace Go.Proofs.YthclkdplihchjaaDoor.P
open Go.RowKit Go.Proofs.YthclkdplihchjaaDoorW.PrintWords Go.Proofs.YthclkdplihchjaaDoor.Args
set_option linter.unusedVariables false
set_option linter.unusedSimpArgs false

theorem parts_loop (r xs : List ByteArray) (hl : xs.length ≤ 4611686018427387904) (hx : ∀ x ∈ xs, x.size ≤ 4611686018427387904) : ∀ (d i : Nat), i + d = xs.length →
    Ev (fun k => stockyardref02_Parts.l0 k r xs (xs.length : Int) (i : Int)) (if (xs.drop i).all (fun s => compL (L s)) = true then (r, true) else ([], false)) := by
  intro d
  induction d with
  | zero =>
    intro i hi
    refine Ev.succ ?_
    simp (disch := omega) only [stockyardref02_Parts.l0, if_neg]
    rw [List.drop_of_length_le (by omega)]
    exact Ev.now _
  | succ d ih =>
    intro i hi
    have hlt : i < xs.length := by omega
    refine Ev.succ ?_
    simp (disch := omega) only [stockyardref02_Parts.l0, if_pos, wrap64_id]
    rw [rdOf_get _ _ (by omega) (by omega)]
    simp only [Int.toNat_natCast]
    rw [Ev.bind_iff (refcomp_ev _ (hx _ (List.getElem_mem hlt))), List.drop_eq_getElem_cons hlt, List.all_cons]
    cases hc : compL (L xs[i])
    · simp only [Bool.false_eq_true, if_false, Bool.false_and]
      exact Ev.now _
    · simp only [if_true, Bool.true_and]
      exact ih (i + 1) (by omega)
theorem refparts_ev (s : ByteArray) (hs : s.size ≤ 1048576) : Ev (fun k => stockyardref02_Parts.f k s) (dirR (dirL (L s))) := by
  have hsz := size_eq s
  simp only [stockyardref02_Parts.f, strings_HasPrefix.f, hasPrefix_eq, Option.bind_some]
  rw [L_lit]
  unfold dirL
  by_cases h : [47, 47].isPrefixOf (L s) = true
  · have hl := (List.isPrefixOf_iff_prefix.1 h).length_le
    simp only [List.length_cons, List.length_nil] at hl
    have h2s : (2 : Int) ≤ (s.size : Int) := by omega
    simp only [h, if_true, true_and, if_pos h2s]
    rw [extract_from]
    have hd : (S ((L s).drop 2)).size ≤ 1048576 := by rw [size_S, List.length_drop]; omega
    rw [split_eq _ (by omega)]
    simp only [Option.bind_some]
    rw [L_S]
    have hcnt := splitL_count ((L s).drop 2)
    have hcl : ((L s).drop 2).count 47 ≤ ((L s).drop 2).length := List.count_le_length
    rw [List.length_drop] at hcl
    have h2 := parts_loop (Ss (splitL ((L s).drop 2))) (Ss (splitL ((L s).drop 2))) (by rw [Ss_length]; omega) (Ss_sizes (by rw [List.length_drop]; omega)) _ 0 (Nat.zero_add _)
    rw [List.drop_zero, Ss_all] at h2
    refine Ev.of_eq h2 ?_
    split <;> rfl
  · have h' : ¬ ([47, 47].isPrefixOf (L s) = true) := h
    simp only [h', Bool.false_eq_true, if_false, false_and]
    exact Ev.now _
theorem refpath_ev (s : ByteArray) (hs : s.size ≤ 1048576) : Ev (fun k => stockyardref02_Path.f k s) (dirR (pathL (L s))) := by
  simp only [stockyardref02_Path.f]
  rw [Ev.bind_iff (refparts_ev s hs)]
  unfold pathL
  cases h : dirL (L s) with
  | none => exact Ev.now _
  | some ps =>
    simp only [dirR, Option.bind_some, if_true, Ss_length]
    by_cases h2 : ps.length < 2
    · simp (disch := omega) only [if_pos]
      exact Ev.now _
    · simp (disch := omega) only [if_neg]
      exact Ev.now _

def refCapR (p w : Bs) : Option Bs := match starL p with
  | none => if p = w then some [] else none
  | some s => capR w s
theorem refcapture_ev (p w : Bs) (hp : p.length ≤ 1048576) (hw : w.length ≤ 1048576) (hc : compL w = true) :
    ∃ x, Ev (fun k => stockyardref03_Capture.f k (S p) (S w)) x ∧ x.2 = (refCapR p w).isSome ∧ ∀ y, refCapR p w = some y → x.1 = S y := by
  simp only [stockyardref03_Capture.f]
  unfold refCapR
  have hst := refstar_ev (S p) (by rw [size_S]; exact hp)
  rw [L_S] at hst
  cases hs : starL p with
  | none =>
    rw [hs] at hst
    refine ⟨(S [], p == w), ?_, ?_, ?_⟩
    · rw [Ev.bind_iff hst]
      simp only [strR, Bool.false_eq_true, if_false, toList_eq, L_S]
      exact Ev.now _
    · by_cases h : p = w
      · simp [h]
      · simp [h]
    · intro y hy
      dsimp only at hy
      by_cases h : p = w
      · rw [if_pos h] at hy
        injection hy with hy
        rw [← hy]
      · rw [if_neg h] at hy
        cases hy
  | some s =>
    rw [hs] at hst
    have hsl : s.length ≤ 1048576 := by
      have := star_some hs
      rw [this, List.length_cons] at hp
      omega
    by_cases hsuf : s.isSuffixOf w = true
    · have hle := (List.isSuffixOf_iff_suffix.1 hsuf).length_le
      refine ⟨(S (w.take (w.length - s.length)), decide (0 < w.length - s.length)), ?_, ?_, ?_⟩
      · rw [Ev.bind_iff hst]
        simp only [strR, if_true, strings_HasSuffix.f, hasSuffix_eq (S w) (S s) (by rw [size_S]; omega), L_S, Option.bind_some, hsuf, size_S]
        have ew : wrap64 ((w.length : Int) - (s.length : Int)) = ((w.length - s.length : Nat) : Int) := by rw [wrap64_id (by omega) (by omega)]; omega
        rw [ew]
        have c1 : (0 : Int) ≤ ((w.length - s.length : Nat) : Int) := by omega
        have c2 : ((w.length - s.length : Nat) : Int) ≤ (w.length : Int) := by omega
        simp only [if_pos c1, if_pos c2, Int.toNat_natCast]
        rw [extract_to, L_S, Ev.bind_iff (refcomp_ev _ (by rw [size_S, List.length_take]; omega)), L_S, comp_take hc]
        exact Ev.now _
      · unfold capR
        by_cases h : s.length < w.length
        · have : 0 < w.length - s.length := by omega
          simp only [h, hsuf, and_self, if_true, Option.isSome_some, this, decide_true]
        · have : ¬ 0 < w.length - s.length := by omega
          simp only [h, false_and, if_false, Option.isSome_none, this, decide_false]
      · intro y hy
        dsimp only at hy
        unfold capR at hy
        by_cases h : s.length < w.length ∧ s.isSuffixOf w = true
        · rw [if_pos h] at hy
          injection hy with hy
          rw [← hy]
        · rw [if_neg h] at hy
          cases hy
    · refine ⟨(S [], false), ?_, ?_, ?_⟩
      · rw [Ev.bind_iff hst]
        simp only [strR, if_true, strings_HasSuffix.f, hasSuffix_eq (S w) (S s) (by rw [size_S]; omega), L_S, Option.bind_some, hsuf, Bool.false_eq_true, if_false]
        exact Ev.now _
      · simp [capR, hsuf]
      · intro y hy
        simp [capR, hsuf] at hy
theorem refmatch_loop (ps ws : List Bs) (rest : Bool) (hl : ps.length ≤ 20) (hx : ∀ x ∈ ps, x.length ≤ 1048576)
    (hlw : ws.length ≤ 1048576) (hw : ∀ x ∈ ws, x.length ≤ 1048576) (hcw : ∀ x ∈ ws, compL x = true) (hn : ps.length ≤ ws.length) : ∀ (d i : Nat) (acc : List Bs), i + d = ps.length → acc.length ≤ i →
    Ev (fun k => stockyardref03_Match.l0 k (Ss ws) (ps.length : Int) (Ss acc) (Ss ps) (ps.length : Int) (i : Int) (Ss ps) rest) (roundR acc (matchL (ps.drop i) (ws.drop i)) (restL ps.length rest ws)) := by
  intro d
  induction d with
  | zero =>
    intro i acc hi ha
    refine Ev.succ ?_
    simp (disch := omega) only [stockyardref03_Match.l0, if_neg]
    rw [tail_ev acc ws ps.length rest (by omega) hn hlw hw, List.drop_of_length_le (by omega), Ev.some_iff]
    simp only [matchL]
  | succ d ih =>
    intro i acc hi ha
    have hlt : i < ps.length := by omega
    have hlt2 : i < ws.length := by omega
    have hxi := hx _ (List.getElem_mem hlt)
    have hwi := hw _ (List.getElem_mem hlt2)
    obtain ⟨⟨x, ok⟩, h1, h2, h3⟩ := refcapture_ev ps[i] ws[i] hxi hwi (hcw _ (List.getElem_mem hlt2))
    simp only at h2 h3
    refine Ev.succ ?_
    simp only [stockyardref03_Match.l0, Ss_length]
    have c1 : (i : Int) < (ps.length : Int) := by omega
    have c2 : (0 : Int) ≤ (i : Int) := by omega
    have c3 : (i : Int) < (ws.length : Int) := by omega
    have c4 : acc.length < 8796093022208 := by omega
    have e : wrap64 ((i : Int) + 1) = ((i + 1 : Nat) : Int) := by rw [wrap64_id (by omega) (by omega)]; omega
    simp only [if_pos c1, if_pos c2, if_pos c3, if_pos c4, e]
    have hst := refstar_ev (S ps[i]) (by rw [size_S]; exact hxi)
    rw [L_S] at hst
    rw [rd_Ss ps i hlt, rd_Ss ws i hlt2, Ev.bind_iff h1, List.drop_eq_getElem_cons hlt, List.drop_eq_getElem_cons hlt2]
    simp only [matchL]
    unfold refCapR at h2 h3
    cases hs : starL ps[i] with
    | none =>
      rw [hs] at h2 h3 hst
      by_cases hq : ps[i] = ws[i]
      · simp only [hq, if_true, Option.isSome_some] at h2
        subst h2
        simp only [if_true, hq.symm]
        rw [Ev.bind_iff hst]
        simp only [strR, Bool.false_eq_true, if_false]
        exact ih (i + 1) acc (by omega) (by omega)
      · have hq' : ¬ ws[i] = ps[i] := fun h => hq h.symm
        simp only [hq, if_false, Option.isSome_none] at h2
        subst h2
        simp only [hq', Bool.false_eq_true, if_false, roundR_none]
        exact Ev.now _
    | some r =>
      rw [hs] at h2 h3 hst
      simp only at h2 h3
      cases hcap : capR ws[i] r with
      | none =>
        rw [hcap] at h2
        simp only [Option.isSome_none] at h2
        subst h2
        simp only [hcap, Bool.false_eq_true, if_false, roundR_none]
        exact Ev.now _
      | some y =>
        rw [hcap] at h2
        simp only [Option.isSome_some] at h2
        subst h2
        have hxy := h3 y hcap
        subst hxy
        simp only [if_true]
        rw [Ev.bind_iff hst]
        simp only [hcap, strR, if_true, roundR_cons, Ss_snoc]
        exact ih (i + 1) (acc ++ [y]) (by omega) (by simp; omega)
theorem refmatch_ev (ps : List Bs) (rest : Bool) (s : ByteArray) (hl : ps.length ≤ 1048576) (hx : ∀ x ∈ ps, x.length ≤ 1048576) (hs : s.size ≤ 1000000) :
    Ev (fun k => stockyardref03_Match.f k (Ss ps) rest s) (dirR (matchP ps rest (L s))) := by
  have hsz := size_eq s
  simp only [stockyardref03_Match.f]
  rw [Ev.bind_iff (refpath_ev s (by omega)), Ev.bind_iff (refcheck_ev ps rest hl hx)]
  unfold matchP
  have no : ∀ (w : List ByteArray) (n : Int), Ev (fun k => stockyardref03_Match.j0 k w n true (Ss ps) rest) ([], false) := by
    intro w n
    refine Ev.succ ?_
    simp only [stockyardref03_Match.j0, if_true]
    exact Ev.now _
  cases hp : pathL (L s) with
  | none =>
    simp only [dirR, Bool.false_eq_true, if_false, Option.bind_none]
    by_cases hc : checkI ps rest = 0
    · simp only [hc, if_true]
      exact no _ _
    · simp only [hc, if_false]
      exact no _ _
  | some ws =>
    have e0 : dirR (some ws) = (Ss ws, true) := rfl
    simp only [e0, if_true, Option.bind_some, Ss_length]
    unfold matchW
    by_cases hc : checkI ps rest = 0
    · simp only [hc, if_true, true_and]
      have hcc := check_ok hc
      have h4 := pathL_length hp
      have h5 := (path_text hp).2.1
      have hws : ∀ x ∈ ws, x.length ≤ 1048576 := fun y hy => by
        have e := h4.2.2
        unfold dirL at e
        split at e
        · injection e with e
          have := splitL_length_le ((L s).drop 2) y (by rw [e]; exact hy)
          rw [List.length_drop] at this
          omega
        · cases e
      have yes : ps.length ≤ ws.length → Ev (fun k => stockyardref03_Match.j0 k (Ss ws) (ps.length : Int) false (Ss ps) rest) (dirR ((matchL ps ws).map (· ++ restL ps.length rest ws))) := by
        intro c2
        refine Ev.succ ?_
        simp only [stockyardref03_Match.j0, Bool.false_eq_true, if_false, Ss_length]
        have := refmatch_loop ps ws rest (by omega) hx (by omega) hws (fun x hx2 => List.all_eq_true.1 h5 x hx2) c2 ps.length 0 [] (by omega) (by simp)
        refine Ev.of_eq this ?_
        simp [roundR]
      by_cases hlt : ws.length < ps.length
      · have c1 : (ws.length : Int) < (ps.length : Int) := by omega
        have c2 : ¬ ps.length ≤ ws.length := by omega
        simp only [if_pos c1, c2, false_and, if_false, dirR_none]
        exact no _ _
      · have c1 : ¬ (ws.length : Int) < (ps.length : Int) := by omega
        have c2 : ps.length ≤ ws.length := by omega
        simp only [if_neg c1, c2, true_and]
        cases rest
        · by_cases hgt : ps.length < ws.length
          · have c3 : (ws.length : Int) > (ps.length : Int) := by omega
            simp only [Bool.false_eq_true, if_false, if_pos c3, hgt, decide_true, Bool.true_eq_false, dirR_none]
            exact no _ _
          · have c3 : ¬ (ws.length : Int) > (ps.length : Int) := by omega
            simp only [Bool.false_eq_true, if_false, if_neg c3, hgt, decide_false, if_true]
            exact yes c2
        · by_cases hgt : ps.length < ws.length
          · have c3 : ((ws.length : Int) == (ps.length : Int)) = false := by rw [beq_eq_false_iff_ne]; omega
            simp only [if_true, c3, hgt, decide_true]
            exact yes c2
          · have c3 : ((ws.length : Int) == (ps.length : Int)) = true := by rw [beq_iff_eq]; omega
            simp only [if_true, c3, hgt, decide_false, Bool.false_eq_true, if_false, dirR_none]
            exact no _ _
    · simp only [hc, if_false, false_and, dirR_none]
      exact no _ _
end Go.Proofs.YthclkdplihchjaaDoor.P

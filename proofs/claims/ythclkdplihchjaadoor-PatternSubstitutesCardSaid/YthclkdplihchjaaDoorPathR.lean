/-
  Layer 2: the reference's components and paths (where they stand apart). No project text.
-/
import Derived.Test.YthclkdplihchjaaDoorText
import Derived.Test.YthclkdplihchjaaDoorPx1
import Derived.Test.YthclkdplihchjaaDoorPx5
import Derived.Test.YthclkdplihchjaaDoorPx6
namespace Go.Proofs.YthclkdplihchjaaDoor.P
open Go.RowKit Go.Proofs.YthclkdplihchjaaDoorW.PrintWords
set_option linter.unusedVariables false
set_option linter.unusedSimpArgs false

theorem refcomp_loop (s : ByteArray) (hs : s.size ≤ 4611686018427387904) : ∀ (d i : Nat), i + d = (L s).length → Ev (fun k => stockyardref02_Component.l0 k s (i : Int)) (((L s).drop i).all okU) := by
  intro d
  have hsz := size_eq s
  induction d with
  | zero =>
    intro i hi
    refine Ev.succ ?_
    simp (disch := omega) only [stockyardref02_Component.l0, if_neg]
    rw [List.drop_of_length_le (by omega)]
    exact Ev.now _
  | succ d ih =>
    intro i hi
    have hlt : i < (L s).length := by omega
    refine Ev.succ ?_
    simp (disch := omega) only [stockyardref02_Component.l0, if_pos, wrap64_id, strings_IndexByte.f, Option.bind_some]
    have e : ((bt s (i : Int)).toNat.toUInt8) = (L s)[i] := by rw [bt_eq s i hlt]; simp
    rw [e, List.drop_eq_getElem_cons hlt, List.all_cons]
    change Ev (fun k => if Lib.indexByte lettersL (L s)[i] < 0 then _ else _) _
    cases hc : okU (L s)[i]
    · simp only [if_pos ((letters_index _).2 hc), Bool.false_and]
      exact Ev.now _
    · have hn : ¬ Lib.indexByte lettersL (L s)[i] < 0 := fun h => by rw [(letters_index _).1 h] at hc; cases hc
      simp only [if_neg hn, Bool.true_and]
      exact ih (i + 1) (by omega)
theorem refcomp_ev (s : ByteArray) (hs : s.size ≤ 4611686018427387904) : Ev (fun k => stockyardref02_Component.f k s) (compL (L s)) := by
  have hsz := size_eq s
  have hl := refcomp_loop s hs (L s).length 0 (by omega)
  simp only [stockyardref02_Component.f]
  rw [toList_eq]
  cases h : L s with
  | nil =>
    rw [h] at hsz
    simp only [if_true]
    refine Ev.succ ?_
    simp only [stockyardref02_Component.j0, if_true]
    exact Ev.now _
  | cons c r =>
    have h0 : 0 < (L s).length := by rw [h]; simp
    simp (disch := omega) only [reduceCtorEq, if_false, if_pos]
    have hb : bt s 0 = (c.toNat : Int) := by
      have := bt_eq s 0 h0
      simp only [h] at this
      simpa using this
    rw [hb]
    refine Ev.succ ?_
    simp only [stockyardref02_Component.j0]
    rw [h] at hl
    simp only [List.drop_zero] at hl
    by_cases hc : c = 46
    · subst hc
      simp [compL, Ev.some_iff]
    · have : ((c.toNat : Int) == 46) = false := by
        rw [beq_eq_false_iff_ne]
        intro e
        exact hc (UInt8.toNat_inj.1 (by have h46 : (46 : UInt8).toNat = 46 := rfl; omega))
      have e2 : compL (c :: r) = (c :: r).all okU := by simp [compL, hc]
      rw [this, e2]
      simp only [Bool.false_eq_true, if_false]
      exact hl
theorem parts_loop (r xs : List ByteArray) (hl : xs.length ≤ 4611686018427387904) (hx : ∀ x ∈ xs, x.size ≤ 4611686018427387904) : ∀ (d i : Nat), i + d = xs.length →
    Ev (fun k => stockyardref02_Parts.l0 k r xs (xs.length : Int) (i : Int)) (if (xs.drop i).all (fun s => compL (L s)) = true then (r, true) else ([], false)) := by
  intro d
  induction d with
  | zero =>
    intro i hi
    refine Ev.succ ?_
    simp (disch := omega) only [stockyardref02_Parts.l0, if_neg]
    rw [List.drop_of_length_le (by omega)]
    exact Ev.now _
  | succ d ih =>
    intro i hi
    have hlt : i < xs.length := by omega
    refine Ev.succ ?_
    simp (disch := omega) only [stockyardref02_Parts.l0, if_pos, wrap64_id]
    rw [rdOf_get _ _ (by omega) (by omega)]
    simp only [Int.toNat_natCast]
    rw [Ev.bind_iff (refcomp_ev _ (hx _ (List.getElem_mem hlt))), List.drop_eq_getElem_cons hlt, List.all_cons]
    cases hc : compL (L xs[i])
    · simp only [Bool.false_eq_true, if_false, Bool.false_and]
      exact Ev.now _
    · simp only [if_true, Bool.true_and]
      exact ih (i + 1) (by omega)
theorem refparts_ev (s : ByteArray) (hs : s.size ≤ 1048576) : Ev (fun k => stockyardref02_Parts.f k s) (dirR (dirL (L s))) := by
  have hsz := size_eq s
  simp only [stockyardref02_Parts.f, strings_HasPrefix.f, hasPrefix_eq, Option.bind_some]
  rw [L_lit]
  unfold dirL
  by_cases h : [47, 47].isPrefixOf (L s) = true
  · have hl := (List.isPrefixOf_iff_prefix.1 h).length_le
    simp only [List.length_cons, List.length_nil] at hl
    have h2s : (2 : Int) ≤ (s.size : Int) := by omega
    simp only [h, if_true, true_and, if_pos h2s]
    rw [extract_from]
    have hd : (S ((L s).drop 2)).size ≤ 1048576 := by rw [size_S, List.length_drop]; omega
    rw [split_eq _ (by omega)]
    simp only [Option.bind_some]
    rw [L_S]
    have hcnt := splitL_count ((L s).drop 2)
    have hcl : ((L s).drop 2).count 47 ≤ ((L s).drop 2).length := List.count_le_length
    rw [List.length_drop] at hcl
    have h2 := parts_loop (Ss (splitL ((L s).drop 2))) (Ss (splitL ((L s).drop 2))) (by rw [Ss_length]; omega) (Ss_sizes (by rw [List.length_drop]; omega)) _ 0 (Nat.zero_add _)
    rw [List.drop_zero, Ss_all] at h2
    refine Ev.of_eq h2 ?_
    split <;> rfl
  · have h' : ¬ ([47, 47].isPrefixOf (L s) = true) := h
    simp only [h', Bool.false_eq_true, if_false, false_and]
    exact Ev.now _
theorem refpath_ev (s : ByteArray) (hs : s.size ≤ 1048576) : Ev (fun k => stockyardref02_Path.f k s) (dirR (pathL (L s))) := by
  simp only [stockyardref02_Path.f]
  rw [Ev.bind_iff (refparts_ev s hs)]
  unfold pathL
  cases h : dirL (L s) with
  | none => exact Ev.now _
  | some ps =>
    simp only [dirR, Option.bind_some, if_true, Ss_length]
    by_cases h2 : ps.length < 2
    · simp (disch := omega) only [if_pos]
      exact Ev.now _
    · simp (disch := omega) only [if_neg]
      exact Ev.now _
end Go.Proofs.YthclkdplihchjaaDoor.P

/-
  Layer 3: the reference's parts and patterns (where they stand apart). No project text.
-/
import Derived.Test.YthclkdplihchjaaDoorPat
import Derived.Test.YthclkdplihchjaaDoorPx4
namespace Go.Proofs.YthclkdplihchjaaDoor.P
open Go.RowKit Go.Proofs.YthclkdplihchjaaDoorW.PrintWords
set_option linter.unusedVariables false
set_option linter.unusedSimpArgs false

theorem refcomp_loop (s : ByteArray) (hs : s.size ≤ 4611686018427387904) : ∀ (d i : Nat), i + d = (L s).length → Ev (fun k => stockyardref02_Component.l0 k s (i : Int)) (((L s).drop i).all okU) := by
  intro d
  have hsz := size_eq s
  induction d with
  | zero =>
    intro i hi
    refine Ev.succ ?_
    simp (disch := omega) only [stockyardref02_Component.l0, if_neg]
    rw [List.drop_of_length_le (by omega)]
    exact Ev.now _
  | succ d ih =>
    intro i hi
    have hlt : i < (L s).length := by omega
    refine Ev.succ ?_
    simp (disch := omega) only [stockyardref02_Component.l0, if_pos, wrap64_id, strings_IndexByte.f, Option.bind_some]
    have e : ((bt s (i : Int)).toNat.toUInt8) = (L s)[i] := by rw [bt_eq s i hlt]; simp
    rw [e, List.drop_eq_getElem_cons hlt, List.all_cons]
    change Ev (fun k => if Lib.indexByte lettersL (L s)[i] < 0 then _ else _) _
    cases hc : okU (L s)[i]
    · simp only [if_pos ((letters_index _).2 hc), Bool.false_and]
      exact Ev.now _
    · have hn : ¬ Lib.indexByte lettersL (L s)[i] < 0 := fun h => by rw [(letters_index _).1 h] at hc; cases hc
      simp only [if_neg hn, Bool.true_and]
      exact ih (i + 1) (by omega)
theorem refcomp_ev (s : ByteArray) (hs : s.size ≤ 4611686018427387904) : Ev (fun k => stockyardref02_Component.f k s) (compL (L s)) := by
  have hsz := size_eq s
  have hl := refcomp_loop s hs (L s).length 0 (by omega)
  simp only [stockyardref02_Component.f]
  rw [toList_eq]
  cases h : L s with
  | nil =>
    rw [h] at hsz
    simp only [if_true]
    refine Ev.succ ?_
    simp only [stockyardref02_Component.j0, if_true]
    exact Ev.now _
  | cons c r =>
    have h0 : 0 < (L s).length := by rw [h]; simp
    simp (disch := omega) only [reduceCtorEq, if_false, if_pos]
    have hb : bt s 0 = (c.toNat : Int) := by
      have := bt_eq s 0 h0
      simp only [h] at this
      simpa using this
    rw [hb]
    refine Ev.succ ?_
    simp only [stockyardref02_Component.j0]
    rw [h] at hl
    simp only [List.drop_zero] at hl
    by_cases hc : c = 46
    · subst hc
      simp [compL, Ev.some_iff]
    · have : ((c.toNat : Int) == 46) = false := by
        rw [beq_eq_false_iff_ne]
        intro e
        exact hc (UInt8.toNat_inj.1 (by have h46 : (46 : UInt8).toNat = 46 := rfl; omega))
      have e2 : compL (c :: r) = (c :: r).all okU := by simp [compL, hc]
      rw [this, e2]
      simp only [Bool.false_eq_true, if_false]
      exact hl
theorem refstar_loop (s : ByteArray) (hs : s.size ≤ 1048576) (h1 : 1 ≤ s.size) : ∀ (d i : Nat), i + d = (L s).length →
    Ev (fun k => stockyardref03_Star.l0 k s (i : Int)) (if ((L s).drop i).all okU = true then (S ((L s).drop 1), true) else (S [], false)) := by
  intro d
  have hsz := size_eq s
  induction d with
  | zero =>
    intro i hi
    refine Ev.succ ?_
    simp (disch := omega) only [stockyardref03_Star.l0, if_neg, if_pos]
    rw [List.drop_of_length_le (by omega), extract_from]
    exact Ev.now _
  | succ d ih =>
    intro i hi
    have hlt : i < (L s).length := by omega
    refine Ev.succ ?_
    simp (disch := omega) only [stockyardref03_Star.l0, if_pos, wrap64_id, strings_IndexByte.f, Option.bind_some]
    rw [bt_eq s i hlt, List.drop_eq_getElem_cons hlt, List.all_cons]
    have e : ((((L s)[i]).toNat : Int)).toNat.toUInt8 = (L s)[i] := by simp
    rw [e]
    have hx := letters_index (L s)[i]
    change Ev (fun k => if Lib.indexByte lettersL (L s)[i] < 0 then _ else _) _
    cases hc : okU (L s)[i]
    · simp only [hx.2 hc, if_true, Bool.false_and, Bool.false_eq_true, if_false]
      exact Ev.now _
    · have : ¬ Lib.indexByte lettersL (L s)[i] < 0 := by rw [hx]; simp [hc]
      simp only [this, if_false, Bool.true_and]
      exact ih (i + 1) (by omega)
theorem refstar_ev (s : ByteArray) (hs : s.size ≤ 1048576) : Ev (fun k => stockyardref03_Star.f k s) (strR (starL (L s))) := by
  have hsz := size_eq s
  simp only [stockyardref03_Star.f]
  rw [toList_eq]
  cases h : L s with
  | nil =>
    simp only [if_true]
    refine Ev.succ ?_
    simp only [stockyardref03_Star.j0, if_true]
    exact Ev.now _
  | cons c r =>
    have h0 : 0 < (L s).length := by rw [h]; simp
    simp (disch := omega) only [reduceCtorEq, if_false, if_pos]
    have hb : bt s 0 = (c.toNat : Int) := by
      have := bt_eq s 0 h0
      simp only [h] at this
      simpa using this
    rw [hb]
    refine Ev.succ ?_
    simp only [stockyardref03_Star.j0]
    by_cases hc : c = 42
    · subst hc
      have e : (((42 : UInt8).toNat : Int) != 42) = false := by decide
      have hloop := refstar_loop s hs (by omega) r.length 1 (by rw [h, List.length_cons]; omega)
      rw [h] at hloop
      simp only [e, Bool.false_eq_true, if_false, starL, true_and]
      refine Ev.of_eq hloop ?_
      simp only [List.drop_succ_cons, List.drop_zero]
      split <;> rfl
    · have e : ((c.toNat : Int) != 42) = true := by
        rw [bne_iff_ne]
        intro e
        exact hc (UInt8.toNat_inj.1 (by have h42 : (42 : UInt8).toNat = 42 := rfl; omega))
      simp only [e, if_true, starL, hc, false_and, if_false, strR]
      exact Ev.now _
theorem refpart_ev (s : ByteArray) (hs : s.size ≤ 1048576) : Ev (fun k => stockyardref03_Part.f k s) (partB (L s)) := by
  simp only [stockyardref03_Part.f]
  rw [Ev.bind_iff (refstar_ev s hs)]
  unfold partB
  cases h : starL (L s) with
  | some r =>
    simp only [strR, if_true, Option.isSome_some, Bool.true_or]
    exact Ev.now _
  | none =>
    simp only [strR, Bool.false_eq_true, if_false, Option.isSome_none, Bool.false_or]
    rw [Ev.bind_some]
    exact refcomp_ev s (by omega)
theorem refcheck_loop (ps qs : List Bs) (b : Bool) (hl : ps.length ≤ 1048576) (hx : ∀ x ∈ qs, x.length ≤ 1048576) (hq : qs.length ≤ 1048576) : ∀ (d i : Nat), i + d = qs.length →
    Ev (fun k => stockyardref03_Check.l0 k (Ss qs) (qs.length : Int) (i : Int) (Ss ps) b) (if (qs.drop i).all partB = true then (if ps.length > 12 then 31 else 0) else 30) := by
  intro d
  induction d with
  | zero =>
    intro i hi
    refine Ev.succ ?_
    simp (disch := omega) only [stockyardref03_Check.l0, if_neg, Ss_length]
    rw [List.drop_of_length_le (by omega)]
    simp only [List.all_nil, if_true]
    by_cases h2 : ps.length > 12
    · have : (ps.length : Int) > 12 := by omega
      simp only [h2, this, if_true]
      exact Ev.now _
    · have : ¬ (ps.length : Int) > 12 := by omega
      simp only [h2, this, if_false]
      exact Ev.now _
  | succ d ih =>
    intro i hi
    have hlt : i < qs.length := by omega
    refine Ev.succ ?_
    simp (disch := omega) only [stockyardref03_Check.l0, Ss_length, if_pos, wrap64_id]
    rw [rd_Ss qs i hlt, Ev.bind_iff (refpart_ev _ (by rw [size_S]; exact hx _ (List.getElem_mem hlt))), L_S, List.drop_eq_getElem_cons hlt, List.all_cons]
    cases hc : partB qs[i]
    · simp only [Bool.false_eq_true, if_false, Bool.false_and]
      exact Ev.now _
    · simp only [if_true, Bool.true_and]
      exact ih (i + 1) (by omega)
theorem refcheck_ev (ps : List Bs) (b : Bool) (hl : ps.length ≤ 1048576) (hx : ∀ x ∈ ps, x.length ≤ 1048576) : Ev (fun k => stockyardref03_Check.f k (Ss ps) b) (checkI ps b) := by
  simp only [stockyardref03_Check.f, Ss_length]
  have yes : Ev (fun k => stockyardref03_Check.j0 k true (Ss ps) b) 30 := by
    refine Ev.succ ?_
    simp only [stockyardref03_Check.j0, if_true]
    exact Ev.now _
  cases ps with
  | nil => exact yes
  | cons a r =>
    have hr' : rdOf ByteArray.empty (Ss (a :: r)) 0 = S a := rd_Ss (a :: r) 0 (by simp)
    have h1 : (1 : Int) ≤ ((a :: r).length : Int) := by simp only [List.length_cons]; omega
    have hd : (Ss (a :: r)).drop 1 = Ss r := rfl
    have go : Ev (fun k => (stockyardref02_Component.f k (rdOf ByteArray.empty (Ss (a :: r)) 0)).bind fun t => stockyardref03_Check.j0 k (!t) (Ss (a :: r)) b)
        (if (compL a && r.all partB) = true then (if (a :: r).length > 12 then 31 else 0) else 30) := by
      rw [hr', Ev.bind_iff (refcomp_ev _ (by rw [size_S]; have := hx a (by simp); omega)), L_S]
      by_cases h : compL a = true
      · simp only [h, Bool.not_true, Bool.true_and]
        refine Ev.succ ?_
        simp only [stockyardref03_Check.j0, Bool.false_eq_true, if_false, Ss_length, hd, if_pos h1]
        have hloop := refcheck_loop (a :: r) r b hl (fun x hx2 => hx x (List.mem_cons_of_mem _ hx2)) (by rw [List.length_cons] at hl; omega) r.length 0 (by omega)
        exact hloop
      · simp only [Bool.not_eq_true] at h
        simp only [h, Bool.not_false, Bool.false_and, Bool.false_eq_true, if_false]
        exact yes
    have n0 : ¬ (((a :: r).length : Int) = 0) := by simp only [List.length_cons]; omega
    have n1 : (0 : Int) < ((a :: r).length : Int) := by simp only [List.length_cons]; omega
    simp only [if_neg n0, if_pos n1, checkI, shapeB]
    cases r with
    | nil =>
      have e1 : ((([a] : List Bs).length : Int) = 1) := rfl
      simp only [if_pos e1]
      cases b
      · simpa using yes
      · simpa using go
    | cons a2 r2 =>
      have e1 : ¬ ((((a :: a2 :: r2) : List Bs).length : Int) = 1) := by simp only [List.length_cons]; omega
      simp only [if_neg e1]
      simpa using go
end Go.Proofs.YthclkdplihchjaaDoor.P

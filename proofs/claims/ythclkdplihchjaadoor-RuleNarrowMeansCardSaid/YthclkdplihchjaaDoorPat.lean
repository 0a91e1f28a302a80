/-
  Layer 3: parts, patterns, their texts: what the printed functions of package pattern and of its reference come to. No project text.
-/
import Derived.Test.YthclkdplihchjaaDoorText
import Derived.Test.YthclkdplihchjaaDoorPx1
namespace Go.Proofs.YthclkdplihchjaaDoor.P
open Go.RowKit Go.Proofs.YthclkdplihchjaaDoorW.PrintWords
set_option linter.unusedVariables false
set_option linter.unusedSimpArgs false

/-! ### lists of strings as lists of lists of bytes -/
theorem Ss_map_L (xs : List ByteArray) : Ss (xs.map L) = xs := by
  unfold Ss
  rw [List.map_map]
  have : (S ∘ L) = id := by funext x; simp
  rw [this, List.map_id]
theorem rd_Ss (ps : List Bs) (i : Nat) (h : i < ps.length) : rdOf ByteArray.empty (Ss ps) (i : Int) = S (ps[i]'h) := by
  rw [rdOf_get _ _ (by omega) (by rw [Ss_length]; omega)]
  simp [Ss]
theorem Ss_drop (ps : List Bs) (n : Nat) : (Ss ps).drop n = Ss (ps.drop n) := by simp [Ss]
theorem Ss_append (ps qs : List Bs) : Ss ps ++ Ss qs = Ss (ps ++ qs) := by simp [Ss]
theorem Ss_snoc (ps : List Bs) (x : Bs) : Ss ps ++ [S x] = Ss (ps ++ [x]) := by simp [Ss]

/-! ### suffixes -/
theorem hasSuffix_eq (a p : ByteArray) (ha : a.size ≤ 4611686018427387904) : stringslite_HasSuffix.f a p = some ((L p).isSuffixOf (L a)) := by
  have h1 := size_eq a
  have h2 := size_eq p
  simp only [stringslite_HasSuffix.f]
  by_cases h : (a.size : Int) ≥ (p.size : Int)
  · simp (disch := omega) only [if_pos, wrap64_id]
    congr 1
    have e : ((a.size : Int) - (p.size : Int)).toNat = (L a).length - (L p).length := by omega
    rw [e, toList_eq, toList_eq, extract_from, L_S, Bool.eq_iff_iff, beq_iff_eq, List.isSuffixOf_iff_suffix, List.suffix_iff_eq_drop]
    exact eq_comm
  · rw [if_neg h]
    congr 1
    symm
    rw [Bool.eq_false_iff]
    intro hp
    have := (List.isSuffixOf_iff_suffix.1 hp).length_le
    omega
theorem cutSuffix_eq (a p : ByteArray) (ha : a.size ≤ 4611686018427387904) : strings_CutSuffix.f a p = some (if (L p).isSuffixOf (L a) = true then (S ((L a).take ((L a).length - (L p).length)), true) else (a, false)) := by
  have h1 := size_eq a
  have h2 := size_eq p
  simp only [strings_CutSuffix.f, stringslite_CutSuffix.f, hasSuffix_eq a p ha, Option.bind_some]
  by_cases h : (L p).isSuffixOf (L a) = true
  · have hl := (List.isSuffixOf_iff_suffix.1 h).length_le
    simp (disch := omega) only [if_pos h, if_pos, wrap64_id, Option.bind_some]
    have e : ((a.size : Int) - (p.size : Int)).toNat = (L a).length - (L p).length := by omega
    rw [e, extract_to]
  · simp only [if_neg h, Option.bind_some]
/-- The x of w = x s, not empty. -/
def capR (w s : Bs) : Option Bs := if s.length < w.length ∧ s.isSuffixOf w = true then some (w.take (w.length - s.length)) else none
def strR (o : Option Bs) : ByteArray × Bool := match o with
  | some x => (S x, true)
  | none => (S [], false)
theorem capture_eq (a b : ByteArray) (ha : a.size ≤ 4611686018427387904) : pattern_capture.f a b = some (strR (capR (L a) (L b))) := by
  have h1 := size_eq a
  have h2 := size_eq b
  simp only [pattern_capture.f, strings_HasSuffix.f, hasSuffix_eq a b ha, Option.bind_some, capR]
  by_cases h : (a.size : Int) > (b.size : Int)
  · have h' : (L b).length < (L a).length := by omega
    by_cases hs : (L b).isSuffixOf (L a) = true
    · simp (disch := omega) only [h, h', hs, and_true, if_true, if_pos, wrap64_id, strR]
      have e : ((a.size : Int) - (b.size : Int)).toNat = (L a).length - (L b).length := by omega
      rw [e, extract_to]
    · simp only [h, h', hs, and_false, if_true, if_false, strR]
      rfl
  · have h' : ¬ (L b).length < (L a).length := by omega
    simp only [h, h', false_and, if_false, strR]
    rfl

/-! ### parts -/
/-- The suffix of a wildcard. -/
def starL (l : Bs) : Option Bs := match l with
  | [] => none
  | c :: r => if c = 42 ∧ r.all okU = true then some r else none
def partB (l : Bs) : Bool := (starL l).isSome || compL l
theorem okU_star : okU 42 = false := by decide
theorem comp_star {l : Bs} (h : compL l = true) : starL l = none := by
  cases l with
  | nil => rfl
  | cons c r =>
    unfold starL
    refine if_neg ?_
    rintro ⟨rfl, _⟩
    simp [compL, okU_star] at h
def formR (l : Bs) : Int × ByteArray := match starL l with
  | some r => (2, S r)
  | none => if compL l = true then (1, S []) else (0, S [])
theorem comp_a (r : Bs) : compL (97 :: r) = r.all okU := by
  have h : okU 97 = true := by decide
  simp [compL, h]
theorem form_ev (s : ByteArray) (hs : s.size ≤ 1048576) : Ev (fun k => pattern_formOf.f k s) (formR (L s)) := by
  have hsz := size_eq s
  simp only [pattern_formOf.f, cutPrefix_eq, Option.bind_some]
  rw [L_lit]
  by_cases h : [42].isPrefixOf (L s) = true
  · obtain ⟨r, hr⟩ := List.isPrefixOf_iff_prefix.1 h
    have hr : L s = 42 :: r := hr.symm
    have hlen : (L s).length = r.length + 1 := by rw [hr]; rfl
    have h1 : 1 + (S r).size ≤ 9223372036854775807 := by rw [size_S]; omega
    have e : (⟨#[97]⟩ : ByteArray) ++ S r = S (97 :: r) := by rw [append_S, L_S]; rfl
    have hpre : [42].isPrefixOf (42 :: r) = true := by simp [List.isPrefixOf]
    rw [hr]
    simp only [hpre, if_true, List.length_cons, List.length_nil, Nat.zero_add, List.drop_succ_cons, List.drop_zero, if_pos h1, e]
    rw [Ev.bind_iff (comp_ev _ (by rw [size_S, List.length_cons]; omega)), L_S, comp_a]
    have hc : compL (42 :: r) = false := by simp [compL, okU_star]
    cases ho : r.all okU <;> simp only [formR, starL, ho, hc, and_self, and_false, if_true, if_false, Bool.false_eq_true] <;> exact Ev.now _
  · simp only [if_neg h, Bool.false_eq_true, if_false]
    rw [Ev.bind_iff (comp_ev _ (by omega))]
    have hn : starL (L s) = none := by
      cases hl : L s with
      | nil => rfl
      | cons c r =>
        unfold starL
        refine if_neg ?_
        rintro ⟨rfl, _⟩
        rw [hl] at h
        exact h (by simp [List.isPrefixOf])
    unfold formR
    rw [hn]
    cases hc : compL (L s) <;> simp only [if_true, if_false, Bool.false_eq_true] <;> exact Ev.now _
theorem form_none {l : Bs} : (formR l).1 = 0 ↔ partB l = false := by
  unfold formR partB
  cases h : starL l <;> cases h2 : compL l <;> simp
theorem form_lit {l : Bs} : (formR l).1 = 1 ↔ compL l = true := by
  unfold formR
  cases h : starL l with
  | some r =>
    cases h2 : compL l with
    | false => simp
    | true => rw [comp_star h2] at h; cases h
  | none => cases h2 : compL l <;> simp
theorem form_star {l : Bs} : (formR l).1 = 2 ↔ (starL l).isSome = true := by
  unfold formR
  cases h : starL l <;> cases h2 : compL l <;> simp

/-! ### patterns -/
def shapeB (ps : List Bs) (rest : Bool) : Bool := match ps with
  | [] => false
  | a :: r => (rest || !r.isEmpty) && (compL a && r.all partB)
def checkI (ps : List Bs) (rest : Bool) : Int := if shapeB ps rest = true then (if ps.length > 12 then 31 else 0) else 30
theorem shape_loop (ps : List Bs) (hl : ps.length ≤ 1048576) (hx : ∀ x ∈ ps, x.length ≤ 1048576) : ∀ (d i : Nat), i + d = ps.length → 1 ≤ i →
    Ev (fun k => pattern_shape.l0 k (Ss ps) (ps.length : Int) (i : Int)) ((ps.drop i).all partB) := by
  intro d
  induction d with
  | zero =>
    intro i hi h1
    refine Ev.succ ?_
    simp (disch := omega) only [pattern_shape.l0, if_neg]
    rw [List.drop_of_length_le (by omega)]
    exact Ev.now _
  | succ d ih =>
    intro i hi h1
    have hlt : i < ps.length := by omega
    refine Ev.succ ?_
    simp (disch := omega) only [pattern_shape.l0, Ss_length, if_pos, wrap64_id]
    rw [rd_Ss ps i hlt, Ev.bind_iff (form_ev _ (by rw [size_S]; exact hx _ (List.getElem_mem hlt))), L_S, List.drop_eq_getElem_cons hlt, List.all_cons]
    cases hc : partB ps[i]
    · simp only [form_none.2 hc, if_true, Bool.false_and]
      exact Ev.now _
    · have : ¬ (formR ps[i]).1 = 0 := by rw [form_none]; simp [hc]
      have h0 : ¬ ((i : Int) = 0) := by omega
      simp only [this, h0, if_false, Bool.true_and]
      exact ih (i + 1) (by omega) (by omega)
theorem shape_ev (ps : List Bs) (b : Bool) (hl : ps.length ≤ 1048576) (hx : ∀ x ∈ ps, x.length ≤ 1048576) : Ev (fun k => pattern_shape.f k (Ss ps) b) (shapeB ps b) := by
  simp only [pattern_shape.f, Ss_length]
  have yes : Ev (fun k => pattern_shape.j0 k true (Ss ps) b) false := by
    refine Ev.succ ?_
    simp only [pattern_shape.j0, if_true]
    exact Ev.now _
  cases ps with
  | nil => exact yes
  | cons a r =>
    have no : Ev (fun k => pattern_shape.j0 k false (Ss (a :: r)) b) (compL a && r.all partB) := by
      have h0 : 0 < (a :: r).length := by simp
      refine Ev.succ ?_
      simp only [pattern_shape.j0, Bool.false_eq_true, if_false, Ss_length]
      refine Ev.succ ?_
      have hlt : (0 : Int) < ((a :: r).length : Int) := by simp
      simp (disch := omega) only [pattern_shape.l0, Ss_length, if_pos hlt, if_pos, wrap64_id]
      have hr := rd_Ss (a :: r) 0 h0
      simp only [Int.ofNat_zero, Int.cast_ofNat_Int, List.getElem_cons_zero] at hr
      have hr' : rdOf ByteArray.empty (Ss (a :: r)) 0 = S a := hr
      rw [hr', Ev.bind_iff (form_ev _ (by rw [size_S]; exact hx a (by simp))), L_S]
      have hloop := shape_loop (a :: r) hl hx r.length 1 (by rw [List.length_cons]; omega) (Nat.le_refl 1)
      have hloop' : Ev (fun k => pattern_shape.l0 k (Ss (a :: r)) ((a :: r).length : Int) (0 + 1)) (r.all partB) := hloop
      by_cases h : compL a = true
      · have f1 : (formR a).1 = 1 := form_lit.2 h
        have f0 : ¬ (1 : Int) = 0 := by decide
        simp only [f1, h, if_true, if_neg f0, Bool.true_and]
        exact hloop'
      · have f1 : ¬ (formR a).1 = 1 := by rw [form_lit]; exact h
        simp only [Bool.not_eq_true] at h
        simp only [f1, h, if_false, Bool.false_and]
        by_cases f0 : (formR a).1 = 0
        · simp only [f0, if_true]
          exact Ev.now _
        · simp only [f0, if_false]
          exact Ev.now _
    have n0 : ¬ (((a :: r).length : Int) = 0) := by simp only [List.length_cons]; omega
    simp only [if_neg n0, shapeB]
    cases r with
    | nil =>
      have e1 : ((([a] : List Bs).length : Int) = 1) := rfl
      simp only [if_pos e1]
      cases b
      · simpa using yes
      · simpa using no
    | cons a2 r2 =>
      have e1 : ¬ ((((a :: a2 :: r2) : List Bs).length : Int) = 1) := by simp only [List.length_cons]; omega
      simp only [if_neg e1]
      simpa using no
theorem check_ev (ps : List Bs) (b : Bool) (hl : ps.length ≤ 1048576) (hx : ∀ x ∈ ps, x.length ≤ 1048576) : Ev (fun k => pattern_Check.f k (Ss ps) b) (checkI ps b) := by
  simp only [pattern_Check.f, Ss_length]
  rw [Ev.bind_iff (shape_ev ps b hl hx)]
  unfold checkI
  by_cases h : shapeB ps b = true
  · simp only [h, if_true]
    by_cases h2 : ps.length > 12
    · have : (ps.length : Int) > 12 := by omega
      simp only [h2, this, if_true]
      exact Ev.now _
    · have : ¬ (ps.length : Int) > 12 := by omega
      simp only [h2, this, if_false]
      exact Ev.now _
  · simp only [h, if_false]
    exact Ev.now _
theorem check_ok {ps : List Bs} {b : Bool} (h : checkI ps b = 0) : shapeB ps b = true ∧ ps.length ≤ 12 ∧ (∀ x ∈ ps, partB x = true) ∧ ps ≠ [] := by
  unfold checkI at h
  split at h
  · rename_i hs
    split at h
    · cases h
    · refine ⟨hs, by omega, ?_, ?_⟩
      · cases ps with
        | nil => simp
        | cons a r =>
          simp only [shapeB, Bool.and_eq_true, List.all_eq_true] at hs
          intro x hx
          rcases List.mem_cons.1 hx with rfl | hx
          · unfold partB
            rw [hs.2.1, Bool.or_true]
          · exact hs.2.2 x hx
      · rintro rfl
        cases hs
  · cases h

/-! ### the reference's parts and patterns -/
end Go.Proofs.YthclkdplihchjaaDoor.P

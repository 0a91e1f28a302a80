/-
  Layer 2: equality, order and 'under' of lists of components. No project text.
-/
import Derived.Test.YtgbnjkfhkhkkfaaDoorPath
import Derived.Test.YtgbnjkfhkhkkfaaDoorCmp
import Derived.Test.YtgbnjkfhkhkkfaaDoorPx1
import Derived.Test.YtgbnjkfhkhkkfaaDoorPx2
import Derived.Test.YtgbnjkfhkhkkfaaDoorPx4
import Derived.Test.YtgbnjkfhkhkkfaaDoorPx5
import Derived.Test.YtgbnjkfhkhkkfaaDoorPx6
namespace Go.Proofs.YtgbnjkfhkhkkfaaDoor.P
open Go.RowKit Go.Proofs.YtgbnjkfhkhkkfaaDoorW.PrintWords
set_option linter.unusedVariables false
set_option linter.unusedSimpArgs false

/-- One text against another. -/
def cmpB (a b : ByteArray) : Int := cmpS (L a) (L b)
theorem cmpB_S (a b : Bs) : cmpB (S a) (S b) = cmpS a b := by simp [cmpB]
theorem lex_Ss : ∀ p q : List Bs, lexF cmpB (Ss p) (Ss q) = cmpP p q
  | [], [] => rfl
  | [], _ :: _ => rfl
  | _ :: _, [] => rfl
  | a :: p, b :: q => by
    have ih := lex_Ss p q
    have e : cmpP (a :: p) (b :: q) = if cmpS a b = 0 then cmpP p q else cmpS a b := rfl
    have e2 : lexF cmpB (Ss (a :: p)) (Ss (b :: q)) = if cmpB (S a) (S b) = 0 then lexF cmpB (Ss p) (Ss q) else cmpB (S a) (S b) := rfl
    rw [e, e2, ih, cmpB_S]
theorem Ss_inj {p q : List Bs} (h : Ss p = Ss q) : p = q := by
  have e : ∀ r : List Bs, (Ss r).map L = r := fun r => by
    unfold Ss
    rw [List.map_map]
    have : (L ∘ S) = id := by funext x; simp
    rw [this, List.map_id]
  rw [← e p, ← e q, h]

theorem cmpstr_eq (a b : ByteArray) : cmp_Compare_string.f a b = some (cmpB a b) := by
  have hr := cmpS_cmp.range (L a) (L b)
  have ha := cmpS_cmp.anti (L a) (L b)
  simp only [cmp_Compare_string.f, cmp_isNaN_string.f, Option.bind_some, bne_self_eq_false, Bool.false_eq_true, if_false, toList_eq, less_eq, decide_eq_true_eq]
  unfold cmpB
  split
  · congr 1; omega
  · split <;> (congr 1; omega)
theorem strcmp_eq (a b : ByteArray) : strings_Compare.f a b = some (cmpB a b) := by
  simp only [strings_Compare.f, bytealg_CompareString.f, Option.bind_some]
  rw [cmpS_eq]
  rfl

theorem same_loop (a b : List ByteArray) (hab : a.length = b.length) (hl : a.length ≤ 4611686018427387904) : ∀ (d i : Nat), i + d = a.length →
    Ev (fun k => stockyardlaw02_same.l0 k a b (a.length : Int) (i : Int)) (decide (a.drop i = b.drop i)) := by
  intro d
  induction d with
  | zero =>
    intro i hi
    refine Ev.succ ?_
    simp (disch := omega) only [stockyardlaw02_same.l0, if_neg]
    rw [List.drop_of_length_le (by omega), List.drop_of_length_le (by omega), Ev.some_iff]
    simp
  | succ d ih =>
    intro i hi
    have h1 : i < a.length := by omega
    have h2 : i < b.length := by omega
    refine Ev.succ ?_
    simp (disch := omega) only [stockyardlaw02_same.l0, if_pos, wrap64_id]
    rw [rdOf_get _ _ (by omega) (by omega), rdOf_get _ _ (by omega) (by omega), toList_eq, toList_eq]
    simp only [Int.toNat_natCast]
    rw [List.drop_eq_getElem_cons h1, List.drop_eq_getElem_cons h2]
    by_cases e : a[i] = b[i]
    · simp only [e, if_true, List.cons.injEq, true_and]
      exact ih (i + 1) (by omega)
    · have e2 : ¬ L a[i] = L b[i] := fun h => e (L_inj h)
      simp only [e2, if_false, List.cons.injEq, e, false_and, decide_false]
      exact Ev.now _
theorem same_ev (a b : List ByteArray) (hl : a.length ≤ 4611686018427387904) (hl2 : b.length ≤ 4611686018427387904) : Ev (fun k => stockyardlaw02_same.f k a b) (decide (a = b)) := by
  simp only [stockyardlaw02_same.f]
  by_cases h : (a.length : Int) = (b.length : Int)
  · simp only [h, if_true]
    have h2 := same_loop a b (by omega) hl a.length 0 (by omega)
    rw [List.drop_zero, List.drop_zero] at h2
    rw [h] at h2
    exact h2
  · simp only [h, if_false]
    rw [Ev.some_iff]
    symm
    rw [decide_eq_false_iff_not]
    intro e
    rw [e] at h
    exact h rfl
theorem equal_loop (a b : List ByteArray) (hab : a.length = b.length) (hl : a.length ≤ 4611686018427387904) : ∀ (d i : Nat), i + d = a.length →
    Ev (fun k => slices_Equal_string_string.l0 k a b (a.length : Int) (i : Int)) (decide (a.drop i = b.drop i)) := by
  intro d
  induction d with
  | zero =>
    intro i hi
    refine Ev.succ ?_
    simp (disch := omega) only [slices_Equal_string_string.l0, if_neg]
    rw [List.drop_of_length_le (by omega), List.drop_of_length_le (by omega), Ev.some_iff]
    simp
  | succ d ih =>
    intro i hi
    have h1 : i < a.length := by omega
    have h2 : i < b.length := by omega
    refine Ev.succ ?_
    simp (disch := omega) only [slices_Equal_string_string.l0, if_pos, wrap64_id]
    rw [rdOf_get _ _ (by omega) (by omega), rdOf_get _ _ (by omega) (by omega), toList_eq, toList_eq]
    simp only [Int.toNat_natCast]
    rw [List.drop_eq_getElem_cons h1, List.drop_eq_getElem_cons h2]
    by_cases e : a[i] = b[i]
    · simp only [e, if_true, List.cons.injEq, true_and]
      exact ih (i + 1) (by omega)
    · have e2 : ¬ L a[i] = L b[i] := fun h => e (L_inj h)
      simp only [e2, if_false, List.cons.injEq, e, false_and, decide_false]
      exact Ev.now _
theorem equal_ev (a b : List ByteArray) (hl : a.length ≤ 4611686018427387904) (hl2 : b.length ≤ 4611686018427387904) : Ev (fun k => slices_Equal_string_string.f k a b) (decide (a = b)) := by
  simp only [slices_Equal_string_string.f]
  by_cases h : (a.length : Int) = (b.length : Int)
  · simp only [h, if_true]
    have h2 := equal_loop a b (by omega) hl a.length 0 (by omega)
    rw [List.drop_zero, List.drop_zero] at h2
    rw [h] at h2
    exact h2
  · simp only [h, if_false]
    rw [Ev.some_iff]
    symm
    rw [decide_eq_false_iff_not]
    intro e
    rw [e] at h
    exact h rfl

theorem lexF_cons {α : Type} (f : α → α → Int) (a b : α) (p q : List α) : lexF f (a :: p) (b :: q) = if f a b = 0 then lexF f p q else f a b := rfl
theorem lexF_nil_left {α : Type} (f : α → α → Int) (q : List α) : lexF f [] q = if 0 < q.length then -1 else 0 := by cases q <;> simp [lexF]
theorem lexF_nil_right {α : Type} (f : α → α → Int) (p : List α) (h : 0 < p.length) : lexF f p [] = 1 := by
  cases p with
  | nil => simp at h
  | cons a p => rfl
theorem compare_loop (a b : List ByteArray) (hl : a.length ≤ 4611686018427387904) (hl2 : b.length ≤ 4611686018427387904) : ∀ (d i : Nat), i + d = a.length → i ≤ b.length →
    Ev (fun k => slices_Compare_string_string.l0 k a b a (a.length : Int) (i : Int)) (lexF cmpB (a.drop i) (b.drop i)) := by
  intro d
  induction d with
  | zero =>
    intro i hi hib
    refine Ev.succ ?_
    simp (disch := omega) only [slices_Compare_string_string.l0, if_neg]
    rw [List.drop_of_length_le (l := a) (by omega), lexF_nil_left, List.length_drop]
    by_cases h : i < b.length
    · simp (disch := omega) only [if_pos]
      exact Ev.now _
    · simp (disch := omega) only [if_neg]
      exact Ev.now _
  | succ d ih =>
    intro i hi hib
    have h1 : i < a.length := by omega
    refine Ev.succ ?_
    by_cases h2 : i < b.length
    · simp (disch := omega) only [slices_Compare_string_string.l0, if_pos, if_neg, wrap64_id, cmpstr_eq, Option.bind_some]
      rw [rdOf_get _ _ (by omega) (by omega), rdOf_get _ _ (by omega) (by omega)]
      simp only [Int.toNat_natCast]
      rw [List.drop_eq_getElem_cons h1, List.drop_eq_getElem_cons h2, lexF_cons]
      by_cases e : cmpB a[i] b[i] = 0
      · simp only [e, if_true]
        exact ih (i + 1) (by omega) (by omega)
      · simp only [e, if_false]
        exact Ev.now _
    · simp (disch := omega) only [slices_Compare_string_string.l0, if_pos]
      rw [List.drop_of_length_le (l := b) (by omega), lexF_nil_right _ _ (by rw [List.length_drop]; omega)]
      exact Ev.now _
theorem compare_ev (a b : List ByteArray) (hl : a.length ≤ 4611686018427387904) (hl2 : b.length ≤ 4611686018427387904) : Ev (fun k => slices_Compare_string_string.f k a b) (lexF cmpB a b) := by
  simp only [slices_Compare_string_string.f]
  have := compare_loop a b hl hl2 a.length 0 (by omega) (by omega)
  simpa using this
theorem refcompare_loop (a b : List ByteArray) (hl : a.length ≤ 4611686018427387904) (hl2 : b.length ≤ 4611686018427387904) : ∀ (d i : Nat), i + d = a.length → i ≤ b.length →
    Ev (fun k => stockyardref02_Compare.l0 k a b (i : Int)) (lexF cmpB (a.drop i) (b.drop i)) := by
  intro d
  induction d with
  | zero =>
    intro i hi hib
    refine Ev.succ ?_
    simp (disch := omega) only [stockyardref02_Compare.l0, if_neg]
    refine Ev.succ ?_
    simp only [stockyardref02_Compare.j1, Bool.false_eq_true, if_false]
    rw [List.drop_of_length_le (l := a) (by omega), lexF_nil_left, List.length_drop]
    by_cases h : i < b.length
    · simp (disch := omega) only [if_pos]
      exact Ev.now _
    · simp (disch := omega) only [if_neg]
      exact Ev.now _
  | succ d ih =>
    intro i hi hib
    have h1 : i < a.length := by omega
    refine Ev.succ ?_
    simp (disch := omega) only [stockyardref02_Compare.l0, if_pos]
    refine Ev.succ ?_
    by_cases h2 : i < b.length
    · have hd : decide ((i : Int) < (b.length : Int)) = true := decide_eq_true (by omega)
      simp only [stockyardref02_Compare.j1, hd, if_true]
      simp (disch := omega) only [if_pos, wrap64_id, strcmp_eq, Option.bind_some]
      rw [rdOf_get _ _ (by omega) (by omega), rdOf_get _ _ (by omega) (by omega)]
      simp only [Int.toNat_natCast]
      rw [List.drop_eq_getElem_cons h1, List.drop_eq_getElem_cons h2, lexF_cons]
      by_cases e : cmpB a[i] b[i] = 0
      · simp only [e, if_true]
        exact ih (i + 1) (by omega) (by omega)
      · simp only [e, if_false]
        exact Ev.now _
    · have hd : decide ((i : Int) < (b.length : Int)) = false := decide_eq_false (by omega)
      simp only [stockyardref02_Compare.j1, hd, Bool.false_eq_true, if_false]
      simp (disch := omega) only [if_pos, if_neg]
      rw [List.drop_of_length_le (l := b) (by omega), lexF_nil_right _ _ (by rw [List.length_drop]; omega)]
      exact Ev.now _
theorem refcompare_ev (a b : List ByteArray) (hl : a.length ≤ 4611686018427387904) (hl2 : b.length ≤ 4611686018427387904) : Ev (fun k => stockyardref02_Compare.f k a b) (lexF cmpB a b) := by
  simp only [stockyardref02_Compare.f]
  have := refcompare_loop a b hl hl2 a.length 0 (by omega) (by omega)
  simpa using this

theorem pathL_length {l : Bs} {p : List Bs} (h : pathL l = some p) : 2 ≤ p.length ∧ p.length ≤ l.length + 1 ∧ dirL l = some p := by
  unfold pathL at h
  obtain ⟨q, hq, h2⟩ := Option.bind_eq_some_iff.1 h
  split at h2
  · cases h2
  · injection h2 with h2
    subst h2
    refine ⟨by omega, ?_, hq⟩
    unfold dirL at hq
    split at hq
    · injection hq with hq
      subst hq
      rw [splitL_count]
      have := List.count_le_length (a := (47 : UInt8)) (l := l.drop 2)
      rw [List.length_drop] at this
      omega
    · cases hq
theorem dirL_length {l : Bs} {p : List Bs} (h : dirL l = some p) : 1 ≤ p.length ∧ p.length ≤ l.length + 1 := by
  unfold dirL at h
  split at h
  · injection h with h
    subst h
    rw [splitL_count]
    have := List.count_le_length (a := (47 : UInt8)) (l := l.drop 2)
    rw [List.length_drop] at this
    omega
  · cases h
def cmpR : Option (List Bs) → Option (List Bs) → Int × Int
  | some p, some q => (cmpP p q, 0)
  | _, _ => (0, 20)
theorem path_compare_ev (a b : ByteArray) (ha : a.size ≤ 1048576) (hb : b.size ≤ 1048576) : Ev (fun k => path_Compare.f k a b) (cmpR (pathL (L a)) (pathL (L b))) := by
  have h1 := size_eq a
  have h2 := size_eq b
  simp only [path_Compare.f]
  rw [Ev.bind_iff (split_path_ev a ha)]
  cases hp : pathL (L a) with
  | none => exact Ev.now _
  | some p =>
    simp only [pathR, if_true]
    rw [Ev.bind_iff (split_path_ev b hb)]
    cases hq : pathL (L b) with
    | none => exact Ev.now _
    | some q =>
      simp only [pathR, if_true]
      have l1 := pathL_length hp
      have l2 := pathL_length hq
      rw [Ev.bind_iff (compare_ev _ _ (by rw [Ss_length]; omega) (by rw [Ss_length]; omega)), lex_Ss]
      exact Ev.now _
/-- p lies below d. -/
def underL (d p : List Bs) : Bool := decide (d.length < p.length ∧ p.take d.length = d)
def underR : Option (List Bs) → Option (List Bs) → Bool × Int
  | some d, some p => (underL d p, 0)
  | _, _ => (false, 20)
theorem Ss_take (p : List Bs) (n : Nat) : (Ss p).take n = Ss (p.take n) := by simp [Ss]
theorem path_under_ev (d p : ByteArray) (hd : d.size ≤ 1048576) (hp : p.size ≤ 1048576) : Ev (fun k => path_Under.f k d p) (underR (dirL (L d)) (pathL (L p))) := by
  have h1 := size_eq d
  have h2 := size_eq p
  simp only [path_Under.f]
  rw [Ev.bind_iff (dir_ev d hd), Ev.bind_iff (split_path_ev p hp)]
  cases hd2 : dirL (L d) with
  | none => exact Ev.now _
  | some x =>
    cases hp2 : pathL (L p) with
    | none => exact Ev.now _
    | some y =>
      have l1 := dirL_length hd2
      have l2 := pathL_length hp2
      simp only [dirR, pathR, if_true, Ss_length]
      by_cases hl : x.length < y.length
      · simp (disch := omega) only [if_pos, Int.toNat_natCast]
        rw [Ss_take, Ev.bind_iff (equal_ev _ _ (by rw [Ss_length, List.length_take]; omega) (by rw [Ss_length]; omega)), Ev.some_iff]
        simp only [underR, underL, hl, true_and, Prod.mk.injEq, and_true, decide_eq_decide]
        exact ⟨fun h => Ss_inj h, fun h => by rw [h]⟩
      · simp (disch := omega) only [if_neg]
        rw [Ev.some_iff]
        simp [underR, underL, hl]
theorem refunder_ev (x y : List Bs) (hx : x.length ≤ 1048577) (hy : y.length ≤ 1048577) : Ev (fun k => stockyardref02_Under.f k (Ss x) (Ss y)) (underL x y) := by
  simp only [stockyardref02_Under.f, Ss_length]
  by_cases hl : x.length < y.length
  · simp (disch := omega) only [if_pos, Int.toNat_natCast]
    rw [Ss_take, Ev.bind_iff (refcompare_ev _ _ (by rw [Ss_length]; omega) (by rw [Ss_length, List.length_take]; omega)), Ev.some_iff, lex_Ss]
    unfold underL
    rw [Bool.eq_iff_iff, beq_iff_eq, decide_eq_true_iff, cmpP_cmp.zero]
    exact ⟨fun h => ⟨hl, h.symm⟩, fun h => h.2.symm⟩
  · simp (disch := omega) only [if_neg]
    rw [Ev.some_iff]
    simp [underL, hl]
theorem awake02 : Ev (fun k => stockyardlaw02_awake.f k) true := by
  simp only [stockyardlaw02_awake.f]
  rw [Ev.bind_iff (path_compare_ev _ _ (by decide) (by decide)), Ev.bind_iff (valid_ev _ (by decide))]
  have e1 : (pathL (L (⟨#[47, 47, 97, 47, 98, 46, 112, 115, 100]⟩ : ByteArray))).isSome = true := by decide
  have e2 : (pathL (L (⟨#[47, 47, 97]⟩ : ByteArray))).isSome = false := by decide
  have e3 : cmpR (pathL (L (⟨#[47, 47, 97, 47, 98]⟩ : ByteArray))) (pathL (L (⟨#[47, 47, 97, 43, 47, 98]⟩ : ByteArray))) = (-1, 0) := by decide
  rw [e1, e3]
  simp only [if_true]
  rw [Ev.bind_iff (valid_ev _ (by decide)), e2]
  simp only [Bool.false_eq_true, if_false, if_true]
  exact Ev.now _
theorem long_eq (s : ByteArray) : stockyardlaw02_long.f s = some (decide ((s.size : Int) > 400)) := rfl
end Go.Proofs.YtgbnjkfhkhkkfaaDoor.P

/-
  Layer 2: what the printed functions of package path and of its reference come to: components, directories, paths, their order. No project text.
-/
import Derived.Test.YthclkdplihchjaaDoorSplit
import Derived.Test.YthclkdplihchjaaDoorPx1
namespace Go.Proofs.YthclkdplihchjaaDoor.P
open Go.RowKit Go.Proofs.YthclkdplihchjaaDoorW.PrintWords
set_option linter.unusedVariables false
set_option linter.unusedSimpArgs false

/-- The bytes of components. -/
def okI (c : Int) : Bool := decide ((65 ≤ c ∧ c ≤ 90) ∨ (97 ≤ c ∧ c ≤ 122) ∨ (48 ≤ c ∧ c ≤ 57) ∨ c = 95 ∨ c = 46 ∨ c = 43 ∨ c = 45)
def okU (b : UInt8) : Bool := okI (b.toNat : Int)
def compL (l : Bs) : Bool := match l with
  | [] => false
  | c :: _ => c != 46 && l.all okU
/-- The components of a directory. -/
def dirL (l : Bs) : Option (List Bs) := if [47, 47].isPrefixOf l = true ∧ (splitL (l.drop 2)).all compL = true then some (splitL (l.drop 2)) else none
def pathL (l : Bs) : Option (List Bs) := (dirL l).bind fun ps => if ps.length < 2 then none else some ps
def Ss (ps : List Bs) : List ByteArray := ps.map S

theorem allowed_ev (c : Int) : Ev (fun k => path_allowed.f k c) (okI c) := by
  refine ⟨3, fun k hk => ?_⟩
  obtain ⟨j, rfl⟩ : ∃ j, k = j + 2 := ⟨k - 2, by omega⟩
  have e : okI c = decide ((65 ≤ c ∧ c ≤ 90) ∨ (97 ≤ c ∧ c ≤ 122) ∨ (48 ≤ c ∧ c ≤ 57) ∨ c = 95 ∨ c = 46 ∨ c = 43 ∨ c = 45) := rfl
  rw [e]
  simp only [path_allowed.f, path_allowed.j0, path_allowed.j1]
  repeat' split
  all_goals (try simp only [decide_eq_true_eq, Bool.false_eq_true, not_false_eq_true] at *)
  all_goals congr 1
  all_goals first
    | (rw [decide_eq_decide]; omega)
    | (symm; rw [decide_eq_true_iff]; omega)
    | (rw [Bool.eq_iff_iff, beq_iff_eq, decide_eq_true_iff]; omega)

theorem comp_loop (s : ByteArray) (hs : s.size ≤ 4611686018427387904) : ∀ (d i : Nat), i + d = (L s).length → Ev (fun k => path_Component.l0 k s (s.size : Int) (i : Int)) (((L s).drop i).all okU) := by
  intro d
  have hsz := size_eq s
  induction d with
  | zero =>
    intro i hi
    refine Ev.succ ?_
    simp (disch := omega) only [path_Component.l0, if_neg]
    rw [List.drop_of_length_le (by omega)]
    exact Ev.now _
  | succ d ih =>
    intro i hi
    have hlt : i < (L s).length := by omega
    refine Ev.succ ?_
    simp (disch := omega) only [path_Component.l0, if_pos, wrap64_id]
    rw [Ev.bind_iff (allowed_ev _), bt_eq s i hlt, List.drop_eq_getElem_cons hlt, List.all_cons]
    change Ev (fun k => if okU (L s)[i] = true then _ else _) _
    cases hc : okU (L s)[i]
    · simp only [Bool.false_eq_true, if_false, Bool.false_and]
      exact Ev.now _
    · simp only [if_true, Bool.true_and]
      exact ih (i + 1) (by omega)
theorem comp_ev (s : ByteArray) (hs : s.size ≤ 4611686018427387904) : Ev (fun k => path_Component.f k s) (compL (L s)) := by
  have hsz := size_eq s
  have hl := comp_loop s hs (L s).length 0 (by omega)
  simp only [path_Component.f]
  rw [toList_eq]
  cases h : L s with
  | nil =>
    rw [h] at hsz
    simp only [if_true]
    refine Ev.succ ?_
    simp only [path_Component.j0, if_true]
    exact Ev.now _
  | cons c r =>
    have h0 : 0 < (L s).length := by rw [h]; simp
    simp (disch := omega) only [reduceCtorEq, if_false, if_pos]
    have hb : bt s 0 = (c.toNat : Int) := by
      have := bt_eq s 0 h0
      simp only [h] at this
      simpa using this
    rw [hb]
    refine Ev.succ ?_
    simp only [path_Component.j0]
    rw [h] at hl
    simp only [List.drop_zero] at hl
    by_cases hc : c = 46
    · subst hc
      simp [compL, Ev.some_iff]
    · have : ((c.toNat : Int) == 46) = false := by
        rw [beq_eq_false_iff_ne]
        intro e
        exact hc (UInt8.toNat_inj.1 (by have h46 : (46 : UInt8).toNat = 46 := rfl; omega))
      have e2 : compL (c :: r) = (c :: r).all okU := by simp [compL, hc]
      rw [this, e2]
      simp only [Bool.false_eq_true, if_false]
      exact hl

/-! ### the reference's components -/
def lettersL : Bs := [65, 66, 67, 68, 69, 70, 71, 72, 73, 74, 75, 76, 77, 78, 79, 80, 81, 82, 83, 84, 85, 86, 87, 88, 89, 90, 97, 98, 99, 100, 101, 102, 103, 104, 105, 106, 107, 108, 109, 110, 111, 112, 113, 114, 115, 116, 117, 118, 119, 120, 121, 122, 48, 49, 50, 51, 52, 53, 54, 55, 56, 57, 95, 46, 43, 45]
theorem letters_all : ∀ n : Nat, n < 256 → decide (n.toUInt8 ∈ lettersL) = okI (n : Int) := by decide +kernel
theorem letters_mem (b : UInt8) : b ∈ lettersL ↔ okU b = true := by
  have h := letters_all b.toNat b.toNat_lt
  have e : b.toNat.toUInt8 = b := by simp
  rw [e] at h
  show _ ↔ okI _ = true
  rw [← h, decide_eq_true_eq]
theorem letters_index (b : UInt8) : (Lib.indexByte lettersL b < 0) ↔ okU b = false := by
  have hge := Lib.indexByte_ge lettersL b
  have h1 := (indexByte_none (l := lettersL) (c := b))
  have h2 := letters_mem b
  constructor
  · intro h
    have : Lib.indexByte lettersL b = -1 := by omega
    have := h1.1 this
    cases hb : okU b
    · rfl
    · exact absurd (h2.2 hb) this
  · intro h
    have : b ∉ lettersL := fun e => by rw [h2.1 e] at h; cases h
    rw [h1.2 this]
    decide

/-! ### prefixes, cuts -/
theorem hasPrefix_eq (a p : ByteArray) : stringslite_HasPrefix.f a p = some ((L p).isPrefixOf (L a)) := by
  have h1 := size_eq a
  have h2 := size_eq p
  simp only [stringslite_HasPrefix.f]
  by_cases h : (a.size : Int) ≥ (p.size : Int)
  · simp (disch := omega) only [if_pos]
    congr 1
    rw [toList_eq, toList_eq, extract_to, L_S, Bool.eq_iff_iff, beq_iff_eq, List.isPrefixOf_iff_prefix, List.prefix_iff_eq_take]
    have e : ((p.size : Int)).toNat = (L p).length := by omega
    rw [e]
    exact eq_comm
  · rw [if_neg h]
    congr 1
    symm
    rw [Bool.eq_false_iff]
    intro hp
    have := (List.isPrefixOf_iff_prefix.1 hp).length_le
    omega
theorem cutPrefix_eq (a p : ByteArray) : strings_CutPrefix.f a p = some (if (L p).isPrefixOf (L a) = true then (S ((L a).drop (L p).length), true) else (a, false)) := by
  have h1 := size_eq a
  have h2 := size_eq p
  simp only [strings_CutPrefix.f, stringslite_CutPrefix.f, hasPrefix_eq, Option.bind_some]
  by_cases h : (L p).isPrefixOf (L a) = true
  · have hl := (List.isPrefixOf_iff_prefix.1 h).length_le
    simp (disch := omega) only [if_pos h, if_pos, Option.bind_some]
    have e : ((p.size : Int)).toNat = (L p).length := by omega
    rw [e, extract_from]
  · simp only [if_neg h, Option.bind_some]

/-! ### Split at slashes -/
theorem splitB_eq : ∀ (m : Nat) (s : ByteArray), (L s).count 47 = m → Lib.splitB (⟨#[47]⟩ : ByteArray) 0 m s = (splitL (L s)).map S := by
  intro m
  have hix : ∀ s : ByteArray, Lib.indexB s (⟨#[47]⟩ : ByteArray) = Lib.indexByte (L s) 47 := fun s => Lib.index_one _ _
  induction m with
  | zero =>
    intro s hc
    have hno : (47 : UInt8) ∉ L s := List.count_eq_zero.1 hc
    rw [splitL_none hno]
    simp [Lib.splitB]
  | succ m ih =>
    intro s hc
    have hin : (47 : UInt8) ∈ L s := List.count_pos_iff.1 (by omega)
    obtain ⟨x, y, hxy, hx, hi⟩ := indexByte_some hin
    rw [Lib.splitB_hit _ 0 m s x.length (by rw [hix, hi])]
    have e1 : s.extract (x.length + (⟨#[47]⟩ : ByteArray).size) s.size = S y := by
      rw [show (⟨#[47]⟩ : ByteArray).size = 1 from rfl, extract_from, hxy, List.drop_append, List.drop_of_length_le (by omega)]
      simp
    have e2 : s.extract 0 (x.length + 0) = S x := by
      rw [Nat.add_zero, extract_to, hxy]
      simp
    have hcy : (L (S y)).count 47 = m := by
      rw [L_S]
      rw [hxy, List.count_append, List.count_eq_zero.2 hx, List.count_cons] at hc
      simp at hc
      omega
    rw [e1, e2, ih (S y) hcy, L_S, hxy, splitL_some hx]
    rfl
theorem split_eq (s : ByteArray) (hs : s.size < 4294967281) : strings_Split.f s (⟨#[47]⟩ : ByteArray) = some (Ss (splitL (L s))) := by
  have hc : Lib.countB s (⟨#[47]⟩ : ByteArray) = (L s).count 47 := Lib.count_one _ _
  have hcond : (⟨#[47]⟩ : ByteArray).size = 1 ∧ True ∧ True ∧ s.size < 4294967281 := ⟨rfl, trivial, trivial, hs⟩
  simp only [strings_Split.f, strings_genSplit.f]
  rw [if_pos hcond, Option.bind_some, hc, splitB_eq _ s rfl]
  rfl
/-! ### directories and paths -/
theorem Ss_length (ps : List Bs) : (Ss ps).length = ps.length := by simp [Ss]
theorem dir_loop (r xs : List ByteArray) (hl : xs.length ≤ 4611686018427387904) (hx : ∀ x ∈ xs, x.size ≤ 4611686018427387904) : ∀ (d i : Nat), i + d = xs.length →
    Ev (fun k => path_directory.l0 k r xs (xs.length : Int) (i : Int)) (if (xs.drop i).all (fun s => compL (L s)) = true then (r, true) else ([], false)) := by
  intro d
  induction d with
  | zero =>
    intro i hi
    refine Ev.succ ?_
    simp (disch := omega) only [path_directory.l0, if_neg]
    rw [List.drop_of_length_le (by omega)]
    exact Ev.now _
  | succ d ih =>
    intro i hi
    have hlt : i < xs.length := by omega
    refine Ev.succ ?_
    simp (disch := omega) only [path_directory.l0, if_pos, wrap64_id]
    rw [rdOf_get _ _ (by omega) (by omega)]
    simp only [Int.toNat_natCast]
    rw [Ev.bind_iff (comp_ev _ (hx _ (List.getElem_mem hlt))), List.drop_eq_getElem_cons hlt, List.all_cons]
    cases hc : compL (L xs[i])
    · simp only [Bool.false_eq_true, if_false, Bool.false_and]
      exact Ev.now _
    · simp only [if_true, Bool.true_and]
      exact ih (i + 1) (by omega)
theorem Ss_all (ps : List Bs) : (Ss ps).all (fun s => compL (L s)) = ps.all compL := by
  unfold Ss
  rw [List.all_map]
  congr 1
theorem Ss_sizes {l : Bs} {B : Nat} (h : l.length ≤ B) : ∀ x ∈ Ss (splitL l), x.size ≤ B := by
  intro x hx
  obtain ⟨y, hy, rfl⟩ := List.mem_map.1 hx
  have := splitL_length_le l y hy
  rw [size_S]
  omega
def dirR (o : Option (List Bs)) : List ByteArray × Bool := match o with
  | some ps => (Ss ps, true)
  | none => ([], false)
def pathR (o : Option (List Bs)) : List ByteArray × Int := match o with
  | some ps => (Ss ps, 0)
  | none => ([], 20)
theorem dir_ev (s : ByteArray) (hs : s.size ≤ 1048576) : Ev (fun k => path_directory.f k s) (dirR (dirL (L s))) := by
  have hsz := size_eq s
  simp only [path_directory.f, cutPrefix_eq, Option.bind_some]
  rw [L_lit]
  unfold dirL
  by_cases h : [47, 47].isPrefixOf (L s) = true
  · simp only [h, if_true, true_and, List.length_cons, List.length_nil, Nat.zero_add, Nat.reduceAdd]
    have hd : (S ((L s).drop 2)).size ≤ 1048576 := by rw [size_S, List.length_drop]; omega
    rw [split_eq _ (by omega)]
    simp only [Option.bind_some]
    rw [L_S]
    have hcnt := splitL_count ((L s).drop 2)
    have hcl : ((L s).drop 2).count 47 ≤ ((L s).drop 2).length := List.count_le_length
    rw [List.length_drop] at hcl
    have h2 := dir_loop (Ss (splitL ((L s).drop 2))) (Ss (splitL ((L s).drop 2))) (by rw [Ss_length]; omega) (Ss_sizes (by rw [List.length_drop]; omega)) _ 0 (Nat.zero_add _)
    rw [List.drop_zero, Ss_all] at h2
    refine Ev.of_eq h2 ?_
    split <;> rfl
  · have h' : ¬ ([47, 47].isPrefixOf (L s) = true) := h
    simp only [h', Bool.false_eq_true, if_false, false_and]
    exact Ev.now _
theorem split_path_ev (s : ByteArray) (hs : s.size ≤ 1048576) : Ev (fun k => path_Split.f k s) (pathR (pathL (L s))) := by
  simp only [path_Split.f]
  rw [Ev.bind_iff (dir_ev s hs)]
  unfold pathL
  cases h : dirL (L s) with
  | none => exact Ev.now _
  | some ps =>
    simp only [dirR, Option.bind_some, if_true, Ss_length]
    by_cases h2 : ps.length < 2
    · simp (disch := omega) only [if_pos]
      exact Ev.now _
    · simp (disch := omega) only [if_neg]
      exact Ev.now _
def refPathR (o : Option (List Bs)) : List ByteArray × Bool := dirR o
end Go.Proofs.YthclkdplihchjaaDoor.P

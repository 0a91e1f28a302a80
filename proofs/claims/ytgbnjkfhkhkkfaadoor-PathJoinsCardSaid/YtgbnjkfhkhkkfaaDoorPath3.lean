/-
  Layer 2: joining components, the directory, the name and the extension of a path. No project text.
-/
import Derived.Test.YtgbnjkfhkhkkfaaDoorPath2
import Derived.Lib.Join
import Derived.Test.YtgbnjkfhkhkkfaaDoorPx6
import Derived.Test.YtgbnjkfhkhkkfaaDoorPx7
namespace Go.Proofs.YtgbnjkfhkhkkfaaDoor.P
open Go.RowKit Go.Proofs.YtgbnjkfhkhkkfaaDoorW.PrintWords
set_option linter.unusedVariables false
set_option linter.unusedSimpArgs false

theorem libjoin_cons (a b : Bs) (r : List Bs) (sep : Bs) : Lib.join (a :: b :: r) sep = a ++ (sep ++ Lib.join (b :: r) sep) := by
  rw [Lib.join_cons, Lib.join_cons]
  simp [Lib.joinTail]
theorem libjoin_eq : ∀ ps : List Bs, Lib.join ps [47] = joinL ps
  | [] => rfl
  | [a] => Lib.join_one a [47]
  | a :: b :: r => by
    rw [libjoin_cons, libjoin_eq (b :: r)]
    rfl
theorem join_eq (xs : List ByteArray) (h1 : xs.length ≤ 140737488355328) (h2 : (joinL (xs.map L)).length ≤ 140737488355328) : strings_Join.f xs (⟨#[47]⟩ : ByteArray) = some (S (joinL (xs.map L))) := by
  have e : Lib.join (xs.map (·.data.toList)) ((⟨#[47]⟩ : ByteArray).data.toList) = joinL (xs.map L) := libjoin_eq (xs.map L)
  unfold strings_Join.f
  rw [e, if_pos ⟨h1, h2⟩]
  rfl
theorem L_Ss (ps : List Bs) : (Ss ps).map L = ps := by
  unfold Ss
  rw [List.map_map]
  have : (L ∘ S) = id := by funext x; simp
  rw [this, List.map_id]
theorem joinL_bound (m : Nat) : ∀ ps : List Bs, (∀ x ∈ ps, x.length ≤ m) → (joinL ps).length ≤ ps.length * (m + 1)
  | [], _ => by simp [joinL]
  | [a], h => by
    have := h a (by simp)
    simp [joinL]
    omega
  | a :: b :: r, h => by
    have h1 := h a (by simp)
    have h2 := joinL_bound m (b :: r) (fun x hx => h x (List.mem_cons_of_mem _ hx))
    rw [join_cons a (by simp), List.length_append, List.length_cons, List.length_cons (a := a), Nat.succ_mul]
    omega
/-- The text of components. -/
def textL (ps : List Bs) : Bs := 47 :: 47 :: joinL ps
def joinR (xs : List ByteArray) : ByteArray × Int := if 2 ≤ xs.length ∧ xs.all (fun s => compL (L s)) = true then (S (textL (xs.map L)), 0) else (S [], 21)
theorem text_app (t : Bs) : (⟨#[47, 47]⟩ : ByteArray) ++ S t = S (47 :: 47 :: t) := by
  rw [append_S, L_S]
  rfl
theorem join_loop (xs : List ByteArray) (h1 : xs.length ≤ 1048576) (hx : ∀ x ∈ xs, x.size ≤ 1048576) (h2 : (joinL (xs.map L)).length ≤ 140737488355328) : ∀ (d i : Nat), i + d = xs.length →
    Ev (fun k => path_Join.l0 k xs xs (xs.length : Int) (i : Int)) (if (xs.drop i).all (fun s => compL (L s)) = true then (S (textL (xs.map L)), 0) else (S [], 21)) := by
  intro d
  induction d with
  | zero =>
    intro i hi
    refine Ev.succ ?_
    simp (disch := omega) only [path_Join.l0, if_neg]
    rw [join_eq xs (by omega) h2, List.drop_of_length_le (by omega)]
    have hb : (2 : Int) + ((S (joinL (xs.map L))).size : Int) ≤ 9223372036854775807 := by rw [size_S]; omega
    simp only [Option.bind_some, List.all_nil, if_true]
    first
      | rw [if_pos hb]
      | simp only [if_pos hb]
      | (have hb' : 2 + (S (joinL (xs.map L))).size ≤ 9223372036854775807 := by omega
         simp only [if_pos hb'])
    rw [text_app]
    exact Ev.now _
  | succ d ih =>
    intro i hi
    have hlt : i < xs.length := by omega
    refine Ev.succ ?_
    simp (disch := omega) only [path_Join.l0, if_pos, wrap64_id]
    rw [rdOf_get _ _ (by omega) (by omega)]
    simp only [Int.toNat_natCast]
    rw [Ev.bind_iff (comp_ev _ (by have := hx _ (List.getElem_mem hlt); omega)), List.drop_eq_getElem_cons hlt, List.all_cons]
    cases hc : compL (L xs[i])
    · simp only [Bool.false_eq_true, if_false, Bool.false_and]
      exact Ev.now _
    · simp only [if_true, Bool.true_and]
      exact ih (i + 1) (by omega)
theorem path_join_ev (xs : List ByteArray) (h1 : xs.length ≤ 1048576) (hx : ∀ x ∈ xs, x.size ≤ 1048576) : Ev (fun k => path_Join.f k xs) (joinR xs) := by
  have hb := joinL_bound 1048576 (xs.map L) (fun x hx2 => by
    obtain ⟨y, hy, rfl⟩ := List.mem_map.1 hx2
    rw [← size_eq]
    exact hx y hy)
  rw [List.length_map] at hb
  have hb2 : xs.length * (1048576 + 1) ≤ 1048576 * (1048576 + 1) := Nat.mul_le_mul_right _ h1
  simp only [path_Join.f, joinR]
  by_cases hl : xs.length < 2
  · simp (disch := omega) only [if_pos]
    rw [Ev.some_iff, if_neg (by omega)]
    rfl
  · have h2 := join_loop xs h1 hx (by omega) xs.length 0 (by omega)
    rw [List.drop_zero] at h2
    simp (disch := omega) only [if_neg]
    refine Ev.of_eq h2 ?_
    have h3 : 2 ≤ xs.length := by omega
    simp [h3]
theorem refjoin_eq (xs : List ByteArray) (h1 : xs.length ≤ 1048576) (hx : ∀ x ∈ xs, x.size ≤ 1048576) : stockyardref02_Join.f xs = some (S (textL (xs.map L))) := by
  have hb := joinL_bound 1048576 (xs.map L) (fun x hx2 => by
    obtain ⟨y, hy, rfl⟩ := List.mem_map.1 hx2
    rw [← size_eq]
    exact hx y hy)
  rw [List.length_map] at hb
  have hb2 : xs.length * (1048576 + 1) ≤ 1048576 * (1048576 + 1) := Nat.mul_le_mul_right _ h1
  simp only [stockyardref02_Join.f]
  rw [join_eq xs (by omega) (by omega)]
  simp only [Option.bind_some, size_S]
  rw [if_pos (by omega), text_app]
  rfl

/-! ### what a path's components tell -/
theorem comp_free {x : Bs} (h : compL x = true) : (47 : UInt8) ∉ x := by
  intro hm
  cases x with
  | nil => simp at hm
  | cons c r =>
    simp only [compL, Bool.and_eq_true, List.all_eq_true] at h
    have := h.2 47 hm
    exact absurd this (by decide)
theorem dir_text {l : Bs} {p : List Bs} (h : dirL l = some p) : l = textL p ∧ p.all compL = true ∧ p ≠ [] := by
  unfold dirL at h
  split at h
  · rename_i c
    injection h with h
    subst h
    refine ⟨?_, c.2, splitL_ne _⟩
    obtain ⟨x, rfl⟩ := List.isPrefixOf_iff_prefix.1 c.1
    simp only [List.cons_append, List.nil_append, List.drop_succ_cons, List.drop_zero, textL, join_split]
  · cases h
theorem text_dir {p : List Bs} (h : p.all compL = true) (hne : p ≠ []) : dirL (textL p) = some p := by
  unfold dirL textL
  have e : splitL (joinL p) = p := split_join hne (fun x hx => comp_free (List.all_eq_true.1 h x hx))
  simp only [List.drop_succ_cons, List.drop_zero, e, h, and_true]
  rw [if_pos (by simp [List.isPrefixOf])]
theorem text_path {p : List Bs} (h : p.all compL = true) (h2 : 2 ≤ p.length) : pathL (textL p) = some p := by
  unfold pathL
  rw [text_dir h (by intro e; subst e; simp at h2), Option.bind_some, if_neg (by omega)]
theorem path_text {l : Bs} {p : List Bs} (h : pathL l = some p) : l = textL p ∧ p.all compL = true ∧ 2 ≤ p.length := by
  have h1 := pathL_length h
  have h2 := dir_text h1.2.2
  exact ⟨h2.1, h2.2.1, h1.1⟩
theorem join_snoc : ∀ (q : List Bs) (x : Bs), q ≠ [] → joinL (q ++ [x]) = joinL q ++ 47 :: x
  | [], _, h => absurd rfl h
  | [a], x, _ => rfl
  | a :: b :: r, x, _ => by
    have ih := join_snoc (b :: r) x (by simp)
    rw [List.cons_append, join_cons a (by simp), ih, join_cons a (by simp)]
    simp
theorem snoc_of {p : List Bs} (h : 2 ≤ p.length) : ∃ q x, p = q ++ [x] ∧ q ≠ [] := by
  refine ⟨p.dropLast, p.getLast (by intro e; subst e; simp at h), (List.dropLast_concat_getLast _).symm, ?_⟩
  intro e
  have := congrArg List.length e
  simp at this
  omega
theorem text_snoc (q : List Bs) (x : Bs) (h : q ≠ []) : textL (q ++ [x]) = textL q ++ 47 :: x := by
  unfold textL
  rw [join_snoc q x h]
  rfl
/-- The directory of a path, and its name. -/
theorem parent_ev (s : ByteArray) (hs : s.size ≤ 1048576) : Ev (fun k => path_Parent.f k s) (match pathL (L s) with | some p => (S (textL p.dropLast), 0) | none => (S [], 20)) := by
  have hsz := size_eq s
  simp only [path_Parent.f]
  rw [Ev.bind_iff (split_path_ev s hs)]
  cases hp : pathL (L s) with
  | none => exact Ev.now _
  | some p =>
    have h1 := path_text hp
    obtain ⟨q, x, rfl, hq⟩ := snoc_of h1.2.2
    have h2 := pathL_length hp
    have e : L s = textL q ++ 47 :: x := by rw [h1.1, text_snoc q x hq]
    have hl : (L s).length = (textL q).length + (x.length + 1) := by rw [e]; simp
    simp only [pathR, if_true, Ss_length]
    have hlen : (q ++ [x]).length = q.length + 1 := by simp
    simp (disch := omega) only [hlen, if_pos, wrap64_id]
    have e1 : rdOf ByteArray.empty (Ss (q ++ [x])) (((q.length + 1 : Nat) : Int) - 1) = S x := by
      rw [rdOf_get _ _ (by omega) (by rw [Ss_length]; omega)]
      have : (((q.length + 1 : Nat) : Int) - 1).toNat = q.length := by omega
      simp [Ss, this]
    rw [e1, size_S]
    simp (disch := omega) only [if_pos, wrap64_id]
    rw [extract_to, Ev.some_iff]
    have e2 : ((s.size : Int) - (x.length : Int) - 1).toNat = (textL q).length := by omega
    rw [e2, e]
    simp
theorem name_ev (s : ByteArray) (hs : s.size ≤ 1048576) : Ev (fun k => path_Name.f k s) (match pathL (L s) with | some p => (S (p.getLastD []), 0) | none => (S [], 20)) := by
  have hsz := size_eq s
  simp only [path_Name.f]
  rw [Ev.bind_iff (split_path_ev s hs)]
  cases hp : pathL (L s) with
  | none => exact Ev.now _
  | some p =>
    have h1 := path_text hp
    obtain ⟨q, x, rfl, hq⟩ := snoc_of h1.2.2
    have h2 := pathL_length hp
    simp only [pathR, if_true, Ss_length]
    have hlen : (q ++ [x]).length = q.length + 1 := by simp
    rw [hlen] at h2
    simp (disch := omega) only [hlen, if_pos, wrap64_id]
    have e1 : rdOf ByteArray.empty (Ss (q ++ [x])) (((q.length + 1 : Nat) : Int) - 1) = S x := by
      rw [rdOf_get _ _ (by omega) (by rw [Ss_length]; omega)]
      have : (((q.length + 1 : Nat) : Int) - 1).toNat = q.length := by omega
      simp [Ss, this]
    rw [e1, Ev.some_iff]
    simp
/-- The last place of a byte: the plain law asks no more of it than that it is one. -/
theorem lastindex_ev (s : ByteArray) (c : Int) (hs : s.size ≤ 1048576) : ∃ r : Int, -1 ≤ r ∧ r < (s.size : Int) ∧ Ev (fun k => strings_LastIndexByte.f k s c) r := by
  have loop : ∀ (d : Nat) (i : Int), i + 1 = d → i < (s.size : Int) → ∃ r : Int, -1 ≤ r ∧ r < (s.size : Int) ∧ Ev (fun k => bytealg_LastIndexByteString.l0 k s c i) r := by
    intro d
    induction d with
    | zero =>
      intro i hi hlt
      refine ⟨-1, by omega, by omega, Ev.succ ?_⟩
      simp (disch := omega) only [bytealg_LastIndexByteString.l0, if_neg]
      exact Ev.now _
    | succ d ih =>
      intro i hi hlt
      by_cases e : bt s i = c
      · refine ⟨i, by omega, by omega, Ev.succ ?_⟩
        simp (disch := omega) only [bytealg_LastIndexByteString.l0, if_pos, e]
        exact Ev.now _
      · obtain ⟨r, h1, h2, h3⟩ := ih (i - 1) (by omega) (by omega)
        refine ⟨r, h1, h2, Ev.succ ?_⟩
        simp (disch := omega) only [bytealg_LastIndexByteString.l0, if_pos, e, if_false, wrap64_id]
        exact h3
  obtain ⟨r, h1, h2, h3⟩ := loop s.size ((s.size : Int) - 1) (by omega) (by omega)
  refine ⟨r, h1, h2, ?_⟩
  simp only [strings_LastIndexByte.f, bytealg_LastIndexByteString.f]
  rw [Ev.bind_some]
  simp (disch := omega) only [wrap64_id]
  exact h3
end Go.Proofs.YtgbnjkfhkhkkfaaDoor.P

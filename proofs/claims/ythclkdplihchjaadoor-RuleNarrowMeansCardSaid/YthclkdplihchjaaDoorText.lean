/-
  Layer 2: the texts of paths (for seats that have no Path2, Path3). No project text.
-/
import Derived.Test.YthclkdplihchjaaDoorPath
import Derived.Lib.Join
import Derived.Test.YthclkdplihchjaaDoorPx1
namespace Go.Proofs.YthclkdplihchjaaDoor.P
open Go.RowKit Go.Proofs.YthclkdplihchjaaDoorW.PrintWords
set_option linter.unusedVariables false
set_option linter.unusedSimpArgs false

theorem Ss_inj {p q : List Bs} (h : Ss p = Ss q) : p = q := by
  have e : ∀ r : List Bs, (Ss r).map L = r := fun r => by
    unfold Ss
    rw [List.map_map]
    have : (L ∘ S) = id := by funext x; simp
    rw [this, List.map_id]
  rw [← e p, ← e q, h]
theorem pathL_length {l : Bs} {p : List Bs} (h : pathL l = some p) : 2 ≤ p.length ∧ p.length ≤ l.length + 1 ∧ dirL l = some p := by
  unfold pathL at h
  obtain ⟨q, hq, h2⟩ := Option.bind_eq_some_iff.1 h
  split at h2
  · cases h2
  · injection h2 with h2
    subst h2
    refine ⟨by omega, ?_, hq⟩
    unfold dirL at hq
    split at hq
    · injection hq with hq
      subst hq
      rw [splitL_count]
      have := List.count_le_length (a := (47 : UInt8)) (l := l.drop 2)
      rw [List.length_drop] at this
      omega
    · cases hq
theorem dirL_length {l : Bs} {p : List Bs} (h : dirL l = some p) : 1 ≤ p.length ∧ p.length ≤ l.length + 1 := by
  unfold dirL at h
  split at h
  · injection h with h
    subst h
    rw [splitL_count]
    have := List.count_le_length (a := (47 : UInt8)) (l := l.drop 2)
    rw [List.length_drop] at this
    omega
  · cases h
theorem libjoin_cons (a b : Bs) (r : List Bs) (sep : Bs) : Lib.join (a :: b :: r) sep = a ++ (sep ++ Lib.join (b :: r) sep) := by
  rw [Lib.join_cons, Lib.join_cons]
  simp [Lib.joinTail]
theorem libjoin_eq : ∀ ps : List Bs, Lib.join ps [47] = joinL ps
  | [] => rfl
  | [a] => Lib.join_one a [47]
  | a :: b :: r => by
    rw [libjoin_cons, libjoin_eq (b :: r)]
    rfl
theorem join_eq (xs : List ByteArray) (h1 : xs.length ≤ 140737488355328) (h2 : (joinL (xs.map L)).length ≤ 140737488355328) : strings_Join.f xs (⟨#[47]⟩ : ByteArray) = some (S (joinL (xs.map L))) := by
  have e : Lib.join (xs.map (·.data.toList)) ((⟨#[47]⟩ : ByteArray).data.toList) = joinL (xs.map L) := libjoin_eq (xs.map L)
  unfold strings_Join.f
  rw [e, if_pos ⟨h1, h2⟩]
  rfl
theorem L_Ss (ps : List Bs) : (Ss ps).map L = ps := by
  unfold Ss
  rw [List.map_map]
  have : (L ∘ S) = id := by funext x; simp
  rw [this, List.map_id]
theorem joinL_bound (m : Nat) : ∀ ps : List Bs, (∀ x ∈ ps, x.length ≤ m) → (joinL ps).length ≤ ps.length * (m + 1)
  | [], _ => by simp [joinL]
  | [a], h => by
    have := h a (by simp)
    simp [joinL]
    omega
  | a :: b :: r, h => by
    have h1 := h a (by simp)
    have h2 := joinL_bound m (b :: r) (fun x hx => h x (List.mem_cons_of_mem _ hx))
    rw [join_cons a (by simp), List.length_append, List.length_cons, List.length_cons (a := a), Nat.succ_mul]
    omega
def textL (ps : List Bs) : Bs := 47 :: 47 :: joinL ps
theorem text_app (t : Bs) : (⟨#[47, 47]⟩ : ByteArray) ++ S t = S (47 :: 47 :: t) := by
  rw [append_S, L_S]
  rfl
theorem comp_free {x : Bs} (h : compL x = true) : (47 : UInt8) ∉ x := by
  intro hm
  cases x with
  | nil => simp at hm
  | cons c r =>
    simp only [compL, Bool.and_eq_true, List.all_eq_true] at h
    have := h.2 47 hm
    exact absurd this (by decide)
theorem dir_text {l : Bs} {p : List Bs} (h : dirL l = some p) : l = textL p ∧ p.all compL = true ∧ p ≠ [] := by
  unfold dirL at h
  split at h
  · rename_i c
    injection h with h
    subst h
    refine ⟨?_, c.2, splitL_ne _⟩
    obtain ⟨x, rfl⟩ := List.isPrefixOf_iff_prefix.1 c.1
    simp only [List.cons_append, List.nil_append, List.drop_succ_cons, List.drop_zero, textL, join_split]
  · cases h
theorem text_dir {p : List Bs} (h : p.all compL = true) (hne : p ≠ []) : dirL (textL p) = some p := by
  unfold dirL textL
  have e : splitL (joinL p) = p := split_join hne (fun x hx => comp_free (List.all_eq_true.1 h x hx))
  simp only [List.drop_succ_cons, List.drop_zero, e, h, and_true]
  rw [if_pos (by simp [List.isPrefixOf])]
theorem text_path {p : List Bs} (h : p.all compL = true) (h2 : 2 ≤ p.length) : pathL (textL p) = some p := by
  unfold pathL
  rw [text_dir h (by intro e; subst e; simp at h2), Option.bind_some, if_neg (by omega)]
theorem path_text {l : Bs} {p : List Bs} (h : pathL l = some p) : l = textL p ∧ p.all compL = true ∧ 2 ≤ p.length := by
  have h1 := pathL_length h
  have h2 := dir_text h1.2.2
  exact ⟨h2.1, h2.2.1, h1.1⟩
theorem join_snoc : ∀ (q : List Bs) (x : Bs), q ≠ [] → joinL (q ++ [x]) = joinL q ++ 47 :: x
  | [], _, h => absurd rfl h
  | [a], x, _ => rfl
  | a :: b :: r, x, _ => by
    have ih := join_snoc (b :: r) x (by simp)
    rw [List.cons_append, join_cons a (by simp), ih, join_cons a (by simp)]
    simp
theorem snoc_of {p : List Bs} (h : 2 ≤ p.length) : ∃ q x, p = q ++ [x] ∧ q ≠ [] := by
  refine ⟨p.dropLast, p.getLast (by intro e; subst e; simp at h), (List.dropLast_concat_getLast _).symm, ?_⟩
  intro e
  have := congrArg List.length e
  simp at this
  omega
theorem text_snoc (q : List Bs) (x : Bs) (h : q ≠ []) : textL (q ++ [x]) = textL q ++ 47 :: x := by
  unfold textL
  rw [join_snoc q x h]
  rfl
end Go.Proofs.YthclkdplihchjaaDoor.P

/-
  Cutting a text at its slashes, and joining it again: the plain law. No project text.
-/
import Derived.Test.YthclkdplihchjaaDoorCore
namespace Go.Proofs.YthclkdplihchjaaDoor.P
open Go.RowKit Go.Proofs.YthclkdplihchjaaDoorW.PrintWords
set_option linter.unusedVariables false
set_option linter.unusedSimpArgs false

/-- A text cut at every slash. -/
def splitL : Bs → List Bs
  | [] => [[]]
  | c :: l => if c = 47 then [] :: splitL l else match splitL l with
    | h :: t => (c :: h) :: t
    | [] => [[c]]
/-- Texts with a slash between them. -/
def joinL : List Bs → Bs
  | [] => []
  | [a] => a
  | a :: b :: r => a ++ 47 :: joinL (b :: r)
theorem splitL_ne (l : Bs) : splitL l ≠ [] := by
  cases l with
  | nil => simp [splitL]
  | cons c l =>
    unfold splitL
    split
    · simp
    · split <;> simp
theorem splitL_none {l : Bs} (h : (47 : UInt8) ∉ l) : splitL l = [l] := by
  induction l with
  | nil => rfl
  | cons c l ih =>
    have h1 : c ≠ 47 := fun e => h (by simp [e])
    have h2 := ih (fun e => h (by simp [e]))
    simp [splitL, h1, h2]
theorem splitL_some {a b : Bs} (h : (47 : UInt8) ∉ a) : splitL (a ++ 47 :: b) = a :: splitL b := by
  induction a with
  | nil => simp [splitL]
  | cons c a ih =>
    have h1 : c ≠ 47 := fun e => h (by simp [e])
    have h2 := ih (fun e => h (by simp [e]))
    simp only [List.cons_append, splitL, h1, if_false, h2]
theorem splitL_free (l : Bs) : ∀ x ∈ splitL l, (47 : UInt8) ∉ x := by
  induction l with
  | nil => simp [splitL]
  | cons c l ih =>
    unfold splitL
    split
    · rename_i hc
      intro x hx
      rcases List.mem_cons.1 hx with rfl | hx
      · simp
      · exact ih x hx
    · rename_i hc
      split
      · rename_i h t he
        rw [he] at ih
        intro x hx
        rcases List.mem_cons.1 hx with rfl | hx
        · have := ih h (by simp)
          simp only [List.mem_cons, not_or]
          exact ⟨fun e => hc e.symm, this⟩
        · exact ih x (List.mem_cons_of_mem _ hx)
      · rename_i he
        exact absurd he (splitL_ne l)
theorem join_cons (a : Bs) {r : List Bs} (h : r ≠ []) : joinL (a :: r) = a ++ 47 :: joinL r := by
  cases r with
  | nil => exact absurd rfl h
  | cons b r => rfl
theorem join_split (l : Bs) : joinL (splitL l) = l := by
  induction l with
  | nil => rfl
  | cons c l ih =>
    unfold splitL
    split
    · rename_i hc
      rw [join_cons _ (splitL_ne l), ih, hc]
      rfl
    · split
      · rename_i h t he
        rw [he] at ih
        cases t with
        | nil => simp [joinL] at ih ⊢; exact ih
        | cons b t => simp [joinL] at ih ⊢; exact ih
      · rename_i he
        exact absurd he (splitL_ne l)
theorem split_join {ps : List Bs} (hne : ps ≠ []) (hf : ∀ x ∈ ps, (47 : UInt8) ∉ x) : splitL (joinL ps) = ps := by
  induction ps with
  | nil => exact absurd rfl hne
  | cons a r ih =>
    cases r with
    | nil => exact splitL_none (hf a (by simp))
    | cons b r =>
      rw [join_cons _ (by simp), splitL_some (hf a (by simp)), ih (by simp) (fun x hx => hf x (List.mem_cons_of_mem _ hx))]
theorem splitL_count (l : Bs) : (splitL l).length = l.count 47 + 1 := by
  induction l with
  | nil => rfl
  | cons c l ih =>
    unfold splitL
    split
    · rename_i hc
      simp [hc, ih]
    · rename_i hc
      have h1 : List.count 47 (c :: l) = List.count 47 l := by rw [List.count_cons]; simp [hc]
      split
      · rename_i h t he
        rw [he] at ih
        rw [h1]
        simpa using ih
      · rename_i he
        exact absurd he (splitL_ne l)
theorem splitL_length_le (l : Bs) : ∀ x ∈ splitL l, x.length ≤ l.length := by
  induction l with
  | nil => simp [splitL]
  | cons c l ih =>
    unfold splitL
    split
    · intro x hx
      rcases List.mem_cons.1 hx with rfl | hx
      · simp
      · have := ih x hx; simp; omega
    · split
      · rename_i h t he
        rw [he] at ih
        intro x hx
        rcases List.mem_cons.1 hx with rfl | hx
        · have := ih h (by simp); simp; omega
        · have := ih x (List.mem_cons_of_mem _ hx); simp; omega
      · intro x hx
        simp at hx
        subst hx
        simp

/-- Where the first slash stands. -/
theorem indexByte_none {l : Bs} {c : UInt8} : Lib.indexByte l c = -1 ↔ c ∉ l := by
  induction l with
  | nil => simp [Lib.indexByte]
  | cons b l ih =>
    unfold Lib.indexByte
    have hge := Lib.indexByte_ge l c
    by_cases hb : b = c
    · subst hb
      simp
    · simp only [beq_iff_eq, hb, if_false]
      have hb' : ¬ c = b := fun e => hb e.symm
      split
      · rename_i h
        have := ih.1 (by simpa using h)
        simp [hb', this]
      · rename_i h
        have h' : Lib.indexByte l c ≠ -1 := by simpa using h
        have h2 : ¬ c ∉ l := fun e => h' (ih.2 e)
        simp only [List.mem_cons, hb', false_or]
        constructor
        · intro e; omega
        · intro e; exact absurd e h2
theorem indexByte_some {l : Bs} {c : UInt8} (h : c ∈ l) : ∃ a b, l = a ++ c :: b ∧ c ∉ a ∧ Lib.indexByte l c = (a.length : Int) := by
  induction l with
  | nil => simp at h
  | cons x l ih =>
    by_cases hx : x = c
    · subst hx
      exact ⟨[], l, rfl, by simp, by simp [Lib.indexByte]⟩
    · have h' : c ∈ l := by
        rcases List.mem_cons.1 h with e | e
        · exact absurd e.symm hx
        · exact e
      obtain ⟨a, b, rfl, ha, hi⟩ := ih h'
      refine ⟨x :: a, b, rfl, ?_, ?_⟩
      · simp only [List.mem_cons, not_or]
        exact ⟨fun e => hx e.symm, ha⟩
      · unfold Lib.indexByte
        simp only [beq_iff_eq, hx, if_false, hi]
        have : ¬ ((a.length : Int) = -1) := by omega
        simp [this]
end Go.Proofs.YthclkdplihchjaaDoor.P

/-
  Chapter 9: components as steps; what the steps keep. No project text.
-/
import Derived.Test.YtolmcdglemkchaaDoorFol

namespace Go.Proofs.YtolmcdglemkchaaDoor.P
open Go.RowKit Go.Proofs.YtolmcdglemkchaaDoorW.PrintWords
set_option linter.unusedVariables false
set_option linter.unusedSimpArgs false

theorem comp_facts {n : Bs} (h : compL n = true) : n ≠ [] ∧ n ≠ [46] ∧ n ≠ [46, 46] ∧ (0 : UInt8) ∉ n ∧ (10 : UInt8) ∉ n ∧ (47 : UInt8) ∉ n := by
  have hb : ∀ c : UInt8, okU c = false → c ∉ n := by
    intro c hc hm
    cases n with
    | nil => simp at hm
    | cons a r =>
      simp only [compL, Bool.and_eq_true, List.all_eq_true] at h
      have := h.2 c hm
      rw [hc] at this
      cases this
  refine ⟨?_, ?_, ?_, hb 0 (by decide), hb 10 (by decide), hb 47 (by decide)⟩
  · rintro rfl
    cases h
  · rintro rfl
    exact absurd h (by decide)
  · rintro rfl
    exact absurd h (by decide)
theorem steps_comp {acc : List Bs} {n : Bs} (h : compL n = true) (r : List Bs) : stepsL acc (n :: r) = stepsL (acc ++ [n]) r := by
  have f := comp_facts h
  rw [stepsL, if_neg (fun e => e.elim f.1 f.2.1), if_neg f.2.2.1, if_pos h]
theorem steps_dot (acc : List Bs) (r : List Bs) : stepsL acc ([46] :: r) = stepsL acc r := by
  rw [stepsL, if_pos (.inr rfl)]
theorem steps_up {acc : List Bs} (n : Bs) (h : 1 ≤ acc.length) (r : List Bs) : stepsL (acc ++ [n]) ([46, 46] :: r) = stepsL acc r := by
  rw [stepsL, if_neg (by simp), if_pos rfl, if_neg (by rw [List.length_append, List.length_singleton]; omega), List.dropLast_concat]
/-- The steps keep components, and the first of them. -/
theorem steps_keep : ∀ (ts acc r : List Bs), 1 ≤ acc.length → acc.all compL = true → stepsL acc ts = some r → 1 ≤ r.length ∧ r.all compL = true ∧ r.head? = acc.head? := by
  intro ts
  induction ts with
  | nil =>
    intro acc r h1 h2 h
    injection h with h
    subst h
    exact ⟨h1, h2, rfl⟩
  | cons s ts ih =>
    intro acc r h1 h2 h
    rw [stepsL] at h
    split at h
    · exact ih acc r h1 h2 h
    · split at h
      · split at h
        · cases h
        · have hd : acc.dropLast.head? = acc.head? := by
            match acc with
            | [] => rfl
            | [a] => simp_all
            | a :: b :: q => rfl
          have := ih acc.dropLast r (by rw [List.length_dropLast]; omega) (all_drop h2) h
          exact ⟨this.1, this.2.1, this.2.2.trans hd⟩
      · split at h
        · rename_i hc
          have hd : (acc ++ [s]).head? = acc.head? := by
            match acc with
            | [] => simp at h1
            | a :: q => rfl
          have := ih (acc ++ [s]) r (by rw [List.length_append]; omega) (all_snoc h2 hc) h
          exact ⟨this.1, this.2.1, this.2.2.trans hd⟩
        · cases h
theorem target_parts {t : Bs} (h : targetL t = true) : t ≠ [] ∧ t.length ≤ 200 ∧ 0 ∉ t ∧ 10 ∉ t := of_decide_eq_true h
/-- Where it leads, told by parts. -/
theorem followL_ok {l t : Bs} {p : List Bs} (hp : pathL l = some p) (ht : targetL t = true) (hh : t.head? ≠ some 47) : followL l t = endL (stepsL p.dropLast (splitL t)) := by
  unfold followL
  rw [hp]
  simp only
  rw [if_pos ht, if_neg hh]
theorem followL_inv {l t : Bs} (h : (followL l t).2 = 0) : ∃ p acc, pathL l = some p ∧ targetL t = true ∧ t.head? ≠ some 47 ∧ stepsL p.dropLast (splitL t) = some acc ∧ 2 ≤ acc.length ∧ followL l t = (S (textL acc), 0) := by
  unfold followL at h ⊢
  cases hp : pathL l with
  | none =>
    rw [hp] at h
    exact absurd (show (20 : Int) = 0 from h) (by decide)
  | some p =>
    rw [hp] at h
    simp only at h ⊢
    by_cases h1 : targetL t = true
    · rw [if_pos h1] at h ⊢
      by_cases h2 : t.head? = some 47
      · rw [if_pos h2] at h
        exact absurd h (by decide)
      · rw [if_neg h2] at h ⊢
        cases hst : stepsL p.dropLast (splitL t) with
        | none =>
          rw [hst] at h
          exact absurd (show (92 : Int) = 0 from h) (by decide)
        | some acc =>
          rw [hst] at h
          unfold endL at h ⊢
          by_cases h3 : acc.length < 2
          · simp only [if_pos h3] at h
            exact absurd h (by decide)
          · exact ⟨p, acc, rfl, h1, h2, hst, by omega, by simp only [if_neg h3]⟩
    · rw [if_neg h1] at h
      exact absurd (show (91 : Int) = 0 from h) (by decide)
end Go.Proofs.YtolmcdglemkchaaDoor.P

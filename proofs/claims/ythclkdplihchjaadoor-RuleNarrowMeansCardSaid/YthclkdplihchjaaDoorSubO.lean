/-
  Layer 3: Substitute told as a pattern, or none; sizes. Plain lists; no printed function of its own.
-/
import Derived.Test.YthclkdplihchjaaDoorSub
import Derived.Test.YthclkdplihchjaaDoorMeet0
namespace Go.Proofs.YthclkdplihchjaaDoor.P
open Go.RowKit Go.Proofs.YthclkdplihchjaaDoorW.PrintWords Go.Proofs.YthclkdplihchjaaDoor.Args
set_option linter.unusedVariables false
set_option linter.unusedSimpArgs false

def bindW (ps : List Bs) (b : Bool) (qs : List Bs) (b' : Bool) : List (List Bs × Bool) := if inP qs b' ps b = true then bindP ps b qs b' else []
def subOut (ps : List Bs) (b : Bool) (l : List (List Bs × Bool)) : List Bs × Bool :=
  if b = true then ((subL ps l).1 ++ ((subL ps l).2.headD ([], false)).1, ((subL ps l).2.headD ([], false)).2) else ((subL ps l).1, false)
def sub2 (ps : List Bs) (b : Bool) (l : List (List Bs × Bool)) : Option (List Bs × Bool) :=
  if checkI ps b = 0 ∧ l.length = starsN ps + oneN b ∧ fitL (starsN ps) l = true ∧ (subOut ps b l).1.length ≤ 12 then some (subOut ps b l) else none
theorem endS_eq (ps : List Bs) (b : Bool) (l : List (List Bs × Bool)) : endS b (subL ps l).1 (subL ps l).2 = if (subOut ps b l).1.length ≤ 12 then (Ss (subOut ps b l).1, (subOut ps b l).2, 0) else ([], false, 31) := by
  unfold endS subOut
  cases b
  · simp only [Bool.false_eq_true, if_false]
    by_cases h : 12 < (subL ps l).1.length
    · rw [if_pos h, if_neg (by omega)]
    · rw [if_neg h, if_pos (by omega)]
  · simp only [if_true]
    by_cases h : 12 < ((subL ps l).1 ++ ((subL ps l).2.headD ([], false)).1).length
    · rw [if_pos h, if_neg (by omega)]
    · rw [if_neg h, if_pos (by omega)]
theorem subR_some {ps : List Bs} {b : Bool} {l : List (List Bs × Bool)} {o : List Bs} {f : Bool} (h : sub2 ps b l = some (o, f)) : subR ps b l = (Ss o, f, 0) := by
  unfold sub2 at h
  split at h
  · rename_i hh
    injection h with h
    unfold subR
    rw [if_pos hh.1, if_pos hh.2.1, if_pos hh.2.2.1, endS_eq, if_pos hh.2.2.2, h]
  · cases h
theorem subR_none {ps : List Bs} {b : Bool} {l : List (List Bs × Bool)} (h : sub2 ps b l = none) : (subR ps b l).2.2 ≠ 0 := by
  unfold sub2 at h
  split at h
  · cases h
  · rename_i hh
    unfold subR
    by_cases h1 : checkI ps b = 0
    · rw [if_pos h1]
      by_cases h2 : l.length = starsN ps + oneN b
      · rw [if_pos h2]
        by_cases h3 : fitL (starsN ps) l = true
        · rw [if_pos h3, endS_eq, if_neg (fun h4 => hh ⟨h1, h2, h3, h4⟩)]
          decide
        · rw [if_neg h3]
          decide
      · rw [if_neg h2]
        decide
    · rw [if_neg h1]
      exact h1
theorem subR_ok {ps : List Bs} {b : Bool} {l : List (List Bs × Bool)} : ((subR ps b l).2.2 == 0) = (sub2 ps b l).isSome := by
  cases h : sub2 ps b l with
  | none =>
    have := subR_none h
    simpa using this
  | some x =>
    rw [subR_some (o := x.1) (f := x.2) h]
    rfl
theorem subL_sizes (m : Nat) : ∀ (ps : List Bs) (l : List (List Bs × Bool)), (∀ x ∈ ps, x.length ≤ m) → (∀ x ∈ l, ∀ y ∈ x.1, y.length ≤ m) → (∀ y ∈ (subL ps l).1, y.length ≤ m + m) ∧ ∀ x ∈ (subL ps l).2, x ∈ l
  | [], l, _, _ => ⟨fun y hy => by simp [subL] at hy, fun x hx => hx⟩
  | p :: ps, l, hp, hl => by
    have hp1 := hp p (by simp)
    have hp2 : ∀ x ∈ ps, x.length ≤ m := fun x hx => hp x (List.mem_cons_of_mem _ hx)
    simp only [subL]
    cases hs : starL p with
    | none =>
      have ih := subL_sizes m ps l hp2 hl
      refine ⟨fun y hy => ?_, ih.2⟩
      rcases List.mem_cons.1 hy with rfl | hy
      · omega
      · exact ih.1 y hy
    | some s =>
      have hsl := starL_len hs
      cases l with
      | nil =>
        have ih := subL_sizes m ps [] hp2 hl
        refine ⟨fun y hy => ?_, fun x hx => by simp at hx⟩
        rcases List.mem_cons.1 hy with rfl | hy
        · omega
        · exact ih.1 y hy
      | cons x l =>
        have ih := subL_sizes m ps l hp2 (fun z hz => hl z (List.mem_cons_of_mem _ hz))
        refine ⟨fun y hy => ?_, fun z hz => List.mem_cons_of_mem _ (ih.2 z hz)⟩
        rcases List.mem_cons.1 hy with rfl | hy
        · rw [List.length_append]
          have : (x.1.headD []).length ≤ m := by
            cases h : x.1 with
            | nil => simp
            | cons y r => exact hl x (by simp) y (by rw [h]; simp)
          omega
        · exact ih.1 y hy
theorem sub2_sizes {ps : List Bs} {b : Bool} {l : List (List Bs × Bool)} {o : List Bs} {f : Bool} (m : Nat) (h : sub2 ps b l = some (o, f)) (hp : ∀ x ∈ ps, x.length ≤ m) (hl : ∀ x ∈ l, ∀ y ∈ x.1, y.length ≤ m) : o.length ≤ 12 ∧ ∀ y ∈ o, y.length ≤ m + m := by
  unfold sub2 at h
  split at h
  · rename_i hh
    injection h with h
    have h12 := hh.2.2.2
    rw [h] at h12
    refine ⟨h12, fun y hy => ?_⟩
    have hs := subL_sizes m ps l hp hl
    have e : o = (subOut ps b l).1 := by rw [h]
    rw [e] at hy
    unfold subOut at hy
    split at hy
    · rcases List.mem_append.1 hy with hy | hy
      · exact hs.1 y hy
      · cases hr : (subL ps l).2 with
        | nil => rw [hr] at hy; simp at hy
        | cons x r =>
          rw [hr] at hy
          have := hl x (hs.2 x (by rw [hr]; simp)) y (by simpa using hy)
          omega
    · exact hs.1 y hy
  · cases h
theorem bindL_sizes (m : Nat) : ∀ (ps qs : List Bs), (∀ x ∈ qs, x.length ≤ m) → (bindL ps qs).length ≤ ps.length ∧ ∀ x ∈ bindL ps qs, x.1.length = 1 ∧ ∀ y ∈ x.1, y.length ≤ m
  | [], qs, _ => ⟨by simp [bindL], fun x hx => by simp [bindL] at hx⟩
  | _ :: _, [], _ => ⟨by simp [bindL], fun x hx => by simp [bindL] at hx⟩
  | p :: ps, q :: qs, hq => by
    have ih := bindL_sizes m ps qs (fun x hx => hq x (List.mem_cons_of_mem _ hx))
    simp only [bindL]
    cases hs : starL p with
    | none => exact ⟨by simp only [List.length_cons]; omega, ih.2⟩
    | some s =>
      refine ⟨by simp only [List.length_cons]; omega, fun x hx => ?_⟩
      rcases List.mem_cons.1 hx with rfl | hx
      · refine ⟨rfl, fun y hy => ?_⟩
        rw [List.mem_singleton.1 hy, List.length_take]
        have := hq q (by simp)
        omega
      · exact ih.2 x hx
theorem bindP_sizes {m : Nat} {ps qs : List Bs} {b b' : Bool} (hq : ∀ x ∈ qs, x.length ≤ m) : (bindP ps b qs b').length ≤ ps.length + 1 ∧ ∀ x ∈ bindP ps b qs b', x.1.length ≤ qs.length + 1 ∧ ∀ y ∈ x.1, y.length ≤ m := by
  have h := bindL_sizes m ps qs hq
  unfold bindP
  refine ⟨?_, fun x hx => ?_⟩
  · rw [List.length_append]
    split <;> simp <;> omega
  · rcases List.mem_append.1 hx with hx | hx
    · have := h.2 x hx
      exact ⟨by omega, this.2⟩
    · split at hx
      · rw [List.mem_singleton.1 hx]
        exact ⟨by rw [List.length_drop]; omega, fun y hy => hq y (List.mem_of_mem_drop hy)⟩
      · simp at hx
end Go.Proofs.YthclkdplihchjaaDoor.P

/-
  Layer 3: the witness of a pattern that does not lie within another one. No project text.
-/
import Derived.Test.YthclkdplihchjaaDoorWth

namespace Go.Proofs.YthclkdplihchjaaDoor.P
open Go.RowKit Go.Proofs.YthclkdplihchjaaDoorW.PrintWords Go.Proofs.YthclkdplihchjaaDoor.Args
set_option linter.unusedVariables false
set_option linter.unusedSimpArgs false

def witB (x : Bs) (qo : Option Bs) : Bs := if [42].isPrefixOf x = true then (if qo = some (81 :: x.drop 1) then 82 :: x.drop 1 else 81 :: x.drop 1) else x
def witAt (ps qs : List Bs) (i : Nat) : Bs := witB (ps.getD i [42]) qs[i]?
def witL (ps qs : List Bs) (m : Nat) : List Bs := (List.range m).map (witAt ps qs)
theorem witB_len {x : Bs} {qo : Option Bs} {m : Nat} (h : x.length ≤ m) : (witB x qo).length ≤ m := by
  unfold witB
  split
  · rename_i hp
    have := (List.isPrefixOf_iff_prefix.1 hp).length_le
    simp only [List.length_cons, List.length_nil] at this
    split <;> simp only [List.length_cons, List.length_drop] <;> omega
  · exact h
theorem witAt_len {ps qs : List Bs} {i m : Nat} (h : ∀ x ∈ ps, x.length ≤ m) (hm : 1 ≤ m) : (witAt ps qs i).length ≤ m := by
  refine witB_len ?_
  rw [List.getD_eq_getElem?_getD]
  by_cases hi : i < ps.length
  · rw [List.getElem?_eq_getElem hi]
    exact h _ (List.getElem_mem hi)
  · rw [List.getElem?_eq_none (by omega)]
    simpa using hm
theorem witL_len (ps qs : List Bs) (m : Nat) : (witL ps qs m).length = m := by simp [witL]
theorem witL_get (ps qs : List Bs) (m i : Nat) (h : i < (witL ps qs m).length) : (witL ps qs m)[i] = witAt ps qs i := by simp [witL]
theorem witL_snoc (ps qs : List Bs) (m : Nat) : witL ps qs m ++ [witAt ps qs m] = witL ps qs (m + 1) := by simp [witL, List.range_succ]
theorem comp_q (r : Bs) : compL (81 :: r) = r.all okU := by
  have h : okU 81 = true := by decide
  simp [compL, h]
theorem comp_r (r : Bs) : compL (82 :: r) = r.all okU := by
  have h : okU 82 = true := by decide
  simp [compL, h]
theorem witB_part {x : Bs} (px : partB x = true) (qo : Option Bs) : compL (witB x qo) = true ∧ partM x (witB x qo) = true ∧ ∀ y, partB y = true → qo = some y → partM y (witB x qo) = true → inB x y = true := by
  rcases part_cases px with ⟨h1, h2⟩ | ⟨s, h1, h2, h3⟩
  · have hp : ¬ [42].isPrefixOf x = true := by
      intro hp
      obtain ⟨r, hr⟩ := List.isPrefixOf_iff_prefix.1 hp
      rw [← hr] at h2
      simp [compL, okU_star] at h2
    have hw : witB x qo = x := by
      unfold witB
      rw [if_neg hp]
    rw [hw]
    refine ⟨h2, by simp [partM, h1], fun y py hq hm => ?_⟩
    unfold partM at hm
    unfold inB
    cases hy : starL y with
    | none =>
      rw [hy] at hm
      exact hm
    | some t =>
      rw [hy] at hm
      dsimp only at hm ⊢
      rw [h1]
      exact hm
  · have hp : [42].isPrefixOf x = true := by rw [h2]; simp [List.isPrefixOf]
    have hd : x.drop 1 = s := by rw [h2]; rfl
    have key : ∀ c : UInt8, witB x qo = c :: s → compL (c :: s) = true → (∀ y, qo = some y → c :: s ≠ y) → compL (witB x qo) = true ∧ partM x (witB x qo) = true ∧ ∀ y, partB y = true → qo = some y → partM y (witB x qo) = true → inB x y = true := by
      intro c hw hc hne
      rw [hw]
      refine ⟨hc, ?_, fun y py hq hm => ?_⟩
      · rw [partM_iff]
        exact .inr ⟨s, h1, by simp, suffix_iff.2 ⟨[c], rfl⟩⟩
      · rw [partM_iff] at hm
        rcases hm with ⟨_, hm⟩ | ⟨t, ht, hl, hsf⟩
        · exact absurd hm (hne y hq)
        · unfold inB
          rw [ht, h1]
          dsimp only
          rw [List.isSuffixOf_iff_suffix] at hsf ⊢
          rcases List.suffix_cons_iff.1 hsf with h | h
          · rw [h] at hl
            simp at hl
          · exact h
    by_cases hq : qo = some (81 :: s)
    · refine key 82 (by unfold witB; rw [if_pos hp, hd, if_pos hq]) (by rw [comp_r]; exact h3) ?_
      intro y hy e
      rw [hq] at hy
      injection hy with hy
      rw [← hy] at e
      injection e with e _
      exact absurd e (by decide)
    · refine key 81 (by unfold witB; rw [if_pos hp, hd, if_neg hq]) (by rw [comp_q]; exact h3) ?_
      intro y hy e
      rw [← e] at hy
      exact hq hy
theorem wit_star : partB [42] = true := by decide
theorem wit_path {ps qs : List Bs} {b : Bool} (hp : checkI ps b = 0) (n : Nat) (hn : decide (0 < n) = b) : pathL (textL (witL ps qs (ps.length + n))) = some (witL ps qs (ps.length + n)) ∧ hitW ps b (witL ps qs (ps.length + n)) := by
  have hc := check_ok hp
  have hpart : ∀ i, partB (ps.getD i [42]) = true := by
    intro i
    rw [List.getD_eq_getElem?_getD]
    by_cases hi : i < ps.length
    · rw [List.getElem?_eq_getElem hi]
      exact hc.2.2.1 _ (List.getElem_mem hi)
    · rw [List.getElem?_eq_none (by omega)]
      exact wit_star
  have h2 : 2 ≤ ps.length + n := by
    have hs := hc.1
    cases ps with
    | nil => exact absurd rfl hc.2.2.2
    | cons a r =>
      cases r with
      | nil =>
        simp only [shapeB, List.isEmpty_nil, Bool.not_true, Bool.or_false, Bool.and_eq_true] at hs
        rw [hs.1, decide_eq_true_eq] at hn
        simp only [List.length_cons, List.length_nil]
        omega
      | cons => simp only [List.length_cons]; omega
  refine ⟨text_path ?_ (by rw [witL_len]; exact h2), by rw [witL_len]; omega, ?_, ?_⟩
  · rw [List.all_eq_true]
    intro x hx
    obtain ⟨j, hj, rfl⟩ := List.mem_iff_getElem.1 hx
    rw [witL_get]
    exact (witB_part (hpart j) _).1
  · rw [witL_len, ← hn]
    exact decide_eq_decide.2 (by omega)
  · intro i h h'
    rw [witL_get]
    have := (witB_part (hpart i) (qs[i]?)).2.1
    rw [List.getD_eq_getElem?_getD, List.getElem?_eq_getElem h] at this
    unfold witAt
    rw [List.getD_eq_getElem?_getD, List.getElem?_eq_getElem h]
    exact this
theorem wit_in {ps qs : List Bs} {b b' : Bool} (hp : checkI ps b = 0) (hq : checkI qs b' = 0) (h : ∀ n, (if b = true then 1 else 0) ≤ n → n ≤ (if b = true then 13 else 0) → hitW qs b' (witL ps qs (ps.length + n))) : inP ps b qs b' = true := by
  have hcp := check_ok hp
  have hcq := check_ok hq
  have parts : ∀ n, hitW qs b' (witL ps qs (ps.length + n)) → qs.length ≤ ps.length → ∀ i (h : i < qs.length) (h' : i < ps.length), inB ps[i] qs[i] = true := by
    intro n hh hl i h1 h2
    have h3 := hh.2.2 i h1 (by rw [witL_len]; omega)
    rw [witL_get] at h3
    have h4 := (witB_part (hcp.2.2.1 _ (List.getElem_mem h2)) (qs[i]?)).2.2 qs[i] (hcq.2.2.1 _ (List.getElem_mem h1)) (List.getElem?_eq_getElem h1)
    unfold witAt at h3
    rw [List.getD_eq_getElem?_getD, List.getElem?_eq_getElem h2] at h3
    exact h4 h3
  rw [inP_iff]
  cases b with
  | false =>
    have h0 := h 0 (by simp) (by simp)
    have h1 := h0.1
    have h2 := h0.2.1
    rw [witL_len] at h1 h2
    refine ⟨hp, hq, by omega, fun hlt => ?_, fun he => ?_, parts 0 h0 (by omega)⟩
    · rw [← h2, decide_eq_true_eq]
      omega
    · rw [← h2]
      symm
      rw [decide_eq_false_iff_not]
      omega
  | true =>
    have h1 := h 1 (by simp) (by simp)
    have h13 := h 13 (by simp) (by simp)
    have e1 := h1.2.1
    have e13 := h13.2.1
    rw [witL_len] at e1 e13
    have hb : b' = true := by
      rw [← e13, decide_eq_true_eq]
      have := hcq.2.1
      have := hcp.2.2.2
      cases ps with
      | nil => exact absurd rfl this
      | cons => simp only [List.length_cons]; omega
    rw [hb, decide_eq_true_eq] at e1
    exact ⟨hp, hq, by omega, fun _ => hb, fun _ => hb.symm, parts 1 h1 (by omega)⟩
end Go.Proofs.YthclkdplihchjaaDoor.P

/-
  Layer 3: what two parts, and two patterns, say together; what lies within what. Plain lists; no printed function.
-/
import Derived.Test.YthclkdplihchjaaDoorPatB
namespace Go.Proofs.YthclkdplihchjaaDoor.P
open Go.RowKit Go.Proofs.YthclkdplihchjaaDoorW.PrintWords Go.Proofs.YthclkdplihchjaaDoor.Args
set_option linter.unusedVariables false
set_option linter.unusedSimpArgs false

/-! ### two parts -/
/-- The part that says what both parts say. -/
def narR (a b : Bs) : Option Bs := match starL a, starL b with
  | none, none => if a = b then some a else none
  | none, some t => if (capR a t).isSome = true then some a else none
  | some s, none => if (capR b s).isSome = true then some b else none
  | some s, some t => if t.isSuffixOf s = true then some a else if s.isSuffixOf t = true then some b else none
/-- What a component says to a part. -/
def partM (p w : Bs) : Bool := match starL p with
  | none => decide (w = p)
  | some s => (capR w s).isSome
theorem part_cases {x : Bs} (h : partB x = true) : (starL x = none ∧ compL x = true) ∨ ∃ s, starL x = some s ∧ x = 42 :: s ∧ s.all okU = true := by
  unfold partB at h
  cases hs : starL x with
  | none =>
    rw [hs] at h
    exact .inl ⟨rfl, by simpa using h⟩
  | some s =>
    refine .inr ⟨s, rfl, star_some hs, ?_⟩
    cases x with
    | nil => cases hs
    | cons c r =>
      unfold starL at hs
      dsimp only at hs
      split at hs
      · rename_i hh
        injection hs with hs
        rw [← hs]
        exact hh.2
      · cases hs
theorem suffix_iff {s t : Bs} : s.isSuffixOf t = true ↔ ∃ u, t = u ++ s := by
  rw [List.isSuffixOf_iff_suffix]
  exact ⟨fun ⟨u, h⟩ => ⟨u, h.symm⟩, fun ⟨u, h⟩ => ⟨u, h.symm⟩⟩
theorem suffix_total {s t w : Bs} (h1 : s.isSuffixOf w = true) (h2 : t.isSuffixOf w = true) : s.isSuffixOf t = true ∨ t.isSuffixOf s = true := by
  rw [List.isSuffixOf_iff_suffix] at h1 h2
  rw [List.isSuffixOf_iff_suffix, List.isSuffixOf_iff_suffix]
  exact List.suffix_or_suffix_of_suffix h1 h2
theorem suffix_trans {s t w : Bs} (h1 : s.isSuffixOf t = true) (h2 : t.isSuffixOf w = true) : s.isSuffixOf w = true := by
  rw [List.isSuffixOf_iff_suffix] at *
  exact h1.trans h2
theorem suffix_len {s t : Bs} (h : s.isSuffixOf t = true) : s.length ≤ t.length := (List.isSuffixOf_iff_suffix.1 h).length_le
theorem suffix_antisymm {s t : Bs} (h1 : s.isSuffixOf t = true) (h2 : t.isSuffixOf s = true) : s = t :=
  (List.isSuffixOf_iff_suffix.1 h1).eq_of_length (Nat.le_antisymm (suffix_len h1) (suffix_len h2))
theorem cap_iff {w s : Bs} : (capR w s).isSome = true ↔ s.length < w.length ∧ s.isSuffixOf w = true := by
  unfold capR
  by_cases h : s.length < w.length ∧ s.isSuffixOf w = true
  · rw [if_pos h]
    simp [h]
  · rw [if_neg h]
    simpa using h
theorem partM_iff {p w : Bs} : partM p w = true ↔ (starL p = none ∧ w = p) ∨ ∃ s, starL p = some s ∧ s.length < w.length ∧ s.isSuffixOf w = true := by
  unfold partM
  cases h : starL p with
  | none => simp
  | some s => simp [cap_iff]
theorem star_inj {a b s : Bs} (ha : starL a = some s) (hb : starL b = some s) : a = b := (star_some ha).trans (star_some hb).symm
theorem narR_comm (a b : Bs) : narR a b = narR b a := by
  unfold narR
  cases ha : starL a with
  | none =>
    cases hb : starL b with
    | none =>
      by_cases h : a = b
      · simp [h]
      · have h' : ¬ b = a := fun e => h e.symm
        simp [h, h']
    | some t => rfl
  | some s =>
    cases hb : starL b with
    | none => rfl
    | some t =>
      by_cases h1 : t.isSuffixOf s = true
      · by_cases h2 : s.isSuffixOf t = true
        · have e := suffix_antisymm h2 h1
          subst e
          simp [star_inj ha hb]
        · simp [h1, h2]
      · by_cases h2 : s.isSuffixOf t = true
        · simp [h1, h2]
        · simp [h1, h2]
theorem narR_or {a b c : Bs} (h : narR a b = some c) : c = a ∨ c = b := by
  unfold narR at h
  cases ha : starL a <;> cases hb : starL b <;> rw [ha, hb] at h <;> dsimp only at h
  · split at h
    · injection h with h; exact .inl h.symm
    · cases h
  · split at h
    · injection h with h; exact .inl h.symm
    · cases h
  · split at h
    · injection h with h; exact .inr h.symm
    · cases h
  · split at h
    · injection h with h; exact .inl h.symm
    · split at h
      · injection h with h; exact .inr h.symm
      · cases h
theorem narR_some {a b c : Bs} (h : narR a b = some c) (w : Bs) : partM c w = true ↔ partM a w = true ∧ partM b w = true := by
  unfold narR at h
  rw [partM_iff, partM_iff, partM_iff]
  cases ha : starL a with
  | none =>
    cases hb : starL b with
    | none =>
      rw [ha, hb] at h
      dsimp only at h
      split at h
      · rename_i e
        injection h with h
        subst h
        subst e
        simp [ha]
      · cases h
    | some t =>
      rw [ha, hb] at h
      dsimp only at h
      split at h
      · rename_i e
        rw [cap_iff] at e
        injection h with h
        subst h
        simp only [ha, true_and, reduceCtorEq, false_and, exists_false, or_false, Option.some.injEq, exists_eq_left', false_or]
        exact ⟨fun h => ⟨h, h ▸ e⟩, fun h => h.1⟩
      · cases h
  | some s =>
    cases hb : starL b with
    | none =>
      rw [ha, hb] at h
      dsimp only at h
      split at h
      · rename_i e
        rw [cap_iff] at e
        injection h with h
        subst h
        simp only [hb, true_and, reduceCtorEq, false_and, exists_false, or_false, Option.some.injEq, exists_eq_left', false_or]
        exact ⟨fun h => ⟨h ▸ e, h⟩, fun h => h.2⟩
      · cases h
    | some t =>
      rw [ha, hb] at h
      dsimp only at h
      split at h
      · rename_i e
        injection h with h
        subst h
        simp only [ha, true_and, reduceCtorEq, false_and, exists_false, or_false, Option.some.injEq, exists_eq_left', false_or]
        exact ⟨fun h => ⟨h, by have := suffix_len e; omega, suffix_trans e h.2⟩, fun h => h.1⟩
      · split at h
        · rename_i e
          injection h with h
          subst h
          simp only [hb, true_and, reduceCtorEq, false_and, exists_false, or_false, Option.some.injEq, exists_eq_left', false_or]
          exact ⟨fun h => ⟨⟨by have := suffix_len e; omega, suffix_trans e h.2⟩, h⟩, fun h => h.2⟩
        · cases h
theorem narR_none {a b : Bs} (h : narR a b = none) (w : Bs) : ¬ (partM a w = true ∧ partM b w = true) := by
  unfold narR at h
  rw [partM_iff, partM_iff]
  cases ha : starL a with
  | none =>
    cases hb : starL b with
    | none =>
      rw [ha, hb] at h
      dsimp only at h
      split at h
      · cases h
      · rename_i e
        simp only [true_and, reduceCtorEq, false_and, exists_false, or_false]
        exact fun h => e (h.1.symm.trans h.2)
    | some t =>
      rw [ha, hb] at h
      dsimp only at h
      split at h
      · cases h
      · rename_i e
        rw [cap_iff] at e
        simp only [true_and, reduceCtorEq, false_and, exists_false, or_false, Option.some.injEq, exists_eq_left', false_or]
        exact fun h => e (h.1 ▸ h.2)
  | some s =>
    cases hb : starL b with
    | none =>
      rw [ha, hb] at h
      dsimp only at h
      split at h
      · cases h
      · rename_i e
        rw [cap_iff] at e
        simp only [true_and, reduceCtorEq, false_and, exists_false, or_false, Option.some.injEq, exists_eq_left', false_or]
        exact fun h => e (h.2 ▸ h.1)
    | some t =>
      rw [ha, hb] at h
      dsimp only at h
      split at h
      · cases h
      · rename_i e1
        split at h
        · cases h
        · rename_i e2
          simp only [reduceCtorEq, false_and, Option.some.injEq, exists_eq_left', false_or]
          rintro ⟨h1, h2⟩
          rcases suffix_total h1.2 h2.2 with h | h
          · exact e2 h
          · exact e1 h
theorem narR_part {a b c : Bs} (ha : partB a = true) (hb : partB b = true) (h : narR a b = some c) : partB c = true := by
  rcases narR_or h with rfl | rfl
  · exact ha
  · exact hb
/-- Whether all that x says y says, too. -/
def inB (x y : Bs) : Bool := match starL y with
  | none => decide (x = y)
  | some t => match starL x with
    | some s => t.isSuffixOf s
    | none => (capR x t).isSome
theorem inB_iff {x y : Bs} : inB x y = true ↔ narR x y = some x := by
  unfold inB narR
  cases hy : starL y with
  | none =>
    cases hx : starL x with
    | none =>
      by_cases h : x = y
      · simp [h]
      · simp [h]
    | some s =>
      dsimp only
      rw [decide_eq_true_eq]
      constructor
      · rintro rfl
        rw [hy] at hx
        cases hx
      · intro h
        split at h
        · injection h with h
          exact h.symm
        · cases h
  | some t =>
    cases hx : starL x with
    | none =>
      by_cases h : (capR x t).isSome = true
      · simp [h]
      · simp [h]
    | some s =>
      dsimp only
      by_cases h1 : t.isSuffixOf s = true
      · simp [h1]
      · by_cases h2 : s.isSuffixOf t = true
        · simp only [h1, h2, if_true, if_false, Bool.false_eq_true, false_iff]
          intro e
          injection e with e
          subst e
          rw [hx] at hy
          injection hy with hy
          rw [hy] at h1
          exact h1 (suffix_iff.2 ⟨[], rfl⟩)
        · simp [h1, h2]
theorem narR_in (a b : Bs) : narR a b = if inB a b = true then some a else if inB b a = true then some b else none := by
  by_cases h1 : inB a b = true
  · rw [if_pos h1]
    exact inB_iff.1 h1
  · rw [if_neg h1]
    by_cases h2 : inB b a = true
    · rw [if_pos h2, narR_comm]
      exact inB_iff.1 h2
    · rw [if_neg h2]
      cases h : narR a b with
      | none => rfl
      | some c =>
        rcases narR_or h with rfl | rfl
        · exact absurd (inB_iff.2 h) h1
        · rw [narR_comm] at h
          exact absurd (inB_iff.2 h) h2

/-! ### two patterns -/
/-- The parts of the intersection, the first pattern the shorter one. -/
def meetL : List Bs → List Bs → Option (List Bs)
  | [], qs => some qs
  | _ :: _, [] => none
  | a :: ps, b :: qs => match narR a b with
    | none => none
    | some c => (meetL ps qs).map (c :: ·)
def meet1 (ps : List Bs) (b : Bool) (qs : List Bs) (b' : Bool) : Option (List Bs × Bool) :=
  if ps.length < qs.length ∧ b = false ∨ ps.length = qs.length ∧ b ≠ b' then none else (meetL ps qs).map fun o => (o, b')
/-- The intersection of two patterns. -/
def meetP (ps : List Bs) (b : Bool) (qs : List Bs) (b' : Bool) : Option (List Bs × Bool) :=
  if checkI ps b = 0 ∧ checkI qs b' = 0 then (if qs.length < ps.length then meet1 qs b' ps b else meet1 ps b qs b') else none
theorem meetL_length : ∀ (ps qs : List Bs) {o : List Bs}, meetL ps qs = some o → o.length = qs.length ∧ ps.length ≤ qs.length
  | [], qs, o, h => by
    injection h with h
    rw [← h]
    simp
  | _ :: _, [], o, h => by cases h
  | a :: ps, b :: qs, o, h => by
    simp only [meetL] at h
    cases hc : narR a b with
    | none => rw [hc] at h; cases h
    | some c =>
      rw [hc] at h
      dsimp only at h
      obtain ⟨o', h1, rfl⟩ := Option.map_eq_some_iff.1 h
      have := meetL_length ps qs h1
      simp only [List.length_cons]
      omega
theorem meetL_comm : ∀ (ps qs : List Bs), ps.length = qs.length → meetL ps qs = meetL qs ps
  | [], [], _ => rfl
  | [], _ :: _, h => by simp at h
  | _ :: _, [], h => by simp at h
  | a :: ps, b :: qs, h => by
    simp only [List.length_cons, Nat.add_right_cancel_iff] at h
    simp only [meetL]
    rw [narR_comm b a, meetL_comm ps qs h]
theorem meet1_comm {ps qs : List Bs} {b b' : Bool} (h : ps.length = qs.length) : meet1 ps b qs b' = meet1 qs b' ps b := by
  unfold meet1
  have n1 : ¬ ps.length < qs.length := by omega
  have n2 : ¬ qs.length < ps.length := by omega
  by_cases hb : b = b'
  · subst hb
    simp only [n1, n2, h, false_and, ne_eq, not_true, and_false, or_false, if_false]
    rw [meetL_comm ps qs h]
  · have hb' : ¬ b' = b := fun e => hb e.symm
    simp [n1, n2, h, hb, hb']
theorem meetP_comm (ps : List Bs) (b : Bool) (qs : List Bs) (b' : Bool) : meetP ps b qs b' = meetP qs b' ps b := by
  unfold meetP
  by_cases hc : checkI ps b = 0 ∧ checkI qs b' = 0
  · simp only [hc.1, hc.2, and_self, if_true]
    by_cases h1 : qs.length < ps.length
    · rw [if_pos h1, if_neg (show ¬ ps.length < qs.length by omega)]
    · by_cases h2 : ps.length < qs.length
      · rw [if_neg h1, if_pos h2]
      · rw [if_neg h1, if_neg h2]
        exact meet1_comm (by omega)
  · rw [if_neg hc, if_neg (fun h => hc ⟨h.2, h.1⟩)]
theorem meetL_part : ∀ (ps qs : List Bs) {o : List Bs}, meetL ps qs = some o → (∀ x ∈ ps, partB x = true) → (∀ x ∈ qs, partB x = true) → ∀ x ∈ o, partB x = true
  | [], qs, o, h, _, hq => by
    injection h with h
    rw [← h]
    exact hq
  | _ :: _, [], o, h, _, _ => by cases h
  | a :: ps, b :: qs, o, h, hp, hq => by
    simp only [meetL] at h
    cases hc : narR a b with
    | none => rw [hc] at h; cases h
    | some c =>
      rw [hc] at h
      dsimp only at h
      obtain ⟨o', h1, rfl⟩ := Option.map_eq_some_iff.1 h
      have ih := meetL_part ps qs h1 (fun x hx => hp x (List.mem_cons_of_mem _ hx)) (fun x hx => hq x (List.mem_cons_of_mem _ hx))
      intro x hx
      rcases List.mem_cons.1 hx with rfl | hx
      · exact narR_part (hp a (by simp)) (hq b (by simp)) hc
      · exact ih x hx
theorem meetL_mem : ∀ (ps qs : List Bs) {o : List Bs}, meetL ps qs = some o → ∀ x ∈ o, x ∈ ps ∨ x ∈ qs
  | [], qs, o, h => by
    injection h with h
    rw [← h]
    exact fun x hx => .inr hx
  | _ :: _, [], o, h => by cases h
  | a :: ps, b :: qs, o, h => by
    simp only [meetL] at h
    cases hc : narR a b with
    | none => rw [hc] at h; cases h
    | some c =>
      rw [hc] at h
      dsimp only at h
      obtain ⟨o', h1, rfl⟩ := Option.map_eq_some_iff.1 h
      have ih := meetL_mem ps qs h1
      intro x hx
      rcases List.mem_cons.1 hx with rfl | hx
      · rcases narR_or hc with rfl | rfl
        · exact .inl (by simp)
        · exact .inr (by simp)
      · rcases ih x hx with h | h
        · exact .inl (List.mem_cons_of_mem _ h)
        · exact .inr (List.mem_cons_of_mem _ h)
theorem meetP_mem {ps qs o : List Bs} {b b' r : Bool} (h : meetP ps b qs b' = some (o, r)) : (∀ x ∈ o, x ∈ ps ∨ x ∈ qs) ∧ (o.length = ps.length ∨ o.length = qs.length) := by
  unfold meetP at h
  split at h
  · split at h
    · unfold meet1 at h
      split at h
      · cases h
      · obtain ⟨o', h1, h2⟩ := Option.map_eq_some_iff.1 h
        injection h2 with h2 _
        subst h2
        exact ⟨fun x hx => (meetL_mem _ _ h1 x hx).symm, .inl (meetL_length _ _ h1).1⟩
    · unfold meet1 at h
      split at h
      · cases h
      · obtain ⟨o', h1, h2⟩ := Option.map_eq_some_iff.1 h
        injection h2 with h2 _
        subst h2
        exact ⟨fun x hx => meetL_mem _ _ h1 x hx, .inr (meetL_length _ _ h1).1⟩
  · cases h
/-- The first part of an intersection is a component. -/
theorem meetL_check {ps qs o : List Bs} {b b' : Bool} (h : meetL ps qs = some o) (hp : checkI ps b = 0) (hq : checkI qs b' = 0) : checkI o b' = 0 := by
  have hp' := check_ok hp
  have hq' := check_ok hq
  have hl := meetL_length _ _ h
  have ho := meetL_part _ _ h hp'.2.2.1 hq'.2.2.1
  have hs : shapeB o b' = true := by
    cases ps with
    | nil => exact absurd rfl hp'.2.2.2
    | cons a ps =>
      cases qs with
      | nil => exact absurd rfl hq'.2.2.2
      | cons c qs =>
        have h2 := hq'.1
        simp only [meetL] at h
        cases hc : narR a c with
        | none => rw [hc] at h; cases h
        | some x =>
          rw [hc] at h
          dsimp only at h
          obtain ⟨o', h3, rfl⟩ := Option.map_eq_some_iff.1 h
          have h4 := hp'.1
          have hl2 := meetL_length _ _ h3
          simp only [shapeB, Bool.and_eq_true, Bool.or_eq_true, List.all_eq_true] at h2 h4 ⊢
          refine ⟨?_, ?_, fun y hy => ho y (List.mem_cons_of_mem _ hy)⟩
          · rcases h2.1 with h | h
            · exact .inl h
            · refine .inr ?_
              cases qs with
              | nil => simp at h
              | cons => cases o' with
                | nil => simp at hl2
                | cons => rfl
          · rcases narR_or hc with rfl | rfl
            · exact h4.2.1
            · exact h2.2.1
  unfold checkI
  rw [if_pos hs, if_neg (by have := hq'.2.1; omega)]
theorem meetP_check {ps qs o : List Bs} {b b' r : Bool} (h : meetP ps b qs b' = some (o, r)) : checkI o r = 0 ∧ checkI ps b = 0 ∧ checkI qs b' = 0 := by
  unfold meetP at h
  split at h
  · rename_i hc
    refine ⟨?_, hc⟩
    split at h
    · unfold meet1 at h
      split at h
      · cases h
      · obtain ⟨o', h1, h2⟩ := Option.map_eq_some_iff.1 h
        injection h2 with h2 h3
        subst h2
        subst h3
        exact meetL_check h1 hc.2 hc.1
    · unfold meet1 at h
      split at h
      · cases h
      · obtain ⟨o', h1, h2⟩ := Option.map_eq_some_iff.1 h
        injection h2 with h2 h3
        subst h2
        subst h3
        exact meetL_check h1 hc.1 hc.2
  · cases h

/-! ### which paths -/
theorem matchL_some : ∀ (ps ws : List Bs), (matchL ps ws).isSome = true ↔ ps.length ≤ ws.length ∧ ∀ i (h : i < ps.length) (h' : i < ws.length), partM ps[i] ws[i] = true
  | [], ws => by simp [matchL]
  | _ :: _, [] => by simp [matchL]
  | p :: ps, w :: ws => by
    have ih := matchL_some ps ws
    have hstep : (matchL (p :: ps) (w :: ws)).isSome = true ↔ partM p w = true ∧ (matchL ps ws).isSome = true := by
      simp only [matchL, partM]
      cases hs : starL p with
      | none =>
        dsimp only
        by_cases h : w = p
        · simp [h]
        · simp [h]
      | some s =>
        dsimp only
        cases hc : capR w s with
        | none => simp
        | some x => simp
    rw [hstep, ih]
    simp only [List.length_cons]
    constructor
    · rintro ⟨h1, h2, h3⟩
      refine ⟨by omega, fun i h h' => ?_⟩
      cases i with
      | zero => exact h1
      | succ i => exact h3 i (by omega) (by omega)
    · rintro ⟨h1, h2⟩
      exact ⟨h2 0 (by omega) (by omega), by omega, fun i h h' => h2 (i + 1) (by omega) (by omega)⟩
/-- Whether a path of these components matches. -/
def hitW (ps : List Bs) (b : Bool) (ws : List Bs) : Prop := ps.length ≤ ws.length ∧ decide (ps.length < ws.length) = b ∧ ∀ i (h : i < ps.length) (h' : i < ws.length), partM ps[i] ws[i] = true
theorem matchW_some {ps : List Bs} {b : Bool} {ws : List Bs} : (matchW ps b ws).isSome = true ↔ checkI ps b = 0 ∧ hitW ps b ws := by
  unfold matchW hitW
  by_cases h : checkI ps b = 0 ∧ ps.length ≤ ws.length ∧ decide (ps.length < ws.length) = b
  · rw [if_pos h, Option.isSome_map, matchL_some]
    exact ⟨fun h2 => ⟨h.1, h.2.1, h.2.2, h2.2⟩, fun h2 => ⟨h.2.1, h2.2.2.2⟩⟩
  · rw [if_neg h]
    simp only [Option.isSome_none, Bool.false_eq_true, false_iff]
    exact fun h2 => h ⟨h2.1, h2.2.1, h2.2.2.1⟩
theorem meetL_hit : ∀ (ps qs : List Bs), (∀ ws : List Bs, qs.length ≤ ws.length → ((∀ i (h : i < ps.length) (h' : i < ws.length), partM ps[i] ws[i] = true) ∧ (∀ i (h : i < qs.length) (h' : i < ws.length), partM qs[i] ws[i] = true) ↔
    ∃ o, meetL ps qs = some o ∧ ∀ i (h : i < o.length) (h' : i < ws.length), partM o[i] ws[i] = true)) ∨ qs.length < ps.length
  | [], qs => .inl fun ws _ => by simp [meetL]
  | _ :: _, [] => .inr (by simp)
  | a :: ps, b :: qs => by
    rcases meetL_hit ps qs with ih | ih
    · refine .inl fun ws hl => ?_
      cases ws with
      | nil => simp at hl
      | cons w ws =>
        simp only [List.length_cons] at hl
        have ih := ih ws (by omega)
        have split : ∀ (x : Bs) (xs : List Bs), (∀ i (h : i < (x :: xs).length) (h' : i < (w :: ws).length), partM (x :: xs)[i] (w :: ws)[i] = true) ↔ partM x w = true ∧ ∀ i (h : i < xs.length) (h' : i < ws.length), partM xs[i] ws[i] = true := by
          intro x xs
          constructor
          · intro h
            exact ⟨h 0 (by simp) (by simp), fun i h1 h2 => h (i + 1) (by simp; omega) (by simp; omega)⟩
          · rintro ⟨h1, h2⟩ i h3 h4
            cases i with
            | zero => exact h1
            | succ i => exact h2 i (by simpa using h3) (by simpa using h4)
        rw [split, split]
        simp only [meetL]
        cases hc : narR a b with
        | none =>
          dsimp only
          constructor
          · rintro ⟨⟨h1, _⟩, h2, _⟩
            exact absurd ⟨h1, h2⟩ (narR_none hc w)
          · rintro ⟨o, h, _⟩
            cases h
        | some c =>
          dsimp only
          constructor
          · rintro ⟨⟨h1, h2⟩, h3, h4⟩
            obtain ⟨o, ho, h5⟩ := ih.1 ⟨h2, h4⟩
            exact ⟨c :: o, by rw [ho]; rfl, (split c o).2 ⟨(narR_some hc w).2 ⟨h1, h3⟩, h5⟩⟩
          · rintro ⟨o, ho, h5⟩
            obtain ⟨o', h6, rfl⟩ := Option.map_eq_some_iff.1 ho
            have h7 := (split c o').1 h5
            have h8 := ih.2 ⟨o', h6, h7.2⟩
            have h9 := (narR_some hc w).1 h7.1
            exact ⟨⟨h9.1, h8.1⟩, h9.2, h8.2⟩
    · exact .inr (by simp only [List.length_cons]; omega)
theorem meet1_hit {ps qs : List Bs} {b b' : Bool} (hl : ps.length ≤ qs.length) (ws : List Bs) : (hitW ps b ws ∧ hitW qs b' ws) ↔ ∃ o r, meet1 ps b qs b' = some (o, r) ∧ hitW o r ws := by
  unfold meet1
  have hh := (meetL_hit ps qs).resolve_right (by omega)
  constructor
  · rintro ⟨⟨h1, h2, h3⟩, h4, h5, h6⟩
    have hn : ¬ (ps.length < qs.length ∧ b = false ∨ ps.length = qs.length ∧ b ≠ b') := by
      rintro (⟨h7, h8⟩ | ⟨h7, h8⟩)
      · rw [h8, decide_eq_false_iff_not] at h2
        omega
      · rw [h7, h5] at h2
        exact h8 h2.symm
    obtain ⟨o, ho, h7⟩ := (hh ws h4).1 ⟨h3, h6⟩
    have hlo := (meetL_length _ _ ho).1
    refine ⟨o, b', by rw [if_neg hn, ho]; rfl, by omega, by rw [hlo]; exact h5, h7⟩
  · rintro ⟨o, r, h, h1, h2, h3⟩
    split at h
    · cases h
    · rename_i hn
      obtain ⟨o', ho, h4⟩ := Option.map_eq_some_iff.1 h
      injection h4 with h4 h5
      subst h4
      subst h5
      have hlo := (meetL_length _ _ ho).1
      have h7 := (hh ws (by omega)).2 ⟨o', ho, h3⟩
      refine ⟨⟨by omega, ?_, h7.1⟩, by omega, by rw [← hlo]; exact h2, h7.2⟩
      rw [hlo] at h2 h1
      by_cases hlt : ps.length < qs.length
      · have hb : b = true := by
          cases b with
          | true => rfl
          | false => exact absurd (.inl ⟨hlt, rfl⟩) hn
        rw [hb, decide_eq_true_eq]
        omega
      · have he : ps.length = qs.length := by omega
        have hb : b = b' := by
          by_cases hb : b = b'
          · exact hb
          · exact absurd (.inr ⟨he, hb⟩) hn
        rw [he, hb]
        exact h2
theorem meetP_hit {ps qs : List Bs} {b b' : Bool} (hp : checkI ps b = 0) (hq : checkI qs b' = 0) (ws : List Bs) : (hitW ps b ws ∧ hitW qs b' ws) ↔ ∃ o r, meetP ps b qs b' = some (o, r) ∧ hitW o r ws := by
  unfold meetP
  rw [if_pos ⟨hp, hq⟩]
  by_cases hlt : qs.length < ps.length
  · rw [if_pos hlt, ← meet1_hit (by omega) ws]
    exact And.comm
  · rw [if_neg hlt, ← meet1_hit (by omega) ws]
theorem matchP_some {ps : List Bs} {b : Bool} {l : Bs} : (matchP ps b l).isSome = true ↔ ∃ ws, pathL l = some ws ∧ checkI ps b = 0 ∧ hitW ps b ws := by
  unfold matchP
  cases h : pathL l with
  | none => simp
  | some ws =>
    rw [Option.bind_some, matchW_some]
    exact ⟨fun h => ⟨ws, rfl, h⟩, fun ⟨_, h, h2⟩ => by injection h with h; rw [h]; exact h2⟩
/-- A path matches the intersection exactly if it matches both. -/
theorem meetP_match {ps qs : List Bs} {b b' : Bool} (l : Bs) : ((matchP ps b l).isSome && (matchP qs b' l).isSome) = ((meetP ps b qs b').any fun m => (matchP m.1 m.2 l).isSome) := by
  rw [Bool.eq_iff_iff, Bool.and_eq_true, matchP_some, matchP_some, Option.any_eq_true]
  constructor
  · rintro ⟨⟨ws, h1, h2, h3⟩, ws', h4, h5, h6⟩
    rw [h1] at h4
    injection h4 with h4
    subst h4
    obtain ⟨o, r, h7, h8⟩ := (meetP_hit h2 h5 ws).1 ⟨h3, h6⟩
    exact ⟨(o, r), h7, matchP_some.2 ⟨ws, h1, (meetP_check h7).1, h8⟩⟩
  · rintro ⟨⟨o, r⟩, h1, h2⟩
    obtain ⟨ws, h3, h4, h5⟩ := matchP_some.1 h2
    have hc := meetP_check h1
    have h6 := (meetP_hit hc.2.1 hc.2.2 ws).2 ⟨o, r, h1, h5⟩
    exact ⟨⟨ws, h3, hc.2.1, h6.1⟩, ws, h3, hc.2.2, h6.2⟩

/-! ### within -/
/-- Whether all paths of the first pattern are paths of the second one. -/
def inP (ps : List Bs) (b : Bool) (qs : List Bs) (b' : Bool) : Bool := decide (meetP ps b qs b' = some (ps, b))
theorem meetL_in : ∀ (qs ps : List Bs), qs.length ≤ ps.length → (meetL qs ps = some ps ↔ ∀ i (h : i < qs.length) (h' : i < ps.length), inB ps[i] qs[i] = true)
  | [], ps, _ => by simp [meetL]
  | _ :: _, [], h => by simp at h
  | a :: qs, c :: ps, h => by
    simp only [List.length_cons, Nat.add_le_add_iff_right] at h
    have ih := meetL_in qs ps h
    have split : (∀ i (h : i < (a :: qs).length) (h' : i < (c :: ps).length), inB (c :: ps)[i] (a :: qs)[i] = true) ↔ inB c a = true ∧ ∀ i (h : i < qs.length) (h' : i < ps.length), inB ps[i] qs[i] = true := by
      constructor
      · intro h
        exact ⟨h 0 (by simp) (by simp), fun i h1 h2 => h (i + 1) (by simp; omega) (by simp; omega)⟩
      · rintro ⟨h1, h2⟩ i h3 h4
        cases i with
        | zero => exact h1
        | succ i => exact h2 i (by simpa using h3) (by simpa using h4)
    rw [split, ← ih, inB_iff, narR_comm]
    simp only [meetL]
    cases hc : narR a c with
    | none => simp
    | some x =>
      dsimp only
      cases hm : meetL qs ps with
      | none => simp
      | some o => simp
theorem inP_iff {ps qs : List Bs} {b b' : Bool} : inP ps b qs b' = true ↔ checkI ps b = 0 ∧ checkI qs b' = 0 ∧ qs.length ≤ ps.length ∧ (qs.length < ps.length → b' = true) ∧ (ps.length = qs.length → b = b') ∧ ∀ i (h : i < qs.length) (h' : i < ps.length), inB ps[i] qs[i] = true := by
  unfold inP
  rw [decide_eq_true_eq]
  constructor
  · intro h
    have hc := meetP_check h
    have hm := h
    unfold meetP at h
    rw [if_pos hc.2] at h
    by_cases hlt : qs.length < ps.length
    · rw [if_pos hlt] at h
      unfold meet1 at h
      split at h
      · cases h
      · rename_i hn
        obtain ⟨o', ho, h4⟩ := Option.map_eq_some_iff.1 h
        injection h4 with h4 h5
        subst h4
        have hb : b' = true := by
          cases b' with
          | true => rfl
          | false => exact absurd (.inl ⟨hlt, rfl⟩) hn
        exact ⟨hc.2.1, hc.2.2, by omega, fun _ => hb, fun e => by omega, (meetL_in _ _ (by omega)).1 ho⟩
    · rw [if_neg hlt] at h
      unfold meet1 at h
      split at h
      · cases h
      · rename_i hn
        obtain ⟨o', ho, h4⟩ := Option.map_eq_some_iff.1 h
        injection h4 with h4 h5
        subst h4
        have hl := meetL_length _ _ ho
        have he : o'.length = qs.length := by omega
        rw [meetL_comm _ _ he] at ho
        exact ⟨hc.2.1, hc.2.2, by omega, fun e => by omega, fun _ => h5.symm, (meetL_in _ _ (by omega)).1 ho⟩
  · rintro ⟨h1, h2, h3, h4, h5, h6⟩
    unfold meetP
    rw [if_pos ⟨h1, h2⟩]
    have ho := (meetL_in _ _ h3).2 h6
    by_cases hlt : qs.length < ps.length
    · rw [if_pos hlt]
      unfold meet1
      rw [if_neg, ho]
      · rfl
      · rintro (⟨_, h⟩ | ⟨h, _⟩)
        · rw [h4 hlt] at h
          cases h
        · omega
    · have he : ps.length = qs.length := by omega
      rw [if_neg hlt, meet1_comm he]
      unfold meet1
      rw [if_neg, ho]
      · rfl
      · rintro (⟨h, _⟩ | ⟨_, h⟩)
        · omega
        · exact h (h5 he).symm
/-- A path of a pattern within another one matches that one. -/
theorem inP_match {ps qs : List Bs} {b b' : Bool} (h : inP ps b qs b' = true) (l : Bs) (hm : (matchP ps b l).isSome = true) : (matchP qs b' l).isSome = true := by
  have e := meetP_match (ps := ps) (b := b) (qs := qs) (b' := b') l
  unfold inP at h
  rw [decide_eq_true_eq] at h
  rw [h, hm] at e
  simp only [Bool.true_and, Option.any_some] at e
  rw [e]
  exact hm
end Go.Proofs.YthclkdplihchjaaDoor.P

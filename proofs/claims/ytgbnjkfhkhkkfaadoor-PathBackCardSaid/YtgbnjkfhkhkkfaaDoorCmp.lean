/-
  Orders of lists, one word behind the other. No project text.
-/
import Derived.Test.YtgbnjkfhkhkkfaaDoorCore
namespace Go.Proofs.YtgbnjkfhkhkkfaaDoor.P
open Go.RowKit Go.Proofs.YtgbnjkfhkhkkfaaDoorW.PrintWords
set_option linter.unusedVariables false
set_option linter.unusedSimpArgs false

structure IsCmp {α : Type} (f : α → α → Int) : Prop where
  anti : ∀ a b, f b a = - f a b
  zero : ∀ a b, f a b = 0 ↔ a = b
  range : ∀ a b, -1 ≤ f a b ∧ f a b ≤ 1
  trans : ∀ a b c, f a b ≤ 0 → f b c ≤ 0 → f a c ≤ 0
theorem IsCmp.strict {α : Type} {f : α → α → Int} (h : IsCmp f) {a b c : α} (h1 : f a b ≤ 0) (h2 : f b c ≤ 0) (h3 : f a c = 0) : f a b = 0 ∧ f b c = 0 := by
  have e := (h.zero a c).1 h3
  subst e
  have := h.anti a b
  omega
def lexF {α : Type} (f : α → α → Int) : List α → List α → Int
  | [], [] => 0
  | [], _ :: _ => -1
  | _ :: _, [] => 1
  | a :: as, b :: bs => if f a b = 0 then lexF f as bs else f a b
theorem lex_cmp {α : Type} {f : α → α → Int} (h : IsCmp f) : IsCmp (lexF f) where
  anti := by
    intro a
    induction a with
    | nil => intro b; cases b <;> simp [lexF]
    | cons x a ih =>
      intro b
      cases b with
      | nil => simp [lexF]
      | cons y b =>
        unfold lexF
        have h1 := h.anti x y
        have h2 := ih b
        by_cases e : f x y = 0
        · have e2 : f y x = 0 := by omega
          simp only [e, e2, if_true]
          exact h2
        · have e2 : ¬ f y x = 0 := by omega
          simp only [e, e2, if_false]
          exact h1
  zero := by
    intro a
    induction a with
    | nil => intro b; cases b <;> simp [lexF]
    | cons x a ih =>
      intro b
      cases b with
      | nil => simp [lexF]
      | cons y b =>
        unfold lexF
        have h1 := h.zero x y
        by_cases e : f x y = 0
        · have e3 := h1.1 e
          rw [if_pos e, ih b, e3]
          simp
        · rw [if_neg e]
          constructor
          · intro z
            exact absurd z e
          · intro z
            injection z with z1 z2
            exact absurd (h1.2 z1) e
  range := by
    intro a
    induction a with
    | nil => intro b; cases b <;> simp [lexF]
    | cons x a ih =>
      intro b
      cases b with
      | nil => simp [lexF]
      | cons y b =>
        unfold lexF
        have h1 := h.range x y
        split
        · exact ih b
        · exact h1
  trans := by
    intro a
    induction a with
    | nil => intro b c; cases b <;> cases c <;> simp [lexF]
    | cons x a ih =>
      intro b c
      cases b with
      | nil => intro h1; simp [lexF] at h1
      | cons y b =>
        cases c with
        | nil => intro _ h2; simp [lexF] at h2
        | cons z c =>
          unfold lexF
          intro h1 h2
          have hr1 := h.range x y
          have hr2 := h.range y z
          by_cases e1 : f x y = 0
          · have e1' := (h.zero x y).1 e1
            subst e1'
            simp only [e1, if_true] at h1
            by_cases e2 : f x z = 0
            · simp only [e2, if_true] at h2 ⊢
              exact ih b c h1 h2
            · simp only [e2, if_false] at h2 ⊢
              exact h2
          · simp only [e1, if_false] at h1
            by_cases e2 : f y z = 0
            · have e2' := (h.zero y z).1 e2
              subst e2'
              simp only [e1, if_false]
              exact h1
            · simp only [e2, if_false] at h2
              have h3 := h.trans x y z h1 h2
              have h4 : ¬ f x z = 0 := fun e => e1 (h.strict h1 h2 e).1
              simp only [h4, if_false]
              exact h3
/-- What stands between two lists with one beginning has it, too. -/
theorem lex_between {α : Type} {f : α → α → Int} (h : IsCmp f) : ∀ {d a b c : List α}, d <+: a → d.length < a.length → d <+: c → lexF f a b ≤ 0 → lexF f b c ≤ 0 → d <+: b ∧ d.length < b.length
  | [], a, b, c, _, hl, _, h1, _ => by
    cases a with
    | nil => simp at hl
    | cons x a =>
      cases b with
      | nil => simp [lexF] at h1
      | cons y b => simp
  | x :: d, a, b, c, ha, hl, hc, h1, h2 => by
    obtain ⟨a', rfl⟩ := ha
    obtain ⟨c', rfl⟩ := hc
    cases b with
    | nil => simp [lexF] at h1
    | cons y b =>
      simp only [List.cons_append, lexF] at h1 h2
      have hxy := h.range x y
      have hyx := h.anti x y
      have e : f x y = 0 := by
        by_cases e : f x y = 0
        · exact e
        · have e2 : ¬ f y x = 0 := by omega
          simp only [e, if_false] at h1
          simp only [e2, if_false] at h2
          omega
      have e2 : f y x = 0 := by omega
      have e3 := (h.zero x y).1 e
      subst e3
      simp only [e, if_true] at h1 h2
      have := lex_between h (d := d) (List.prefix_append d a') (by simp at hl ⊢; omega) (List.prefix_append d c') h1 h2
      refine ⟨?_, by simp; omega⟩
      obtain ⟨b', rfl⟩ := this.1
      exact ⟨b', rfl⟩

/-- Bytes. -/
def cmpU (a b : UInt8) : Int := if a < b then -1 else if b < a then 1 else 0
theorem cmpU_cmp : IsCmp cmpU where
  anti := by
    intro a b
    unfold cmpU
    by_cases h1 : a < b
    · have : ¬ b < a := fun h => UInt8.lt_irrefl a (UInt8.lt_trans h1 h)
      simp [h1, this]
    · by_cases h2 : b < a <;> simp [h1, h2]
  zero := by
    intro a b
    unfold cmpU
    by_cases h1 : a < b
    · simp [h1]
      intro e
      rw [e] at h1
      exact UInt8.lt_irrefl b h1
    · by_cases h2 : b < a
      · simp [h1, h2]
        intro e
        rw [e] at h2
        exact UInt8.lt_irrefl b h2
      · simp [h1, h2]
        exact UInt8.le_antisymm (UInt8.not_lt.1 h2) (UInt8.not_lt.1 h1)
  range := by
    intro a b
    unfold cmpU
    repeat' split
    all_goals omega
  trans := by
    intro a b c
    unfold cmpU
    simp only [UInt8.lt_iff_toNat_lt]
    repeat' split
    all_goals omega
/-- Texts. -/
def cmpS : Bs → Bs → Int := lexF cmpU
theorem cmpS_cmp : IsCmp cmpS := lex_cmp cmpU_cmp
theorem cmpS_cons (x y : UInt8) (a b : Bs) : cmpS (x :: a) (y :: b) = if cmpU x y = 0 then cmpS a b else cmpU x y := rfl
theorem cmpS_eq : ∀ a b : Bs, Lib.compareBytes a b = cmpS a b
  | [], [] => rfl
  | [], _ :: _ => rfl
  | _ :: _, [] => rfl
  | x :: a, y :: b => by
    have ih := cmpS_eq a b
    rw [cmpS_cons, ← ih, show Lib.compareBytes (x :: a) (y :: b) = if x < y then -1 else if y < x then 1 else Lib.compareBytes a b from rfl]
    unfold cmpU
    by_cases h1 : x < y
    · simp [h1]
    · by_cases h2 : y < x
      · simp [h1, h2]
      · simp [h1, h2]
theorem less_eq : ∀ a b : Bs, Op.bytesLess a b = decide (cmpS a b = -1)
  | [], [] => by simp [Op.bytesLess, cmpS, lexF]
  | [], _ :: _ => by simp [Op.bytesLess, cmpS, lexF]
  | _ :: _, [] => by simp [Op.bytesLess, cmpS, lexF]
  | x :: a, y :: b => by
    have ih := less_eq a b
    rw [Op.bytesLess, ih, cmpS_cons]
    unfold cmpU
    by_cases h1 : x < y
    · simp [h1]
    · by_cases h2 : y < x
      · have h3 : ¬ x = y := fun e => by rw [e] at h2; exact UInt8.lt_irrefl y h2
        simp [h1, h2, h3]
      · have h3 : x = y := UInt8.le_antisymm (UInt8.not_lt.1 h2) (UInt8.not_lt.1 h1)
        subst h3
        simp [h1]
/-- Paths, by their components. -/
def cmpP : List Bs → List Bs → Int := lexF cmpS
theorem cmpP_cmp : IsCmp cmpP := lex_cmp cmpS_cmp
end Go.Proofs.YtgbnjkfhkhkkfaaDoor.P

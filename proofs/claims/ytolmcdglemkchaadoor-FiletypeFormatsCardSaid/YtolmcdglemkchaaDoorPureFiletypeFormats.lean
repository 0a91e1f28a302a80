/-
  The pure statement of FiletypeFormats.
-/
import Derived.Test.YtolmcdglemkchaaDoorStFiletypeFormats
import Derived.Test.YtolmcdglemkchaaDoorFty
namespace Go.Proofs.YtolmcdglemkchaaDoor.P
open Go.RowKit Go.Proofs.YtolmcdglemkchaaDoorW.PrintWords Go.Proofs.YtolmcdglemkchaaDoor.Args
set_option linter.unusedVariables false
set_option linter.unusedSimpArgs false
set_option maxRecDepth 100000

theorem Pure.FiletypeFormats : St.FiletypeFormats := by
  rintro ⟨b, k, l, x⟩ hs
  dsimp only
  by_cases hb : b = 1 ∨ b = 2 ∨ b = 3
  · have e : [1, 2, 3].all (fun b : Int => [true, false].all fun k => [true, false].all fun l => [true, false].all fun x => decide (stockyardlaw09_FiletypeFormats.f 40 b k l x = some true)) = true := by kernel_rfl
    have e1 := List.all_eq_true.1 e b (by simpa using hb)
    have e2 := List.all_eq_true.1 e1 k (by cases k <;> simp)
    have e3 := List.all_eq_true.1 e2 l (by cases l <;> simp)
    have e4 := List.all_eq_true.1 e3 x (by cases x <;> simp)
    exact ⟨40, of_decide_eq_true e4⟩
  · have hc : filetype_Check.f b k l x = some 90 := by
      have h1 : ¬ b = 1 := fun h => hb (.inl h)
      have h2 : ¬ b = 2 := fun h => hb (.inr (.inl h))
      have h3 : ¬ b = 3 := fun h => hb (.inr (.inr h))
      unfold filetype_Check.f filetype_name.f nameR
      rw [if_neg h1, if_neg h2, if_neg h3]
      rfl
    have hr : stockyardref09_Check.f b k l x = some 90 := by
      unfold stockyardref09_Check.f
      by_cases h : b < 1
      · rw [if_pos h]
      · rw [if_neg h, if_pos (by omega)]
    have hf : filetype_Format.f b k l x = some (⟨#[]⟩, 90) := by
      unfold filetype_Format.f
      rw [hc]
      rfl
    refine Ev.rounds ?_
    simp only [stockyardlaw09_FiletypeFormats.f, hc, hr, hf, Option.bind_some, if_true]
    refine Ev.succ ?_
    have e0 : ((⟨#[]⟩ : ByteArray).toList = ([] : List UInt8)) := by rw [toList_eq]; rfl
    simp only [stockyardlaw09_FiletypeFormats.j0, e0, if_true, bne_self_eq_false, Bool.false_eq_true, if_false]
    have h90 : ¬ ((90 : Int) = 0) := by decide
    simp only [if_neg h90]
    rw [Ev.bind_some]
    exact awake09
end Go.Proofs.YtolmcdglemkchaaDoor.P

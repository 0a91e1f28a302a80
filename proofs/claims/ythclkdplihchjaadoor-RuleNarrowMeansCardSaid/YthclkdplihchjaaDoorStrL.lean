/-
  Three laws that the walk lacks: '>', '<=', '>=' on strings, in the print's own spelling. No project text.
-/
import Derived.WalkKit
namespace Go.Proofs.YthclkdplihchjaaDoor.P
theorem less_total : ∀ a b : List UInt8, (Op.bytesLess a b || a == b) = !(Op.bytesLess b a)
  | [], [] => by simp [Op.bytesLess]
  | [], _ :: _ => by simp [Op.bytesLess]
  | _ :: _, [] => by simp [Op.bytesLess]
  | x :: a, y :: b => by
    have ih := less_total a b
    rw [Op.bytesLess, Op.bytesLess]
    rw [Bool.eq_iff_iff] at ih ⊢
    by_cases h1 : x < y
    · have h2 : ¬ y < x := fun h => UInt8.lt_irrefl x (UInt8.lt_trans h1 h)
      have h3 : ¬ x = y := fun e => by rw [e] at h1; exact UInt8.lt_irrefl y h1
      have h4 : ¬ y = x := fun e => h3 e.symm
      simp [h1, h2, h4]
    · by_cases h2 : y < x
      · have h3 : ¬ x = y := fun e => by rw [e] at h2; exact UInt8.lt_irrefl y h2
        simp [h1, h2, h3]
      · have h3 : x = y := UInt8.le_antisymm (UInt8.not_lt.1 h2) (UInt8.not_lt.1 h1)
        subst h3
        simpa [h1] using ih
theorem str_gtr (t : TypeId) (a b : ByteArray) : binOp .gtr t (.string a) (.string b) = pure (.bool (Op.bytesLess b.toList a.toList)) := by
  have h := less_total a.toList b.toList
  have h2 : (!Op.bytesLess a.toList b.toList && !a.toList == b.toList) = Op.bytesLess b.toList a.toList := by
    rw [← Bool.not_or, h, Bool.not_not]
  simp [binOp, Op.stringOp]
  rw [h2]
theorem str_leq (t : TypeId) (a b : ByteArray) : binOp .leq t (.string a) (.string b) = pure (.bool !(Op.bytesLess b.toList a.toList)) := by
  have h := less_total a.toList b.toList
  simp [binOp, Op.stringOp]
  rw [h]
theorem str_geq (t : TypeId) (a b : ByteArray) : binOp .geq t (.string a) (.string b) = pure (.bool !(Op.bytesLess a.toList b.toList)) := by
  simp [binOp, Op.stringOp]
end Go.Proofs.YthclkdplihchjaaDoor.P

/-
  Layer 3: equal patterns. No project text.
-/
import Derived.Test.YthclkdplihchjaaDoorPatB
import Derived.Test.YthclkdplihchjaaDoorPx11
namespace Go.Proofs.YthclkdplihchjaaDoor.P
open Go.RowKit Go.Proofs.YthclkdplihchjaaDoorW.PrintWords Go.Proofs.YthclkdplihchjaaDoor.Args
set_option linter.unusedVariables false
set_option linter.unusedSimpArgs false

theorem same3_loop (a b : List ByteArray) (c d' : Bool) (hab : a.length = b.length) (hl : a.length ≤ 4611686018427387904) : ∀ (d i : Nat), i + d = a.length →
    Ev (fun k => stockyardref03_Same.l0 k a (a.length : Int) (i : Int) b d') (decide (a.drop i = b.drop i)) := by
  intro d
  induction d with
  | zero =>
    intro i hi
    refine Ev.succ ?_
    simp (disch := omega) only [stockyardref03_Same.l0, if_neg]
    rw [List.drop_of_length_le (by omega), List.drop_of_length_le (by omega), Ev.some_iff]
    simp
  | succ d ih =>
    intro i hi
    have h1 : i < a.length := by omega
    have h2 : i < b.length := by omega
    refine Ev.succ ?_
    simp (disch := omega) only [stockyardref03_Same.l0, if_pos, wrap64_id]
    rw [rdOf_get _ _ (by omega) (by omega), rdOf_get _ _ (by omega) (by omega), toList_eq, toList_eq]
    simp only [Int.toNat_natCast]
    rw [List.drop_eq_getElem_cons h1, List.drop_eq_getElem_cons h2]
    by_cases e : a[i] = b[i]
    · simp only [e, if_true, List.cons.injEq, true_and]
      exact ih (i + 1) (by omega)
    · have e2 : ¬ L a[i] = L b[i] := fun h => e (L_inj h)
      simp only [e2, if_false, List.cons.injEq, e, false_and, decide_false]
      exact Ev.now _
theorem same3_ev (a b : List ByteArray) (c d : Bool) (hl : a.length ≤ 4611686018427387904) : Ev (fun k => stockyardref03_Same.f k a c b d) (decide (a = b ∧ c = d)) := by
  simp only [stockyardref03_Same.f]
  have yes : Ev (fun k => stockyardref03_Same.j0 k true a c b d) false := by
    refine Ev.succ ?_
    simp only [stockyardref03_Same.j0, if_true]
    exact Ev.now _
  by_cases hcd : c = d
  · subst hcd
    simp only [bne_self_eq_false, Bool.false_eq_true, if_false, and_true]
    by_cases h : a.length = b.length
    · have e : ((a.length : Int) != (b.length : Int)) = false := by simp [h]
      rw [e]
      refine Ev.succ ?_
      simp only [stockyardref03_Same.j0, Bool.false_eq_true, if_false]
      have := same3_loop a b c c h hl a.length 0 (by omega)
      exact this
    · have e : ((a.length : Int) != (b.length : Int)) = true := by
        rw [bne_iff_ne]
        omega
      rw [e]
      refine Ev.of_eq yes ?_
      symm
      rw [decide_eq_false_iff_not]
      rintro rfl
      exact h rfl
  · have e : (c != d) = true := by rw [bne_iff_ne]; exact hcd
    simp only [e, if_true, hcd, and_false, decide_false]
    exact yes
end Go.Proofs.YthclkdplihchjaaDoor.P

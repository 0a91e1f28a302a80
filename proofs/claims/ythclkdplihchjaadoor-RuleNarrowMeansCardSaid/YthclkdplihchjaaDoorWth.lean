/-
  Layer 3: what pattern.Within comes to. No project text.
-/
import Derived.Test.YthclkdplihchjaaDoorMeet1
import Derived.Test.YthclkdplihchjaaDoorPx6
namespace Go.Proofs.YthclkdplihchjaaDoor.P
open Go.RowKit Go.Proofs.YthclkdplihchjaaDoorW.PrintWords Go.Proofs.YthclkdplihchjaaDoor.Args
set_option linter.unusedVariables false
set_option linter.unusedSimpArgs false

theorem within_loop (ps os : List Bs) (r : Bool) (hl : ps.length ≤ 1048576) (he : os.length = ps.length) : ∀ (d i : Nat), i + d = ps.length →
    Ev (fun k => pattern_Within.l0 k (Ss ps) (ps.length : Int) (i : Int) (Ss os) r) (decide (os.drop i = ps.drop i)) := by
  intro d
  induction d with
  | zero =>
    intro i hi
    refine Ev.succ ?_
    have c1 : ¬ ((i : Int) < (ps.length : Int)) := by omega
    simp only [pattern_Within.l0, if_neg c1]
    rw [List.drop_of_length_le (by omega), List.drop_of_length_le (by omega), Ev.some_iff]
    simp
  | succ d ih =>
    intro i hi
    have hlt : i < ps.length := by omega
    have hlt2 : i < os.length := by omega
    refine Ev.succ ?_
    have c1 : (i : Int) < (ps.length : Int) := by omega
    have c2 : (0 : Int) ≤ (i : Int) := by omega
    have c3 : (i : Int) < ((Ss ps).length : Int) := by rw [Ss_length]; omega
    have c4 : (i : Int) < ((Ss os).length : Int) := by rw [Ss_length]; omega
    have e : wrap64 ((i : Int) + 1) = ((i + 1 : Nat) : Int) := by rw [wrap64_id (by omega) (by omega)]; omega
    simp only [pattern_Within.l0, if_pos c1, if_pos c2, if_pos c3, if_pos c4, e]
    rw [rd_Ss ps i hlt, rd_Ss os i hlt2, toList_eq, toList_eq, L_S, L_S, List.drop_eq_getElem_cons hlt, List.drop_eq_getElem_cons hlt2]
    by_cases h : os[i] = ps[i]
    · simp only [h, if_true, List.cons.injEq, true_and]
      exact ih (i + 1) (by omega)
    · simp only [h, if_false, List.cons.injEq, false_and, decide_false]
      exact Ev.now _
theorem within_ev (ps qs : List Bs) (b b' : Bool) (h1 : ps.length ≤ 1048576) (h2 : qs.length ≤ 1048576) (hx : ∀ x ∈ ps, x.length ≤ 1048576) (hy : ∀ x ∈ qs, x.length ≤ 1048576) :
    Ev (fun k => pattern_Within.f k (Ss ps) b (Ss qs) b') (inP ps b qs b') := by
  have yes : ∀ (o : List ByteArray) (r : Bool), Ev (fun k => pattern_Within.j0 k true (Ss ps) b o r) false := by
    intro o r
    refine Ev.succ ?_
    simp only [pattern_Within.j0, if_true]
    exact Ev.now _
  simp only [pattern_Within.f]
  rw [Ev.bind_iff (meet_ev ps qs b b' h1 h2 hx hy)]
  unfold inP
  cases hm : meetP ps b qs b' with
  | none =>
    simp only [meetV, Bool.false_eq_true, if_false, reduceCtorEq, decide_false]
    exact yes _ _
  | some m =>
    obtain ⟨o, r⟩ := m
    simp only [meetV, if_true]
    by_cases hr : r = b
    · have e1 : (r != b) = false := by rw [hr]; simp
      simp only [e1, Bool.false_eq_true, if_false]
      by_cases hle : o.length = ps.length
      · have e2 : (((Ss o).length : Int) != ((Ss ps).length : Int)) = false := by rw [Ss_length, Ss_length, hle]; simp
        simp only [e2]
        refine Ev.succ ?_
        simp only [pattern_Within.j0, Bool.false_eq_true, if_false, Ss_length]
        have := within_loop ps o r h1 hle ps.length 0 (by omega)
        refine Ev.of_eq this ?_
        simp [hr]
      · have e2 : (((Ss o).length : Int) != ((Ss ps).length : Int)) = true := by rw [bne_iff_ne, Ss_length, Ss_length]; omega
        simp only [e2]
        have e3 : decide (some (o, r) = some (ps, b)) = false := by
          rw [decide_eq_false_iff_not]
          intro h
          injection h with h
          injection h with h _
          rw [h] at hle
          exact hle rfl
        rw [e3]
        exact yes _ _
    · have e1 : (r != b) = true := by rw [bne_iff_ne]; exact hr
      simp only [e1, if_true]
      have e3 : decide (some (o, r) = some (ps, b)) = false := by
        rw [decide_eq_false_iff_not]
        intro h
        injection h with h
        injection h with _ h
        exact hr h
      rw [e3]
      exact yes _ _
end Go.Proofs.YthclkdplihchjaaDoor.P

/-
  Layer 3: the kinds of a pattern's wildcards. No project text.
-/
import Derived.Test.YthclkdplihchjaaDoorPatB
import Derived.Test.YthclkdplihchjaaDoorPx1
namespace Go.Proofs.YthclkdplihchjaaDoor.P
open Go.RowKit Go.Proofs.YthclkdplihchjaaDoorW.PrintWords Go.Proofs.YthclkdplihchjaaDoor.Args
set_option linter.unusedVariables false
set_option linter.unusedSimpArgs false

def starsN (ps : List Bs) : Nat := ps.countP fun x => (starL x).isSome
theorem kinds_loop (ps : List Bs) (b : Bool) (hl : ps.length ≤ 1048576) (hx : ∀ x ∈ ps, x.length ≤ 1048576) : ∀ (d i n : Nat), i + d = ps.length → n ≤ i →
    Ev (fun k => pattern_Kinds.l0 k (n : Int) (Ss ps) (ps.length : Int) (i : Int) (Ss ps) b) (((n + starsN (ps.drop i) : Nat) : Int), b, 0) := by
  intro d
  induction d with
  | zero =>
    intro i n hi hn
    refine Ev.succ ?_
    simp (disch := omega) only [pattern_Kinds.l0, if_neg]
    rw [List.drop_of_length_le (by omega), Ev.some_iff]
    simp [starsN]
  | succ d ih =>
    intro i n hi hn
    have hlt : i < ps.length := by omega
    refine Ev.succ ?_
    simp only [pattern_Kinds.l0, Ss_length]
    have c1 : (i : Int) < (ps.length : Int) := by omega
    have c2 : (0 : Int) ≤ (i : Int) := by omega
    have e : wrap64 ((i : Int) + 1) = ((i + 1 : Nat) : Int) := by rw [wrap64_id (by omega) (by omega)]; omega
    have e2 : wrap64 ((n : Int) + 1) = ((n + 1 : Nat) : Int) := by rw [wrap64_id (by omega) (by omega)]; omega
    simp only [if_pos c1, if_pos c2, e, e2]
    rw [rd_Ss ps i hlt, Ev.bind_iff (form_ev _ (by rw [size_S]; exact hx _ (List.getElem_mem hlt))), L_S, List.drop_eq_getElem_cons hlt]
    simp only [starsN, List.countP_cons]
    by_cases hs : (starL ps[i]).isSome = true
    · simp only [form_star.2 hs, hs, if_true]
      refine Ev.of_eq (ih (i + 1) (n + 1) (by omega) (by omega)) ?_
      simp only [starsN, Prod.mk.injEq, and_true]
      omega
    · have : ¬ (formR ps[i]).1 = 2 := by rw [form_star]; exact hs
      simp only [this, hs, if_false, Bool.false_eq_true]
      refine Ev.of_eq (ih (i + 1) n (by omega) (by omega)) ?_
      simp only [starsN, Prod.mk.injEq, and_true, Nat.add_zero]
def kindsR (ps : List Bs) (b : Bool) : Int × Bool × Int := if checkI ps b = 0 then ((starsN ps : Nat), b, 0) else (0, false, checkI ps b)
theorem kinds_ev (ps : List Bs) (b : Bool) (hl : ps.length ≤ 1048576) (hx : ∀ x ∈ ps, x.length ≤ 1048576) : Ev (fun k => pattern_Kinds.f k (Ss ps) b) (kindsR ps b) := by
  simp only [pattern_Kinds.f]
  rw [Ev.bind_iff (check_ev ps b hl hx)]
  unfold kindsR
  by_cases hc : checkI ps b = 0
  · simp only [hc, if_true, Ss_length]
    have := kinds_loop ps b hl hx ps.length 0 0 (by omega) (by omega)
    simpa using this
  · simp only [hc, if_false]
    exact Ev.now _
end Go.Proofs.YthclkdplihchjaaDoor.P

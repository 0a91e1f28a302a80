/-
  Layer 3: the kinds of a pattern's wildcards, by the reference. No project text.
-/
import Derived.Test.YthclkdplihchjaaDoorKinds
import Derived.Test.YthclkdplihchjaaDoorPatR2
import Derived.Test.YthclkdplihchjaaDoorPx5
namespace Go.Proofs.YthclkdplihchjaaDoor.P
open Go.RowKit Go.Proofs.YthclkdplihchjaaDoorW.PrintWords Go.Proofs.YthclkdplihchjaaDoor.Args
set_option linter.unusedVariables false
set_option linter.unusedSimpArgs false

theorem refkinds_loop (ps : List Bs) (b : Bool) (hl : ps.length ≤ 1048576) (hx : ∀ x ∈ ps, x.length ≤ 1048576) : ∀ (d i n : Nat), i + d = ps.length → n ≤ i →
    Ev (fun k => stockyardref03_Kinds.l0 k (n : Int) (Ss ps) (ps.length : Int) (i : Int) (Ss ps) b) (((n + starsN (ps.drop i) : Nat) : Int), b) := by
  intro d
  induction d with
  | zero =>
    intro i n hi hn
    refine Ev.succ ?_
    simp (disch := omega) only [stockyardref03_Kinds.l0, if_neg]
    rw [List.drop_of_length_le (by omega), Ev.some_iff]
    simp [starsN]
  | succ d ih =>
    intro i n hi hn
    have hlt : i < ps.length := by omega
    refine Ev.succ ?_
    simp only [stockyardref03_Kinds.l0, Ss_length]
    have c1 : (i : Int) < (ps.length : Int) := by omega
    have c2 : (0 : Int) ≤ (i : Int) := by omega
    have e : wrap64 ((i : Int) + 1) = ((i + 1 : Nat) : Int) := by rw [wrap64_id (by omega) (by omega)]; omega
    have e2 : wrap64 ((n : Int) + 1) = ((n + 1 : Nat) : Int) := by rw [wrap64_id (by omega) (by omega)]; omega
    simp only [if_pos c1, if_pos c2, e, e2]
    rw [rd_Ss ps i hlt, Ev.bind_iff (refstar_ev _ (by rw [size_S]; exact hx _ (List.getElem_mem hlt))), L_S, List.drop_eq_getElem_cons hlt]
    simp only [starsN, List.countP_cons]
    cases hs : starL ps[i] with
    | some r =>
      simp only [strR, Option.isSome_some, if_true]
      refine Ev.of_eq (ih (i + 1) (n + 1) (by omega) (by omega)) ?_
      simp only [starsN, Prod.mk.injEq, and_true]
      omega
    | none =>
      simp only [strR, Option.isSome_none, if_false, Bool.false_eq_true]
      refine Ev.of_eq (ih (i + 1) n (by omega) (by omega)) ?_
      simp only [starsN, Prod.mk.injEq, and_true, Nat.add_zero]
theorem refkinds_ev (ps : List Bs) (b : Bool) (hl : ps.length ≤ 1048576) (hx : ∀ x ∈ ps, x.length ≤ 1048576) : Ev (fun k => stockyardref03_Kinds.f k (Ss ps) b) ((starsN ps : Nat), b) := by
  simp only [stockyardref03_Kinds.f, Ss_length]
  have := refkinds_loop ps b hl hx ps.length 0 0 (by omega) (by omega)
  simpa using this
end Go.Proofs.YthclkdplihchjaaDoor.P

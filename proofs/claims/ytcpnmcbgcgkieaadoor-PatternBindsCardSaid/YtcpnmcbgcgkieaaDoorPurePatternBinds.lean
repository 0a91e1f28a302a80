/-
  The pure statement of PatternBinds. No project text.
-/
import Derived.Test.YtcpnmcbgcgkieaaDoorStPatternBinds
import Derived.Test.YtcpnmcbgcgkieaaDoorRBnd
import Derived.Test.YtcpnmcbgcgkieaaDoorPx18
import Derived.Test.YtcpnmcbgcgkieaaDoorPx2
namespace Go.Proofs.YtcpnmcbgcgkieaaDoor.P
open Go.RowKit Go.Proofs.YtcpnmcbgcgkieaaDoorW.PrintWords Go.Proofs.YtcpnmcbgcgkieaaDoor.Args
set_option linter.unusedVariables false
set_option linter.unusedSimpArgs false

theorem bindL_length : ∀ (ps qs : List Bs), (bindL ps qs).length ≤ ps.length
  | [], _ => by simp [bindL]
  | _ :: _, [] => by simp [bindL]
  | p :: ps, q :: qs => by
    have := bindL_length ps qs
    simp only [bindL]
    cases starL p <;> simp only [List.length_cons] <;> omega
theorem bindV_length {ps qs : List Bs} {b b' : Bool} (h1 : ps.length ≤ 20) : (bindV ps b qs b').1.length ≤ 21 := by
  unfold bindV
  split
  · have := bindL_length ps qs
    simp only [Bnd_length, bindP, List.length_append]
    split <;> simp only [List.length_cons, List.length_nil] <;> omega
  · simp
theorem bindV_rows {ps qs : List Bs} {b b' : Bool} (h2 : qs.length ≤ 20) : ∀ x ∈ (bindV ps b qs b').1, x.f0.length ≤ 1048576 := by
  have hL : ∀ (ps qs : List Bs), ∀ x ∈ bindL ps qs, x.1.length ≤ 1 := by
    intro ps
    induction ps with
    | nil => intro qs x hx; simp [bindL] at hx
    | cons p ps ih =>
      intro qs x hx
      cases qs with
      | nil => simp [bindL] at hx
      | cons q qs =>
        simp only [bindL] at hx
        cases hs : starL p with
        | none =>
          rw [hs] at hx
          exact ih qs x hx
        | some s =>
          rw [hs] at hx
          rcases List.mem_cons.1 hx with rfl | hx
          · simp
          · exact ih qs x hx
  intro x hx
  unfold bindV at hx
  split at hx
  · simp only [Bnd, List.mem_map] at hx
    obtain ⟨y, hy, rfl⟩ := hx
    simp only [mkB, Ss_length]
    unfold bindP at hy
    rcases List.mem_append.1 hy with hy | hy
    · have := hL _ _ y hy
      omega
    · split at hy
      · rw [List.mem_singleton.1 hy]
        simp only [List.length_drop]
        omega
      · simp at hy
  · simp at hx
theorem Pure.PatternBinds : St.PatternBinds := by
  intro p q hp hq
  refine Ev.rounds ?_
  have none_ : Ev (fun k => (stockyardlaw03_awake.f k).bind fun t => some t) true := by rw [Ev.bind_some]; exact awake03
  obtain ⟨ps, e, h1, h2⟩ := arg_parts hp.1
  obtain ⟨qs, e', h3, h4⟩ := arg_parts hq.1
  simp only [stockyardlaw03_PatternBinds.f, e, e']
  have far : Ev (fun k => stockyardlaw03_PatternBinds.j0 k true (Ss ps) p.f1 (Ss qs) q.f1) true := by
    refine Ev.succ ?_
    simp only [stockyardlaw03_PatternBinds.j0, if_true]
    exact none_
  rw [Ev.bind_iff (small_ev ps _ h1 h2)]
  by_cases hsm : smallB ps = true
  · simp only [hsm, if_true]
    rw [Ev.bind_iff (small_ev qs _ h3 h4)]
    by_cases hsm2 : smallB qs = true
    · simp only [hsm2, Bool.not_true]
      have a1 := small_ok hsm
      have a2 := small_ok hsm2
      have b1 : ∀ x ∈ ps, x.length ≤ 1048576 := fun x hx => by have := a1.2 x hx; omega
      have b2 : ∀ x ∈ qs, x.length ≤ 1048576 := fun x hx => by have := a2.2 x hx; omega
      refine Ev.succ ?_
      simp only [stockyardlaw03_PatternBinds.j0, Bool.false_eq_true, if_false]
      rw [Ev.bind_iff (bind_ev ps qs _ _ (by omega) (by omega) b1 b2), Ev.bind_iff (refbind_ev ps qs _ _ (by omega) (by omega) b1 b2)]
      simp only [bne_self_eq_false, Bool.false_eq_true, if_false]
      refine Ev.succ ?_
      simp only [stockyardlaw03_PatternBinds.j1, Bool.false_eq_true, if_false]
      have hlen := bindV_length (ps := ps) (qs := qs) (b := p.f1) (b' := q.f1) a1.1
      have hrow := bindV_rows (ps := ps) (qs := qs) (b := p.f1) (b' := q.f1) a2.1
      revert hlen hrow
      generalize (bindV ps p.f1 qs q.f1).1 = l
      intro hlen hrow
      have loop : ∀ (d i : Nat), i + d = l.length → Ev (fun k => stockyardlaw03_PatternBinds.l0 k l l (l.length : Int) (i : Int)) true := by
        intro d
        induction d with
        | zero =>
          intro i hi
          refine Ev.succ ?_
          have c1 : ¬ ((i : Int) < (l.length : Int)) := by omega
          simp only [stockyardlaw03_PatternBinds.l0, if_neg c1]
          exact none_
        | succ d ih =>
          intro i hi
          refine Ev.succ ?_
          have hlt : i < l.length := by omega
          have c1 : (i : Int) < (l.length : Int) := by omega
          have c2 : (0 : Int) ≤ (i : Int) := by omega
          have e : wrap64 ((i : Int) + 1) = ((i + 1 : Nat) : Int) := by rw [wrap64_id (by omega) (by omega)]; omega
          have hr : (rd_T39 l (i : Int)).f0.length ≤ 1048576 := by
            have : rd_T39 l (i : Int) = l[i] := by
              unfold rd_T39
              simp [List.getD_eq_getElem?_getD, List.getElem?_eq_getElem hlt]
            rw [this]
            exact hrow _ (List.getElem_mem hlt)
          have he := equal3_ev (rd_T39 l (i : Int)).f0 (rd_T39 l (i : Int)).f0 (by omega)
          simp only [decide_true] at he
          simp only [stockyardlaw03_PatternBinds.l0, if_pos c1, if_pos c2, bne_self_eq_false, Bool.false_eq_true, if_false, e]
          rw [Ev.bind_iff he]
          simp only [if_true]
          exact ih (i + 1) (by omega)
      exact loop l.length 0 (by omega)
    · simp only [Bool.not_eq_true] at hsm2
      simp only [hsm2, Bool.not_false]
      exact far
  · simp only [hsm, if_false, Bool.false_eq_true]
    exact far
end Go.Proofs.YtcpnmcbgcgkieaaDoor.P

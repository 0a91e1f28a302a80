/-
  The pure statement of PatternFills. No project text.
-/
import Derived.Test.YtkakemojljeffaaDoorStPatternFills
import Derived.Test.YtkakemojljeffaaDoorRFill
import Derived.Test.YtkakemojljeffaaDoorPx21
import Derived.Test.YtkakemojljeffaaDoorPx3
namespace Go.Proofs.YtkakemojljeffaaDoor.P
open Go.RowKit Go.Proofs.YtkakemojljeffaaDoorW.PrintWords Go.Proofs.YtkakemojljeffaaDoor.Args
set_option linter.unusedVariables false
set_option linter.unusedSimpArgs false

theorem Pure.PatternFills : St.PatternFills := by
  intro p cs' hp hcs
  refine Ev.rounds ?_
  have none_ : Ev (fun k => (stockyardlaw03_awake.f k).bind fun t => some t) true := by rw [Ev.bind_some]; exact awake03
  obtain ⟨ps, e, h1, h2⟩ := arg_parts hp.1
  obtain ⟨cs, e', g1, g2⟩ := arg_parts hcs
  simp only [stockyardlaw03_PatternFills.f, e, e']
  rw [Ev.bind_iff (small_ev ps _ h1 h2)]
  have far : ∀ (x y : List ByteArray) (b : Bool), Ev (fun k => stockyardlaw03_PatternFills.j0 k x true y b) true := by
    intro x y b
    refine Ev.succ ?_
    simp only [stockyardlaw03_PatternFills.j0, if_true]
    exact none_
  by_cases hsm : smallB ps = true
  · simp only [hsm, if_true, Ss_length]
    by_cases hl : (cs.length : Int) > 20
    · simp only [hl, decide_true]
      exact far _ _ _
    · simp only [hl, decide_false]
      have h3 := small_ok hsm
      refine Ev.succ ?_
      simp only [stockyardlaw03_PatternFills.j0, Bool.false_eq_true, if_false, Ss_length]
      have loop : ∀ (d i : Nat), i + d = cs.length → (∀ x ∈ cs.take i, x.length ≤ 100) → Ev (fun k => stockyardlaw03_PatternFills.l0 k (Ss cs) (Ss cs) (cs.length : Int) (i : Int) (Ss ps) p.f1) true := by
        intro d
        induction d with
        | zero =>
          intro i hi hall
          rw [List.take_of_length_le (by omega)] at hall
          refine Ev.succ ?_
          have c1 : ([] : List ByteArray).length + (Ss cs).length < 8796093022208 := by rw [Ss_length]; simp only [List.length_nil]; omega
          simp (disch := omega) only [stockyardlaw03_PatternFills.l0, if_neg, if_pos c1, List.nil_append]
          rw [Ev.bind_iff (fill_ev ps _ cs (by omega) (fun x hx => by have := h3.2 x hx; omega) (fun x hx => by have := hall x hx; omega)),
            Ev.bind_iff (reffill_ev ps _ cs (by omega) (fun x hx => by have := h3.2 x hx; omega) (fun x hx => by have := hall x hx; omega) (by omega))]
          simp only [if_true]
          rw [Ev.bind_iff (equal3_ev _ _ (by rw [Ss_length]; omega))]
          simp only [decide_true, if_true]
          exact none_
        | succ d ih =>
          intro i hi hall
          have hlt : i < cs.length := by omega
          refine Ev.succ ?_
          simp only [stockyardlaw03_PatternFills.l0, Ss_length]
          have c1 : (i : Int) < (cs.length : Int) := by omega
          have c2 : (0 : Int) ≤ (i : Int) := by omega
          have e : wrap64 ((i : Int) + 1) = ((i + 1 : Nat) : Int) := by rw [wrap64_id (by omega) (by omega)]; omega
          simp only [if_pos c1, if_pos c2, e]
          rw [rd_Ss cs i hlt, size_S]
          by_cases hb : (cs[i].length : Int) > 100
          · simp only [if_pos hb]
            exact none_
          · simp only [if_neg hb]
            refine ih (i + 1) (by omega) ?_
            intro x hx
            rw [List.take_succ_eq_append_getElem hlt] at hx
            rcases List.mem_append.1 hx with h | h
            · exact hall x h
            · rw [List.mem_singleton.1 h]
              omega
      exact loop cs.length 0 (by omega) (by simp)
  · simp only [hsm, if_false, Bool.false_eq_true]
    exact far _ _ _
end Go.Proofs.YtkakemojljeffaaDoor.P

/-
  The pure statement of PatternBack. No project text.
-/
import Derived.Test.YtkakemojljeffaaDoorStPatternBack
import Derived.Test.YtkakemojljeffaaDoorPatF
import Derived.Test.YtkakemojljeffaaDoorPx13
import Derived.Test.YtkakemojljeffaaDoorPx3
namespace Go.Proofs.YtkakemojljeffaaDoor.P
open Go.RowKit Go.Proofs.YtkakemojljeffaaDoorW.PrintWords Go.Proofs.YtkakemojljeffaaDoor.Args
set_option linter.unusedVariables false
set_option linter.unusedSimpArgs false

theorem Pure.PatternBack : St.PatternBack := by
  intro p s hp hs
  refine Ev.rounds ?_
  have none_ : Ev (fun k => (stockyardlaw03_awake.f k).bind fun t => some t) true := by rw [Ev.bind_some]; exact awake03
  obtain ⟨ps, e, h1, h2⟩ := arg_parts hp.1
  simp only [stockyardlaw03_PatternBack.f, e]
  rw [Ev.bind_iff (small_ev ps _ h1 h2)]
  have far : ∀ (x : List ByteArray) (b : Bool), Ev (fun k => stockyardlaw03_PatternBack.j0 k s true x b) true := by
    intro x b
    refine Ev.succ ?_
    simp only [stockyardlaw03_PatternBack.j0, if_true]
    exact none_
  by_cases hsm : smallB ps = true
  · simp only [hsm, if_true]
    by_cases hl : (s.size : Int) > 400
    · simp only [hl, decide_true]
      exact far _ _
    · simp only [hl, decide_false]
      have h3 := small_ok hsm
      have hx : ∀ x ∈ ps, x.length ≤ 1048576 := fun x hx => by have := h3.2 x hx; omega
      have hsz := size_eq s
      have two : Ev (fun k => stockyardlaw03_PatternBack.j1 k s) true := by
        refine Ev.succ ?_
        simp only [stockyardlaw03_PatternBack.j1]
        rw [Ev.bind_iff (parse_ev s (by omega))]
        unfold parseR
        by_cases hc : parseI (L s) = 0
        · simp only [hc, if_true]
          have ht := text_parse hc
          have hck : checkI (partsOf ((L s).drop 2)).1 (partsOf ((L s).drop 2)).2 = 0 := by
            unfold parseI at hc
            split at hc
            · exact hc
            · cases hc
          have hb1 := splitL_len_le ((L s).drop 2)
          have hb2 := splitL_length_le ((L s).drop 2)
          rw [List.length_drop] at hb1
          have hsub : ∀ x ∈ (partsOf ((L s).drop 2)).1, x ∈ splitL ((L s).drop 2) := by
            intro x hx2
            unfold partsOf at hx2
            split at hx2
            · simp only [List.dropLast_eq_take] at hx2
              exact List.mem_of_mem_take hx2
            · exact hx2
          rw [Ev.bind_iff (format_ev _ _ (by have := (check_ok hck).2.1; omega) (fun x hx2 => by have := hb2 x (hsub x hx2); rw [List.length_drop] at this; omega))]
          unfold formatR
          simp only [hck, if_true, ht, toList_eq, L_S]
          exact none_
        · simp only [hc, if_false]
          exact none_
      refine Ev.succ ?_
      simp only [stockyardlaw03_PatternBack.j0, Bool.false_eq_true, if_false]
      rw [Ev.bind_iff (format_ev ps _ (by omega) hx)]
      unfold formatR
      by_cases hc : checkI ps p.f1 = 0
      · simp only [hc, if_true]
        have hj := joinL_bound 400 ps h3.2
        have hm : ps.length * (400 + 1) ≤ 20 * (400 + 1) := Nat.mul_le_mul_right _ h3.1
        have hsize : (S (patText ps p.f1)).size ≤ 1000000 := by
          rw [size_S]
          unfold patText textL
          rw [List.length_append, List.length_cons, List.length_cons]
          split
          · simp only [List.length_cons, List.length_nil]
            omega
          · simp only [List.length_nil]
            omega
        rw [Ev.bind_iff (parse_ev _ hsize), L_S, parse_text hc]
        simp only [if_true, bne_self_eq_false, Bool.false_eq_true, if_false]
        rw [Ev.bind_iff (equal3_ev _ _ (by rw [Ss_length]; omega))]
        simp only [decide_true, if_true]
        exact two
      · simp only [hc, if_false]
        exact two
  · simp only [hsm, if_false, Bool.false_eq_true]
    exact far _ _
end Go.Proofs.YtkakemojljeffaaDoor.P

/-
  Layer 3: the reference's Within. No project text.
-/
import Derived.Test.YtcpnmcbgcgkieaaDoorRIn
import Derived.Test.YtcpnmcbgcgkieaaDoorPx8
namespace Go.Proofs.YtcpnmcbgcgkieaaDoor.P
open Go.RowKit Go.Proofs.YtcpnmcbgcgkieaaDoorW.PrintWords Go.Proofs.YtcpnmcbgcgkieaaDoor.Args
set_option linter.unusedVariables false
set_option linter.unusedSimpArgs false

theorem refwithin_loop (ps qs : List Bs) (b : Bool) (hl : ps.length ≤ 1048576) (hqp : qs.length ≤ ps.length) (hx : ∀ x ∈ ps, x.length ≤ 1048576) (hy : ∀ x ∈ qs, x.length ≤ 1048576) (hp : ∀ x ∈ ps, partB x = true) (hq : ∀ x ∈ qs, partB x = true) :
    ∀ (d i : Nat), i + d = qs.length → ∃ v, Ev (fun k => stockyardref03_Within.l0 k (Ss qs) (qs.length : Int) (i : Int) (Ss ps) b) v ∧ (v = true ↔ ∀ j (h : j < qs.length) (h' : j < ps.length), i ≤ j → inB ps[j] qs[j] = true) := by
  intro d
  induction d with
  | zero =>
    intro i hi
    refine ⟨true, Ev.succ ?_, ?_⟩
    · have c1 : ¬ ((i : Int) < (qs.length : Int)) := by omega
      simp only [stockyardref03_Within.l0, if_neg c1]
      exact Ev.now _
    · simp only [true_iff]
      intro j h h' hij
      omega
  | succ d ih =>
    intro i hi
    have hlt : i < qs.length := by omega
    have hlt2 : i < ps.length := by omega
    have c1 : (i : Int) < (qs.length : Int) := by omega
    have c2 : (0 : Int) ≤ (i : Int) := by omega
    have c3 : (i : Int) < ((Ss qs).length : Int) := by rw [Ss_length]; omega
    have c4 : (i : Int) < ((Ss ps).length : Int) := by rw [Ss_length]; omega
    have e : wrap64 ((i : Int) + 1) = ((i + 1 : Nat) : Int) := by rw [wrap64_id (by omega) (by omega)]; omega
    have hin := refinside_ev ps[i] qs[i] (hx _ (List.getElem_mem hlt2)) (hy _ (List.getElem_mem hlt)) (hp _ (List.getElem_mem hlt2)) (hq _ (List.getElem_mem hlt))
    obtain ⟨v, hv1, hv2⟩ := ih (i + 1) (by omega)
    cases hc : inB ps[i] qs[i] with
    | false =>
      refine ⟨false, Ev.succ ?_, ?_⟩
      · simp only [stockyardref03_Within.l0, if_pos c1, if_pos c2, if_pos c3, if_pos c4]
        rw [rd_Ss ps i hlt2, rd_Ss qs i hlt, Ev.bind_iff hin, hc]
        simp only [Bool.false_eq_true, if_false]
        exact Ev.now _
      · simp only [Bool.false_eq_true, false_iff]
        intro h
        have := h i hlt hlt2 (Nat.le_refl _)
        rw [hc] at this
        cases this
    | true =>
      refine ⟨v, Ev.succ ?_, ?_⟩
      · simp only [stockyardref03_Within.l0, if_pos c1, if_pos c2, if_pos c3, if_pos c4, e]
        rw [rd_Ss ps i hlt2, rd_Ss qs i hlt, Ev.bind_iff hin, hc]
        simp only [if_true]
        exact hv1
      · rw [hv2]
        constructor
        · intro h j h1 h2 h3
          by_cases hj : j = i
          · subst hj
            exact hc
          · exact h j h1 h2 (by omega)
        · intro h j h1 h2 h3
          exact h j h1 h2 (by omega)
theorem refwithin_ev (ps qs : List Bs) (b b' : Bool) (h1 : ps.length ≤ 1048576) (h2 : qs.length ≤ 1048576) (hx : ∀ x ∈ ps, x.length ≤ 1048576) (hy : ∀ x ∈ qs, x.length ≤ 1048576) :
    Ev (fun k => stockyardref03_Within.f k (Ss ps) b (Ss qs) b') (inP ps b qs b') := by
  have yes : ∀ n, Ev (fun k => stockyardref03_Within.j0 k n true (Ss ps) b (Ss qs) b') false := by
    intro n
    refine Ev.succ ?_
    simp only [stockyardref03_Within.j0, if_true]
    exact Ev.now _
  have yes1 : Ev (fun k => stockyardref03_Within.j1 k true (Ss ps) b (Ss qs) b') false := by
    refine Ev.succ ?_
    simp only [stockyardref03_Within.j1, if_true]
    exact Ev.now _
  have nots : ¬ (checkI ps b = 0 ∧ checkI qs b' = 0 ∧ qs.length ≤ ps.length ∧ (qs.length < ps.length → b' = true) ∧ (ps.length = qs.length → b = b')) → inP ps b qs b' = false := by
    intro h
    rw [Bool.eq_false_iff]
    intro h3
    have h4 := inP_iff.1 h3
    exact h ⟨h4.1, h4.2.1, h4.2.2.1, h4.2.2.2.1, h4.2.2.2.2.1⟩
  simp only [stockyardref03_Within.f]
  rw [Ev.bind_iff (refcheck_ev ps b h1 hx)]
  by_cases hc : checkI ps b = 0
  · simp only [hc, if_true]
    rw [Ev.bind_iff (refcheck_ev qs b' h2 hy)]
    by_cases hc2 : checkI qs b' = 0
    · have p1 := (check_ok hc).2.2.1
      have p2 := (check_ok hc2).2.2.1
      simp only [hc2, if_true]
      by_cases hlt : ps.length < qs.length
      · have c1 : decide (((Ss ps).length : Int) < ((Ss qs).length : Int)) = true := by rw [Ss_length, Ss_length, decide_eq_true_eq]; omega
        rw [c1, nots (fun h => by omega)]
        exact yes _
      · have c1 : decide (((Ss ps).length : Int) < ((Ss qs).length : Int)) = false := by rw [Ss_length, Ss_length, decide_eq_false_iff_not]; omega
        rw [c1]
        refine Ev.succ ?_
        simp only [stockyardref03_Within.j0, Bool.false_eq_true, if_false, Ss_length]
        have go : (qs.length < ps.length → b' = true) → (ps.length = qs.length → b = b') → Ev (fun k => stockyardref03_Within.j1 k false (Ss ps) b (Ss qs) b') (inP ps b qs b') := by
          intro g1 g2
          refine Ev.succ ?_
          simp only [stockyardref03_Within.j1, Bool.false_eq_true, if_false, Ss_length]
          obtain ⟨v, hv1, hv2⟩ := refwithin_loop ps qs b h1 (by omega) hx hy p1 p2 qs.length 0 (by omega)
          refine Ev.of_eq hv1 ?_
          rw [Bool.eq_iff_iff, hv2, inP_iff]
          exact ⟨fun h => ⟨hc, hc2, by omega, g1, g2, fun i h3 h4 => h i h3 h4 (Nat.zero_le _)⟩, fun h i h3 h4 _ => h.2.2.2.2.2 i h3 h4⟩
        cases b' with
        | true =>
          simp only [if_true]
          by_cases he : ps.length = qs.length
          · have he' : (ps.length : Int) = (qs.length : Int) := by omega
            simp only [if_pos he']
            cases b with
            | true => exact go (fun _ => rfl) (fun _ => rfl)
            | false =>
              rw [nots (fun h => by have := h.2.2.2.2 he; cases this)]
              exact yes1
          · have he' : ¬ (ps.length : Int) = (qs.length : Int) := by omega
            simp only [if_neg he']
            exact go (fun _ => rfl) (fun h => absurd h he)
        | false =>
          simp only [Bool.false_eq_true, if_false]
          cases b with
          | true =>
            simp only [if_true]
            rw [nots (fun h => by
              by_cases he : ps.length = qs.length
              · have := h.2.2.2.2 he
                cases this
              · have := h.2.2.2.1 (by omega)
                cases this)]
            exact yes1
          | false =>
            simp only [Bool.false_eq_true, if_false]
            by_cases he : qs.length < ps.length
            · have he' : (ps.length : Int) > (qs.length : Int) := by omega
              simp only [if_pos he']
              rw [nots (fun h => by have := h.2.2.2.1 he; cases this)]
              exact yes1
            · have he' : ¬ (ps.length : Int) > (qs.length : Int) := by omega
              simp only [if_neg he']
              exact go (fun h => absurd h he) (fun _ => rfl)
    · simp only [hc2, if_false]
      rw [nots (fun h => hc2 h.2.1)]
      exact yes _
  · simp only [hc, if_false]
    rw [nots (fun h => hc h.1)]
    exact yes _
end Go.Proofs.YtcpnmcbgcgkieaaDoor.P

/-
  Layer 3: the reference's Inside, Within and Meet. No project text.
-/
import Derived.Test.YtcpnmcbgcgkieaaDoorMeet0
import Derived.Test.YtcpnmcbgcgkieaaDoorPatM
import Derived.Test.YtcpnmcbgcgkieaaDoorPx10
import Derived.Test.YtcpnmcbgcgkieaaDoorPx11
import Derived.Test.YtcpnmcbgcgkieaaDoorPx12
import Derived.Test.YtcpnmcbgcgkieaaDoorPx2
namespace Go.Proofs.YtcpnmcbgcgkieaaDoor.P
open Go.RowKit Go.Proofs.YtcpnmcbgcgkieaaDoorW.PrintWords Go.Proofs.YtcpnmcbgcgkieaaDoor.Args
set_option linter.unusedVariables false
set_option linter.unusedSimpArgs false

theorem refinside_ev (x y : Bs) (hx : x.length ≤ 1048576) (hy : y.length ≤ 1048576) (px : partB x = true) (py : partB y = true) : Ev (fun k => stockyardref03_Inside.f k (S x) (S y)) (inB x y) := by
  have h1 := refstar_ev (S x) (by rw [size_S]; exact hx)
  have h2 := refstar_ev (S y) (by rw [size_S]; exact hy)
  rw [L_S] at h1 h2
  simp only [stockyardref03_Inside.f]
  rw [Ev.bind_iff h1, Ev.bind_iff h2]
  unfold inB
  cases sy : starL y with
  | none =>
    simp only [strR, Bool.false_eq_true, if_false]
    rw [Ev.some_iff, toList_eq, toList_eq, L_S, L_S]
    by_cases h : x = y
    · simp [h]
    · simp [h]
  | some t =>
    cases sx : starL x with
    | none =>
      have hc : compL x = true := by
        rcases part_cases px with ⟨_, h⟩ | ⟨s, h, _⟩
        · exact h
        · rw [sx] at h
          cases h
      simp only [strR, if_true, Bool.false_eq_true, if_false]
      obtain ⟨v, hv1, hv2, _⟩ := refcapture_ev y x hy hx hc
      rw [Ev.bind_iff hv1, Ev.some_iff, hv2]
      simp [refCapR, sy]
    | some s =>
      have hls : s.length ≤ 1048576 := by have := star_some sx; rw [this, List.length_cons] at hx; omega
      simp only [strR, if_true, strings_HasSuffix.f, hasSuffix_eq (S s) (S t) (by rw [size_S]; omega), L_S, Option.bind_some]
      exact Ev.now _
theorem refwithin_loop (ps qs : List Bs) (b : Bool) (hl : ps.length ≤ 1048576) (hqp : qs.length ≤ ps.length) (hx : ∀ x ∈ ps, x.length ≤ 1048576) (hy : ∀ x ∈ qs, x.length ≤ 1048576) (hp : ∀ x ∈ ps, partB x = true) (hq : ∀ x ∈ qs, partB x = true) :
    ∀ (d i : Nat), i + d = qs.length → ∃ v, Ev (fun k => stockyardref03_Within.l0 k (Ss qs) (qs.length : Int) (i : Int) (Ss ps) b) v ∧ (v = true ↔ ∀ j (h : j < qs.length) (h' : j < ps.length), i ≤ j → inB ps[j] qs[j] = true) := by
  intro d
  induction d with
  | zero =>
    intro i hi
    refine ⟨true, Ev.succ ?_, ?_⟩
    · have c1 : ¬ ((i : Int) < (qs.length : Int)) := by omega
      simp only [stockyardref03_Within.l0, if_neg c1]
      exact Ev.now _
    · simp only [true_iff]
      intro j h h' hij
      omega
  | succ d ih =>
    intro i hi
    have hlt : i < qs.length := by omega
    have hlt2 : i < ps.length := by omega
    have c1 : (i : Int) < (qs.length : Int) := by omega
    have c2 : (0 : Int) ≤ (i : Int) := by omega
    have c3 : (i : Int) < ((Ss qs).length : Int) := by rw [Ss_length]; omega
    have c4 : (i : Int) < ((Ss ps).length : Int) := by rw [Ss_length]; omega
    have e : wrap64 ((i : Int) + 1) = ((i + 1 : Nat) : Int) := by rw [wrap64_id (by omega) (by omega)]; omega
    have hin := refinside_ev ps[i] qs[i] (hx _ (List.getElem_mem hlt2)) (hy _ (List.getElem_mem hlt)) (hp _ (List.getElem_mem hlt2)) (hq _ (List.getElem_mem hlt))
    obtain ⟨v, hv1, hv2⟩ := ih (i + 1) (by omega)
    cases hc : inB ps[i] qs[i] with
    | false =>
      refine ⟨false, Ev.succ ?_, ?_⟩
      · simp only [stockyardref03_Within.l0, if_pos c1, if_pos c2, if_pos c3, if_pos c4]
        rw [rd_Ss ps i hlt2, rd_Ss qs i hlt, Ev.bind_iff hin, hc]
        simp only [Bool.false_eq_true, if_false]
        exact Ev.now _
      · simp only [Bool.false_eq_true, false_iff]
        intro h
        have := h i hlt hlt2 (Nat.le_refl _)
        rw [hc] at this
        cases this
    | true =>
      refine ⟨v, Ev.succ ?_, ?_⟩
      · simp only [stockyardref03_Within.l0, if_pos c1, if_pos c2, if_pos c3, if_pos c4, e]
        rw [rd_Ss ps i hlt2, rd_Ss qs i hlt, Ev.bind_iff hin, hc]
        simp only [if_true]
        exact hv1
      · rw [hv2]
        constructor
        · intro h j h1 h2 h3
          by_cases hj : j = i
          · subst hj
            exact hc
          · exact h j h1 h2 (by omega)
        · intro h j h1 h2 h3
          exact h j h1 h2 (by omega)
theorem refwithin_ev (ps qs : List Bs) (b b' : Bool) (h1 : ps.length ≤ 1048576) (h2 : qs.length ≤ 1048576) (hx : ∀ x ∈ ps, x.length ≤ 1048576) (hy : ∀ x ∈ qs, x.length ≤ 1048576) :
    Ev (fun k => stockyardref03_Within.f k (Ss ps) b (Ss qs) b') (inP ps b qs b') := by
  have yes : ∀ n, Ev (fun k => stockyardref03_Within.j0 k n true (Ss ps) b (Ss qs) b') false := by
    intro n
    refine Ev.succ ?_
    simp only [stockyardref03_Within.j0, if_true]
    exact Ev.now _
  have yes1 : Ev (fun k => stockyardref03_Within.j1 k true (Ss ps) b (Ss qs) b') false := by
    refine Ev.succ ?_
    simp only [stockyardref03_Within.j1, if_true]
    exact Ev.now _
  have nots : ¬ (checkI ps b = 0 ∧ checkI qs b' = 0 ∧ qs.length ≤ ps.length ∧ (qs.length < ps.length → b' = true) ∧ (ps.length = qs.length → b = b')) → inP ps b qs b' = false := by
    intro h
    rw [Bool.eq_false_iff]
    intro h3
    have h4 := inP_iff.1 h3
    exact h ⟨h4.1, h4.2.1, h4.2.2.1, h4.2.2.2.1, h4.2.2.2.2.1⟩
  simp only [stockyardref03_Within.f]
  rw [Ev.bind_iff (refcheck_ev ps b h1 hx)]
  by_cases hc : checkI ps b = 0
  · simp only [hc, if_true]
    rw [Ev.bind_iff (refcheck_ev qs b' h2 hy)]
    by_cases hc2 : checkI qs b' = 0
    · have p1 := (check_ok hc).2.2.1
      have p2 := (check_ok hc2).2.2.1
      simp only [hc2, if_true]
      by_cases hlt : ps.length < qs.length
      · have c1 : decide (((Ss ps).length : Int) < ((Ss qs).length : Int)) = true := by rw [Ss_length, Ss_length, decide_eq_true_eq]; omega
        rw [c1, nots (fun h => by omega)]
        exact yes _
      · have c1 : decide (((Ss ps).length : Int) < ((Ss qs).length : Int)) = false := by rw [Ss_length, Ss_length, decide_eq_false_iff_not]; omega
        rw [c1]
        refine Ev.succ ?_
        simp only [stockyardref03_Within.j0, Bool.false_eq_true, if_false, Ss_length]
        have go : (qs.length < ps.length → b' = true) → (ps.length = qs.length → b = b') → Ev (fun k => stockyardref03_Within.j1 k false (Ss ps) b (Ss qs) b') (inP ps b qs b') := by
          intro g1 g2
          refine Ev.succ ?_
          simp only [stockyardref03_Within.j1, Bool.false_eq_true, if_false, Ss_length]
          obtain ⟨v, hv1, hv2⟩ := refwithin_loop ps qs b h1 (by omega) hx hy p1 p2 qs.length 0 (by omega)
          refine Ev.of_eq hv1 ?_
          rw [Bool.eq_iff_iff, hv2, inP_iff]
          exact ⟨fun h => ⟨hc, hc2, by omega, g1, g2, fun i h3 h4 => h i h3 h4 (Nat.zero_le _)⟩, fun h i h3 h4 _ => h.2.2.2.2.2 i h3 h4⟩
        cases b' with
        | true =>
          simp only [if_true]
          by_cases he : ps.length = qs.length
          · have he' : (ps.length : Int) = (qs.length : Int) := by omega
            simp only [if_pos he']
            cases b with
            | true => exact go (fun _ => rfl) (fun _ => rfl)
            | false =>
              rw [nots (fun h => by have := h.2.2.2.2 he; cases this)]
              exact yes1
          · have he' : ¬ (ps.length : Int) = (qs.length : Int) := by omega
            simp only [if_neg he']
            exact go (fun _ => rfl) (fun h => absurd h he)
        | false =>
          simp only [Bool.false_eq_true, if_false]
          cases b with
          | true =>
            simp only [if_true]
            rw [nots (fun h => by
              by_cases he : ps.length = qs.length
              · have := h.2.2.2.2 he
                cases this
              · have := h.2.2.2.1 (by omega)
                cases this)]
            exact yes1
          | false =>
            simp only [Bool.false_eq_true, if_false]
            by_cases he : qs.length < ps.length
            · have he' : (ps.length : Int) > (qs.length : Int) := by omega
              simp only [if_pos he']
              rw [nots (fun h => by have := h.2.2.2.1 he; cases this)]
              exact yes1
            · have he' : ¬ (ps.length : Int) > (qs.length : Int) := by omega
              simp only [if_neg he']
              exact go (fun h => absurd h he) (fun _ => rfl)
    · simp only [hc2, if_false]
      rw [nots (fun h => hc2 h.2.1)]
      exact yes _
  · simp only [hc, if_false]
    rw [nots (fun h => hc h.1)]
    exact yes _
def refmeetV (o : Option (List Bs × Bool)) : List ByteArray × Bool × Bool := match o with
  | some (o, r) => (Ss o, r, true)
  | none => ([], false, false)
theorem refmeetV_cons (acc : List Bs) (c : Bs) (b : Bool) (o : Option (List Bs)) : refmeetV ((o.map (c :: ·)).map fun o => (acc ++ o, b)) = refmeetV (o.map fun o => ((acc ++ [c]) ++ o, b)) := by
  cases o <;> simp [refmeetV]
theorem refmeet_loop_l0 (ps qs : List Bs) (r b' : Bool) (hl : ps.length ≤ 1048576) (hqp : qs.length ≤ ps.length) (hx : ∀ x ∈ ps, x.length ≤ 1048576) (hy : ∀ x ∈ qs, x.length ≤ 1048576) (hp : ∀ x ∈ ps, partB x = true) (hq : ∀ x ∈ qs, partB x = true) :
    ∀ (d i : Nat) (acc : List Bs), i + d = ps.length → acc.length ≤ i →
    Ev (fun k => stockyardref03_Meet.l0 k (qs.length : Int) (Ss ps) (ps.length : Int) (i : Int) (Ss qs) b' (Ss acc) r) (refmeetV ((meetL (qs.drop i) (ps.drop i)).map fun o => (acc ++ o, r))) := by
  intro d
  induction d with
  | zero =>
    intro i acc hi ha
    refine Ev.succ ?_
    have c1 : ¬ ((i : Int) < (ps.length : Int)) := by omega
    simp only [stockyardref03_Meet.l0, if_neg c1]
    rw [List.drop_of_length_le (by omega), List.drop_of_length_le (by omega), Ev.some_iff]
    simp [meetL, refmeetV]
  | succ d ih =>
    intro i acc hi ha
    have hlt : i < ps.length := by omega
    have c1 : (i : Int) < (ps.length : Int) := by omega
    have c2 : (0 : Int) ≤ (i : Int) := by omega
    have c3 : (i : Int) < ((Ss ps).length : Int) := by rw [Ss_length]; omega
    have c5 : (Ss acc).length < 8796093022208 := by rw [Ss_length]; omega
    have e : wrap64 ((i : Int) + 1) = ((i + 1 : Nat) : Int) := by rw [wrap64_id (by omega) (by omega)]; omega
    refine Ev.succ ?_
    simp only [stockyardref03_Meet.l0, if_pos c1, if_pos c2, if_pos c3]
    rw [rd_Ss ps i hlt, List.drop_eq_getElem_cons hlt]
    by_cases hge : qs.length ≤ i
    · have c4 : (i : Int) ≥ (qs.length : Int) := by omega
      simp only [if_pos c4]
      refine Ev.succ ?_
      simp only [stockyardref03_Meet.j3, if_true, if_pos c5, e, Ss_snoc]
      have h := ih (i + 1) (acc ++ [ps[i]]) (by omega) (by simp; omega)
      refine Ev.of_eq h ?_
      rw [List.drop_of_length_le (show qs.length ≤ i + 1 by omega), List.drop_of_length_le hge]
      simp [meetL, refmeetV]
    · have hlt2 : i < qs.length := by omega
      have c4 : ¬ (i : Int) ≥ (qs.length : Int) := by omega
      have c6 : (i : Int) < ((Ss qs).length : Int) := by rw [Ss_length]; omega
      simp only [if_neg c4, if_pos c6]
      have px := hp _ (List.getElem_mem hlt)
      have py := hq _ (List.getElem_mem hlt2)
      have sx := hx _ (List.getElem_mem hlt)
      have sy := hy _ (List.getElem_mem hlt2)
      rw [rd_Ss qs i hlt2, Ev.bind_iff (refinside_ev ps[i] qs[i] sx sy px py), List.drop_eq_getElem_cons hlt2]
      simp only [meetL]
      rw [narR_comm, narR_in]
      refine Ev.succ ?_
      by_cases h1 : inB ps[i] qs[i] = true
      · simp only [stockyardref03_Meet.j3, h1, if_true, if_pos c5, e, Ss_snoc]
        rw [refmeetV_cons]
        exact ih (i + 1) (acc ++ [ps[i]]) (by omega) (by simp; omega)
      · simp only [stockyardref03_Meet.j3, h1, if_false, if_pos c2, if_pos c6, Bool.false_eq_true]
        rw [rd_Ss qs i hlt2, Ev.bind_iff (refinside_ev qs[i] ps[i] sy sx py px)]
        by_cases h2 : inB qs[i] ps[i] = true
        · simp only [h2, if_true, if_pos c5, e, Ss_snoc]
          rw [refmeetV_cons]
          exact ih (i + 1) (acc ++ [qs[i]]) (by omega) (by simp; omega)
        · simp only [h2, if_false, Bool.false_eq_true]
          exact Ev.now _
theorem refmeet_mid_l0 (ps qs : List Bs) (b b' : Bool) (hl : ps.length ≤ 1048576) (hqp : qs.length ≤ ps.length) (hx : ∀ x ∈ ps, x.length ≤ 1048576) (hy : ∀ x ∈ qs, x.length ≤ 1048576) (hp : ∀ x ∈ ps, partB x = true) (hq : ∀ x ∈ qs, partB x = true) :
    Ev (fun k => if ((Ss ps).length : Int) > ((Ss qs).length : Int) then (if b' = true then (if ((Ss ps).length : Int) = ((Ss qs).length : Int) then stockyardref03_Meet.j1 k ((Ss qs).length : Int) (b != b') (Ss ps) b (Ss qs) b' else stockyardref03_Meet.j1 k ((Ss qs).length : Int) false (Ss ps) b (Ss qs) b') else stockyardref03_Meet.j1 k ((Ss qs).length : Int) true (Ss ps) b (Ss qs) b') else (if ((Ss ps).length : Int) = ((Ss qs).length : Int) then stockyardref03_Meet.j1 k ((Ss qs).length : Int) (b != b') (Ss ps) b (Ss qs) b' else stockyardref03_Meet.j1 k ((Ss qs).length : Int) false (Ss ps) b (Ss qs) b')) (refmeetV (meet1 qs b' ps b)) := by
  have go : Ev (fun k => stockyardref03_Meet.j1 k ((Ss qs).length : Int) false (Ss ps) b (Ss qs) b') (refmeetV ((meetL qs ps).map fun o => (o, b))) := by
    refine Ev.succ ?_
    simp only [stockyardref03_Meet.j1, Bool.false_eq_true, if_false, Ss_length]
    exact refmeet_loop_l0 ps qs b b' hl hqp hx hy hp hq ps.length 0 [] (by omega) (by simp)
  have yes : Ev (fun k => stockyardref03_Meet.j1 k ((Ss qs).length : Int) true (Ss ps) b (Ss qs) b') ([], false, false) := by
    refine Ev.succ ?_
    simp only [stockyardref03_Meet.j1, if_true]
    exact Ev.now _
  unfold meet1
  rw [Ss_length, Ss_length] at *
  by_cases hlt : qs.length < ps.length
  · have c1 : (ps.length : Int) > (qs.length : Int) := by omega
    have c2 : ¬ (ps.length : Int) = (qs.length : Int) := by omega
    have ne : ¬ qs.length = ps.length := by omega
    simp only [if_pos c1, if_neg c2]
    cases b'
    · rw [if_pos (.inl ⟨hlt, rfl⟩)]
      simp only [Bool.false_eq_true, if_false]
      exact yes
    · rw [if_neg (by
        rintro (⟨_, h⟩ | ⟨h, _⟩)
        · cases h
        · exact ne h)]
      simp only [if_true]
      exact go
  · have c1 : ¬ (ps.length : Int) > (qs.length : Int) := by omega
    have c2 : (ps.length : Int) = (qs.length : Int) := by omega
    have he : qs.length = ps.length := by omega
    simp only [if_neg c1, if_pos c2]
    by_cases hb : b' = b
    · have e : (b != b') = false := by rw [hb]; simp
      rw [if_neg (by
        rintro (⟨h, _⟩ | ⟨_, h⟩)
        · exact hlt h
        · exact h hb)]
      simp only [e]
      exact go
    · have e : (b != b') = true := by rw [bne_iff_ne]; exact fun h => hb h.symm
      rw [if_pos (.inr ⟨he, hb⟩)]
      simp only [e]
      exact yes
theorem refmeet_loop_l100 (ps qs : List Bs) (r b' : Bool) (hl : ps.length ≤ 1048576) (hqp : qs.length ≤ ps.length) (hx : ∀ x ∈ ps, x.length ≤ 1048576) (hy : ∀ x ∈ qs, x.length ≤ 1048576) (hp : ∀ x ∈ ps, partB x = true) (hq : ∀ x ∈ qs, partB x = true) :
    ∀ (d i : Nat) (acc : List Bs), i + d = ps.length → acc.length ≤ i →
    Ev (fun k => stockyardref03_Meet.l100 k (qs.length : Int) (Ss ps) (ps.length : Int) (i : Int) (Ss qs) b' (Ss acc) r) (refmeetV ((meetL (qs.drop i) (ps.drop i)).map fun o => (acc ++ o, r))) := by
  intro d
  induction d with
  | zero =>
    intro i acc hi ha
    refine Ev.succ ?_
    have c1 : ¬ ((i : Int) < (ps.length : Int)) := by omega
    simp only [stockyardref03_Meet.l100, if_neg c1]
    rw [List.drop_of_length_le (by omega), List.drop_of_length_le (by omega), Ev.some_iff]
    simp [meetL, refmeetV]
  | succ d ih =>
    intro i acc hi ha
    have hlt : i < ps.length := by omega
    have c1 : (i : Int) < (ps.length : Int) := by omega
    have c2 : (0 : Int) ≤ (i : Int) := by omega
    have c3 : (i : Int) < ((Ss ps).length : Int) := by rw [Ss_length]; omega
    have c5 : (Ss acc).length < 8796093022208 := by rw [Ss_length]; omega
    have e : wrap64 ((i : Int) + 1) = ((i + 1 : Nat) : Int) := by rw [wrap64_id (by omega) (by omega)]; omega
    refine Ev.succ ?_
    simp only [stockyardref03_Meet.l100, if_pos c1, if_pos c2, if_pos c3]
    rw [rd_Ss ps i hlt, List.drop_eq_getElem_cons hlt]
    by_cases hge : qs.length ≤ i
    · have c4 : (i : Int) ≥ (qs.length : Int) := by omega
      simp only [if_pos c4]
      refine Ev.succ ?_
      simp only [stockyardref03_Meet.j6, if_true, if_pos c5, e, Ss_snoc]
      have h := ih (i + 1) (acc ++ [ps[i]]) (by omega) (by simp; omega)
      refine Ev.of_eq h ?_
      rw [List.drop_of_length_le (show qs.length ≤ i + 1 by omega), List.drop_of_length_le hge]
      simp [meetL, refmeetV]
    · have hlt2 : i < qs.length := by omega
      have c4 : ¬ (i : Int) ≥ (qs.length : Int) := by omega
      have c6 : (i : Int) < ((Ss qs).length : Int) := by rw [Ss_length]; omega
      simp only [if_neg c4, if_pos c6]
      have px := hp _ (List.getElem_mem hlt)
      have py := hq _ (List.getElem_mem hlt2)
      have sx := hx _ (List.getElem_mem hlt)
      have sy := hy _ (List.getElem_mem hlt2)
      rw [rd_Ss qs i hlt2, Ev.bind_iff (refinside_ev ps[i] qs[i] sx sy px py), List.drop_eq_getElem_cons hlt2]
      simp only [meetL]
      rw [narR_comm, narR_in]
      refine Ev.succ ?_
      by_cases h1 : inB ps[i] qs[i] = true
      · simp only [stockyardref03_Meet.j6, h1, if_true, if_pos c5, e, Ss_snoc]
        rw [refmeetV_cons]
        exact ih (i + 1) (acc ++ [ps[i]]) (by omega) (by simp; omega)
      · simp only [stockyardref03_Meet.j6, h1, if_false, if_pos c2, if_pos c6, Bool.false_eq_true]
        rw [rd_Ss qs i hlt2, Ev.bind_iff (refinside_ev qs[i] ps[i] sy sx py px)]
        by_cases h2 : inB qs[i] ps[i] = true
        · simp only [h2, if_true, if_pos c5, e, Ss_snoc]
          rw [refmeetV_cons]
          exact ih (i + 1) (acc ++ [qs[i]]) (by omega) (by simp; omega)
        · simp only [h2, if_false, Bool.false_eq_true]
          exact Ev.now _
theorem refmeet_mid_l100 (ps qs : List Bs) (b b' : Bool) (hl : ps.length ≤ 1048576) (hqp : qs.length ≤ ps.length) (hx : ∀ x ∈ ps, x.length ≤ 1048576) (hy : ∀ x ∈ qs, x.length ≤ 1048576) (hp : ∀ x ∈ ps, partB x = true) (hq : ∀ x ∈ qs, partB x = true) :
    Ev (fun k => if ((Ss ps).length : Int) > ((Ss qs).length : Int) then (if b' = true then (if ((Ss ps).length : Int) = ((Ss qs).length : Int) then stockyardref03_Meet.j4 k ((Ss qs).length : Int) (b != b') (Ss ps) b (Ss qs) b' else stockyardref03_Meet.j4 k ((Ss qs).length : Int) false (Ss ps) b (Ss qs) b') else stockyardref03_Meet.j4 k ((Ss qs).length : Int) true (Ss ps) b (Ss qs) b') else (if ((Ss ps).length : Int) = ((Ss qs).length : Int) then stockyardref03_Meet.j4 k ((Ss qs).length : Int) (b != b') (Ss ps) b (Ss qs) b' else stockyardref03_Meet.j4 k ((Ss qs).length : Int) false (Ss ps) b (Ss qs) b')) (refmeetV (meet1 qs b' ps b)) := by
  have go : Ev (fun k => stockyardref03_Meet.j4 k ((Ss qs).length : Int) false (Ss ps) b (Ss qs) b') (refmeetV ((meetL qs ps).map fun o => (o, b))) := by
    refine Ev.succ ?_
    simp only [stockyardref03_Meet.j4, Bool.false_eq_true, if_false, Ss_length]
    exact refmeet_loop_l100 ps qs b b' hl hqp hx hy hp hq ps.length 0 [] (by omega) (by simp)
  have yes : Ev (fun k => stockyardref03_Meet.j4 k ((Ss qs).length : Int) true (Ss ps) b (Ss qs) b') ([], false, false) := by
    refine Ev.succ ?_
    simp only [stockyardref03_Meet.j4, if_true]
    exact Ev.now _
  unfold meet1
  rw [Ss_length, Ss_length] at *
  by_cases hlt : qs.length < ps.length
  · have c1 : (ps.length : Int) > (qs.length : Int) := by omega
    have c2 : ¬ (ps.length : Int) = (qs.length : Int) := by omega
    have ne : ¬ qs.length = ps.length := by omega
    simp only [if_pos c1, if_neg c2]
    cases b'
    · rw [if_pos (.inl ⟨hlt, rfl⟩)]
      simp only [Bool.false_eq_true, if_false]
      exact yes
    · rw [if_neg (by
        rintro (⟨_, h⟩ | ⟨h, _⟩)
        · cases h
        · exact ne h)]
      simp only [if_true]
      exact go
  · have c1 : ¬ (ps.length : Int) > (qs.length : Int) := by omega
    have c2 : (ps.length : Int) = (qs.length : Int) := by omega
    have he : qs.length = ps.length := by omega
    simp only [if_neg c1, if_pos c2]
    by_cases hb : b' = b
    · have e : (b != b') = false := by rw [hb]; simp
      rw [if_neg (by
        rintro (⟨h, _⟩ | ⟨_, h⟩)
        · exact hlt h
        · exact h hb)]
      simp only [e]
      exact go
    · have e : (b != b') = true := by rw [bne_iff_ne]; exact fun h => hb h.symm
      rw [if_pos (.inr ⟨he, hb⟩)]
      simp only [e]
      exact yes
theorem refmeet_ev (ps qs : List Bs) (b b' : Bool) (h1 : ps.length ≤ 1048576) (h2 : qs.length ≤ 1048576) (hx : ∀ x ∈ ps, x.length ≤ 1048576) (hy : ∀ x ∈ qs, x.length ≤ 1048576) :
    Ev (fun k => stockyardref03_Meet.f k (Ss ps) b (Ss qs) b') (refmeetV (meetP ps b qs b')) := by
  have yes : Ev (fun k => stockyardref03_Meet.j0 k true (Ss ps) b (Ss qs) b') ([], false, false) := by
    refine Ev.succ ?_
    simp only [stockyardref03_Meet.j0, if_true]
    exact Ev.now _
  simp only [stockyardref03_Meet.f]
  rw [Ev.bind_iff (refcheck_ev ps b h1 hx)]
  unfold meetP
  by_cases hc : checkI ps b = 0
  · simp only [hc, if_true, true_and]
    rw [Ev.bind_iff (refcheck_ev qs b' h2 hy)]
    by_cases hc2 : checkI qs b' = 0
    · have p1 := (check_ok hc).2.2.1
      have p2 := (check_ok hc2).2.2.1
      have e0 : ((0 : Int) != 0) = false := by decide
      simp only [hc2, if_true, e0]
      refine Ev.succ ?_
      simp only [stockyardref03_Meet.j0, Bool.false_eq_true, if_false]
      by_cases hlt : ps.length < qs.length
      · have c1 : ((Ss ps).length : Int) < ((Ss qs).length : Int) := by rw [Ss_length, Ss_length]; omega
        have c2 : ¬ qs.length < ps.length := by omega
        simp only [if_pos c1, if_neg c2]
        have h := refmeet_mid_l0 qs ps b' b h2 (by omega) hy hx p2 p1
        simp only [if_pos (show ((Ss qs).length : Int) > ((Ss ps).length : Int) from c1)] at h
        exact h
      · have c1 : ¬ ((Ss ps).length : Int) < ((Ss qs).length : Int) := by rw [Ss_length, Ss_length]; omega
        have h := refmeet_mid_l100 ps qs b b' h1 (by omega) hx hy p1 p2
        simp only [if_neg c1]
        by_cases hlt2 : qs.length < ps.length
        · simp only [if_pos hlt2]
          exact h
        · simp only [if_neg hlt2]
          rw [meet1_comm (by omega)]
          exact h
    · have e0 : (checkI qs b' != 0) = true := by rw [bne_iff_ne]; exact hc2
      simp only [hc2, if_false, e0]
      exact yes
  · simp only [hc, if_false, false_and]
    exact yes
end Go.Proofs.YtcpnmcbgcgkieaaDoor.P

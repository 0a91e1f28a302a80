/-
  Layer 3: the reference's Meet. No project text.
-/
import Derived.Test.YtcpnmcbgcgkieaaDoorRIn
import Derived.Test.YtcpnmcbgcgkieaaDoorPx7
namespace Go.Proofs.YtcpnmcbgcgkieaaDoor.P
open Go.RowKit Go.Proofs.YtcpnmcbgcgkieaaDoorW.PrintWords Go.Proofs.YtcpnmcbgcgkieaaDoor.Args
set_option linter.unusedVariables false
set_option linter.unusedSimpArgs false

def refmeetV (o : Option (List Bs × Bool)) : List ByteArray × Bool × Bool := match o with
  | some (o, r) => (Ss o, r, true)
  | none => ([], false, false)
theorem refmeetV_cons (acc : List Bs) (c : Bs) (b : Bool) (o : Option (List Bs)) : refmeetV ((o.map (c :: ·)).map fun o => (acc ++ o, b)) = refmeetV (o.map fun o => ((acc ++ [c]) ++ o, b)) := by
  cases o <;> simp [refmeetV]
theorem refmeet_loop_l0 (ps qs : List Bs) (r b' : Bool) (hl : ps.length ≤ 1048576) (hqp : qs.length ≤ ps.length) (hx : ∀ x ∈ ps, x.length ≤ 1048576) (hy : ∀ x ∈ qs, x.length ≤ 1048576) (hp : ∀ x ∈ ps, partB x = true) (hq : ∀ x ∈ qs, partB x = true) :
    ∀ (d i : Nat) (acc : List Bs), i + d = ps.length → acc.length ≤ i →
    Ev (fun k => stockyardref03_Meet.l0 k (qs.length : Int) (Ss ps) (ps.length : Int) (i : Int) (Ss qs) b' (Ss acc) r) (refmeetV ((meetL (qs.drop i) (ps.drop i)).map fun o => (acc ++ o, r))) := by
  intro d
  induction d with
  | zero =>
    intro i acc hi ha
    refine Ev.succ ?_
    have c1 : ¬ ((i : Int) < (ps.length : Int)) := by omega
    simp only [stockyardref03_Meet.l0, if_neg c1]
    rw [List.drop_of_length_le (by omega), List.drop_of_length_le (by omega), Ev.some_iff]
    simp [meetL, refmeetV]
  | succ d ih =>
    intro i acc hi ha
    have hlt : i < ps.length := by omega
    have c1 : (i : Int) < (ps.length : Int) := by omega
    have c2 : (0 : Int) ≤ (i : Int) := by omega
    have c3 : (i : Int) < ((Ss ps).length : Int) := by rw [Ss_length]; omega
    have c5 : (Ss acc).length < 8796093022208 := by rw [Ss_length]; omega
    have e : wrap64 ((i : Int) + 1) = ((i + 1 : Nat) : Int) := by rw [wrap64_id (by omega) (by omega)]; omega
    refine Ev.succ ?_
    simp only [stockyardref03_Meet.l0, if_pos c1, if_pos c2, if_pos c3]
    rw [rd_Ss ps i hlt, List.drop_eq_getElem_cons hlt]
    by_cases hge : qs.length ≤ i
    · have c4 : (i : Int) ≥ (qs.length : Int) := by omega
      simp only [if_pos c4]
      refine Ev.succ ?_
      simp only [stockyardref03_Meet.j3, if_true, if_pos c5, e, Ss_snoc]
      have h := ih (i + 1) (acc ++ [ps[i]]) (by omega) (by simp; omega)
      refine Ev.of_eq h ?_
      rw [List.drop_of_length_le (show qs.length ≤ i + 1 by omega), List.drop_of_length_le hge]
      simp [meetL, refmeetV]
    · have hlt2 : i < qs.length := by omega
      have c4 : ¬ (i : Int) ≥ (qs.length : Int) := by omega
      have c6 : (i : Int) < ((Ss qs).length : Int) := by rw [Ss_length]; omega
      simp only [if_neg c4, if_pos c6]
      have px := hp _ (List.getElem_mem hlt)
      have py := hq _ (List.getElem_mem hlt2)
      have sx := hx _ (List.getElem_mem hlt)
      have sy := hy _ (List.getElem_mem hlt2)
      rw [rd_Ss qs i hlt2, Ev.bind_iff (refinside_ev ps[i] qs[i] sx sy px py), List.drop_eq_getElem_cons hlt2]
      simp only [meetL]
      rw [narR_comm, narR_in]
      refine Ev.succ ?_
      by_cases h1 : inB ps[i] qs[i] = true
      · simp only [stockyardref03_Meet.j3, h1, if_true, if_pos c5, e, Ss_snoc]
        rw [refmeetV_cons]
        exact ih (i + 1) (acc ++ [ps[i]]) (by omega) (by simp; omega)
      · simp only [stockyardref03_Meet.j3, h1, if_false, if_pos c2, if_pos c6, Bool.false_eq_true]
        rw [rd_Ss qs i hlt2, Ev.bind_iff (refinside_ev qs[i] ps[i] sy sx py px)]
        by_cases h2 : inB qs[i] ps[i] = true
        · simp only [h2, if_true, if_pos c5, e, Ss_snoc]
          rw [refmeetV_cons]
          exact ih (i + 1) (acc ++ [qs[i]]) (by omega) (by simp; omega)
        · simp only [h2, if_false, Bool.false_eq_true]
          exact Ev.now _
theorem refmeet_mid_l0 (ps qs : List Bs) (b b' : Bool) (hl : ps.length ≤ 1048576) (hqp : qs.length ≤ ps.length) (hx : ∀ x ∈ ps, x.length ≤ 1048576) (hy : ∀ x ∈ qs, x.length ≤ 1048576) (hp : ∀ x ∈ ps, partB x = true) (hq : ∀ x ∈ qs, partB x = true) :
    Ev (fun k => if ((Ss ps).length : Int) > ((Ss qs).length : Int) then (if b' = true then (if ((Ss ps).length : Int) = ((Ss qs).length : Int) then stockyardref03_Meet.j1 k ((Ss qs).length : Int) (b != b') (Ss ps) b (Ss qs) b' else stockyardref03_Meet.j1 k ((Ss qs).length : Int) false (Ss ps) b (Ss qs) b') else stockyardref03_Meet.j1 k ((Ss qs).length : Int) true (Ss ps) b (Ss qs) b') else (if ((Ss ps).length : Int) = ((Ss qs).length : Int) then stockyardref03_Meet.j1 k ((Ss qs).length : Int) (b != b') (Ss ps) b (Ss qs) b' else stockyardref03_Meet.j1 k ((Ss qs).length : Int) false (Ss ps) b (Ss qs) b')) (refmeetV (meet1 qs b' ps b)) := by
  have go : Ev (fun k => stockyardref03_Meet.j1 k ((Ss qs).length : Int) false (Ss ps) b (Ss qs) b') (refmeetV ((meetL qs ps).map fun o => (o, b))) := by
    refine Ev.succ ?_
    simp only [stockyardref03_Meet.j1, Bool.false_eq_true, if_false, Ss_length]
    exact refmeet_loop_l0 ps qs b b' hl hqp hx hy hp hq ps.length 0 [] (by omega) (by simp)
  have yes : Ev (fun k => stockyardref03_Meet.j1 k ((Ss qs).length : Int) true (Ss ps) b (Ss qs) b') ([], false, false) := by
    refine Ev.succ ?_
    simp only [stockyardref03_Meet.j1, if_true]
    exact Ev.now _
  unfold meet1
  rw [Ss_length, Ss_length] at *
  by_cases hlt : qs.length < ps.length
  · have c1 : (ps.length : Int) > (qs.length : Int) := by omega
    have c2 : ¬ (ps.length : Int) = (qs.length : Int) := by omega
    have ne : ¬ qs.length = ps.length := by omega
    simp only [if_pos c1, if_neg c2]
    cases b'
    · rw [if_pos (.inl ⟨hlt, rfl⟩)]
      simp only [Bool.false_eq_true, if_false]
      exact yes
    · rw [if_neg (by
        rintro (⟨_, h⟩ | ⟨h, _⟩)
        · cases h
        · exact ne h)]
      simp only [if_true]
      exact go
  · have c1 : ¬ (ps.length : Int) > (qs.length : Int) := by omega
    have c2 : (ps.length : Int) = (qs.length : Int) := by omega
    have he : qs.length = ps.length := by omega
    simp only [if_neg c1, if_pos c2]
    by_cases hb : b' = b
    · have e : (b != b') = false := by rw [hb]; simp
      rw [if_neg (by
        rintro (⟨h, _⟩ | ⟨_, h⟩)
        · exact hlt h
        · exact h hb)]
      simp only [e]
      exact go
    · have e : (b != b') = true := by rw [bne_iff_ne]; exact fun h => hb h.symm
      rw [if_pos (.inr ⟨he, hb⟩)]
      simp only [e]
      exact yes
theorem refmeet_loop_l100 (ps qs : List Bs) (r b' : Bool) (hl : ps.length ≤ 1048576) (hqp : qs.length ≤ ps.length) (hx : ∀ x ∈ ps, x.length ≤ 1048576) (hy : ∀ x ∈ qs, x.length ≤ 1048576) (hp : ∀ x ∈ ps, partB x = true) (hq : ∀ x ∈ qs, partB x = true) :
    ∀ (d i : Nat) (acc : List Bs), i + d = ps.length → acc.length ≤ i →
    Ev (fun k => stockyardref03_Meet.l100 k (qs.length : Int) (Ss ps) (ps.length : Int) (i : Int) (Ss qs) b' (Ss acc) r) (refmeetV ((meetL (qs.drop i) (ps.drop i)).map fun o => (acc ++ o, r))) := by
  intro d
  induction d with
  | zero =>
    intro i acc hi ha
    refine Ev.succ ?_
    have c1 : ¬ ((i : Int) < (ps.length : Int)) := by omega
    simp only [stockyardref03_Meet.l100, if_neg c1]
    rw [List.drop_of_length_le (by omega), List.drop_of_length_le (by omega), Ev.some_iff]
    simp [meetL, refmeetV]
  | succ d ih =>
    intro i acc hi ha
    have hlt : i < ps.length := by omega
    have c1 : (i : Int) < (ps.length : Int) := by omega
    have c2 : (0 : Int) ≤ (i : Int) := by omega
    have c3 : (i : Int) < ((Ss ps).length : Int) := by rw [Ss_length]; omega
    have c5 : (Ss acc).length < 8796093022208 := by rw [Ss_length]; omega
    have e : wrap64 ((i : Int) + 1) = ((i + 1 : Nat) : Int) := by rw [wrap64_id (by omega) (by omega)]; omega
    refine Ev.succ ?_
    simp only [stockyardref03_Meet.l100, if_pos c1, if_pos c2, if_pos c3]
    rw [rd_Ss ps i hlt, List.drop_eq_getElem_cons hlt]
    by_cases hge : qs.length ≤ i
    · have c4 : (i : Int) ≥ (qs.length : Int) := by omega
      simp only [if_pos c4]
      refine Ev.succ ?_
      simp only [stockyardref03_Meet.j6, if_true, if_pos c5, e, Ss_snoc]
      have h := ih (i + 1) (acc ++ [ps[i]]) (by omega) (by simp; omega)
      refine Ev.of_eq h ?_
      rw [List.drop_of_length_le (show qs.length ≤ i + 1 by omega), List.drop_of_length_le hge]
      simp [meetL, refmeetV]
    · have hlt2 : i < qs.length := by omega
      have c4 : ¬ (i : Int) ≥ (qs.length : Int) := by omega
      have c6 : (i : Int) < ((Ss qs).length : Int) := by rw [Ss_length]; omega
      simp only [if_neg c4, if_pos c6]
      have px := hp _ (List.getElem_mem hlt)
      have py := hq _ (List.getElem_mem hlt2)
      have sx := hx _ (List.getElem_mem hlt)
      have sy := hy _ (List.getElem_mem hlt2)
      rw [rd_Ss qs i hlt2, Ev.bind_iff (refinside_ev ps[i] qs[i] sx sy px py), List.drop_eq_getElem_cons hlt2]
      simp only [meetL]
      rw [narR_comm, narR_in]
      refine Ev.succ ?_
      by_cases h1 : inB ps[i] qs[i] = true
      · simp only [stockyardref03_Meet.j6, h1, if_true, if_pos c5, e, Ss_snoc]
        rw [refmeetV_cons]
        exact ih (i + 1) (acc ++ [ps[i]]) (by omega) (by simp; omega)
      · simp only [stockyardref03_Meet.j6, h1, if_false, if_pos c2, if_pos c6, Bool.false_eq_true]
        rw [rd_Ss qs i hlt2, Ev.bind_iff (refinside_ev qs[i] ps[i] sy sx py px)]
        by_cases h2 : inB qs[i] ps[i] = true
        · simp only [h2, if_true, if_pos c5, e, Ss_snoc]
          rw [refmeetV_cons]
          exact ih (i + 1) (acc ++ [qs[i]]) (by omega) (by simp; omega)
        · simp only [h2, if_false, Bool.false_eq_true]
          exact Ev.now _
theorem refmeet_mid_l100 (ps qs : List Bs) (b b' : Bool) (hl : ps.length ≤ 1048576) (hqp : qs.length ≤ ps.length) (hx : ∀ x ∈ ps, x.length ≤ 1048576) (hy : ∀ x ∈ qs, x.length ≤ 1048576) (hp : ∀ x ∈ ps, partB x = true) (hq : ∀ x ∈ qs, partB x = true) :
    Ev (fun k => if ((Ss ps).length : Int) > ((Ss qs).length : Int) then (if b' = true then (if ((Ss ps).length : Int) = ((Ss qs).length : Int) then stockyardref03_Meet.j4 k ((Ss qs).length : Int) (b != b') (Ss ps) b (Ss qs) b' else stockyardref03_Meet.j4 k ((Ss qs).length : Int) false (Ss ps) b (Ss qs) b') else stockyardref03_Meet.j4 k ((Ss qs).length : Int) true (Ss ps) b (Ss qs) b') else (if ((Ss ps).length : Int) = ((Ss qs).length : Int) then stockyardref03_Meet.j4 k ((Ss qs).length : Int) (b != b') (Ss ps) b (Ss qs) b' else stockyardref03_Meet.j4 k ((Ss qs).length : Int) false (Ss ps) b (Ss qs) b')) (refmeetV (meet1 qs b' ps b)) := by
  have go : Ev (fun k => stockyardref03_Meet.j4 k ((Ss qs).length : Int) false (Ss ps) b (Ss qs) b') (refmeetV ((meetL qs ps).map fun o => (o, b))) := by
    refine Ev.succ ?_
    simp only [stockyardref03_Meet.j4, Bool.false_eq_true, if_false, Ss_length]
    exact refmeet_loop_l100 ps qs b b' hl hqp hx hy hp hq ps.length 0 [] (by omega) (by simp)
  have yes : Ev (fun k => stockyardref03_Meet.j4 k ((Ss qs).length : Int) true (Ss ps) b (Ss qs) b') ([], false, false) := by
    refine Ev.succ ?_
    simp only [stockyardref03_Meet.j4, if_true]
    exact Ev.now _
  unfold meet1
  rw [Ss_length, Ss_length] at *
  by_cases hlt : qs.length < ps.length
  · have c1 : (ps.length : Int) > (qs.length : Int) := by omega
    have c2 : ¬ (ps.length : Int) = (qs.length : Int) := by omega
    have ne : ¬ qs.length = ps.length := by omega
    simp only [if_pos c1, if_neg c2]
    cases b'
    · rw [if_pos (.inl ⟨hlt, rfl⟩)]
      simp only [Bool.false_eq_true, if_false]
      exact yes
    · rw [if_neg (by
        rintro (⟨_, h⟩ | ⟨h, _⟩)
        · cases h
        · exact ne h)]
      simp only [if_true]
      exact go
  · have c1 : ¬ (ps.length : Int) > (qs.length : Int) := by omega
    have c2 : (ps.length : Int) = (qs.length : Int) := by omega
    have he : qs.length = ps.length := by omega
    simp only [if_neg c1, if_pos c2]
    by_cases hb : b' = b
    · have e : (b != b') = false := by rw [hb]; simp
      rw [if_neg (by
        rintro (⟨h, _⟩ | ⟨_, h⟩)
        · exact hlt h
        · exact h hb)]
      simp only [e]
      exact go
    · have e : (b != b') = true := by rw [bne_iff_ne]; exact fun h => hb h.symm
      rw [if_pos (.inr ⟨he, hb⟩)]
      simp only [e]
      exact yes
theorem refmeet_ev (ps qs : List Bs) (b b' : Bool) (h1 : ps.length ≤ 1048576) (h2 : qs.length ≤ 1048576) (hx : ∀ x ∈ ps, x.length ≤ 1048576) (hy : ∀ x ∈ qs, x.length ≤ 1048576) :
    Ev (fun k => stockyardref03_Meet.f k (Ss ps) b (Ss qs) b') (refmeetV (meetP ps b qs b')) := by
  have yes : Ev (fun k => stockyardref03_Meet.j0 k true (Ss ps) b (Ss qs) b') ([], false, false) := by
    refine Ev.succ ?_
    simp only [stockyardref03_Meet.j0, if_true]
    exact Ev.now _
  simp only [stockyardref03_Meet.f]
  rw [Ev.bind_iff (refcheck_ev ps b h1 hx)]
  unfold meetP
  by_cases hc : checkI ps b = 0
  · simp only [hc, if_true, true_and]
    rw [Ev.bind_iff (refcheck_ev qs b' h2 hy)]
    by_cases hc2 : checkI qs b' = 0
    · have p1 := (check_ok hc).2.2.1
      have p2 := (check_ok hc2).2.2.1
      have e0 : ((0 : Int) != 0) = false := by decide
      simp only [hc2, if_true, e0]
      refine Ev.succ ?_
      simp only [stockyardref03_Meet.j0, Bool.false_eq_true, if_false]
      by_cases hlt : ps.length < qs.length
      · have c1 : ((Ss ps).length : Int) < ((Ss qs).length : Int) := by rw [Ss_length, Ss_length]; omega
        have c2 : ¬ qs.length < ps.length := by omega
        simp only [if_pos c1, if_neg c2]
        have h := refmeet_mid_l0 qs ps b' b h2 (by omega) hy hx p2 p1
        simp only [if_pos (show ((Ss qs).length : Int) > ((Ss ps).length : Int) from c1)] at h
        exact h
      · have c1 : ¬ ((Ss ps).length : Int) < ((Ss qs).length : Int) := by rw [Ss_length, Ss_length]; omega
        have h := refmeet_mid_l100 ps qs b b' h1 (by omega) hx hy p1 p2
        simp only [if_neg c1]
        by_cases hlt2 : qs.length < ps.length
        · simp only [if_pos hlt2]
          exact h
        · simp only [if_neg hlt2]
          rw [meet1_comm (by omega)]
          exact h
    · have e0 : (checkI qs b' != 0) = true := by rw [bne_iff_ne]; exact hc2
      simp only [hc2, if_false, e0]
      exact yes
  · simp only [hc, if_false, false_and]
    exact yes
end Go.Proofs.YtcpnmcbgcgkieaaDoor.P

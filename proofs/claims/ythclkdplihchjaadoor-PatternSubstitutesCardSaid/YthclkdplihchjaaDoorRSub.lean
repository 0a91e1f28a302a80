/-
  Layer 3: what the reference's Substitute comes to. No project text.
-/
import Derived.Test.YthclkdplihchjaaDoorSub
import Derived.Test.YthclkdplihchjaaDoorRKinds
import Derived.Test.YthclkdplihchjaaDoorPx10
import Derived.Test.YthclkdplihchjaaDoorPx5
namespace Go.Proofs.YthclkdplihchjaaDoor.P
open Go.RowKit Go.Proofs.YthclkdplihchjaaDoorW.PrintWords Go.Proofs.YthclkdplihchjaaDoor.Args
set_option linter.unusedVariables false
set_option linter.unusedSimpArgs false

theorem wildN_ev (ps : List Bs) (b : Bool) (hl : ps.length ≤ 1048576) (hx : ∀ x ∈ ps, x.length ≤ 1048576) : Ev (fun k => stockyardref03_wildcards.f k (Ss ps) b) ((starsN ps + oneN b : Nat) : Int) := by
  simp only [stockyardref03_wildcards.f]
  rw [Ev.bind_iff (refkinds_ev ps b hl hx)]
  have hs := starsN_le ps
  cases b
  · simp only [Bool.false_eq_true, if_false]
    refine Ev.of_eq (Ev.now _) ?_
    simp [oneN]
  · simp only [if_true]
    refine Ev.of_eq (Ev.now _) ?_
    rw [wrap64_id (by omega) (by omega)]
    simp [oneN]
theorem refsub_rest (acc qs : List Bs) (f : Bool) (ha : acc.length ≤ 1048576) (hl : qs.length ≤ 1048576) (hx : ∀ x ∈ qs, x.length ≤ 1048576) : ∀ (d i : Nat), i + d = qs.length →
    Ev (fun k => stockyardref03_Substitute.l1 k (Ss qs) (qs.length : Int) (i : Int) (Ss acc) false (Ss qs) f) (if (qs.drop i).all partB = true then endS true acc [(qs, f)] else ([], false, 33)) := by
  intro d
  induction d with
  | zero =>
    intro i hi
    refine Ev.succ ?_
    have c1 : ¬ ((i : Int) < (qs.length : Int)) := by omega
    have c3 : acc.length + qs.length < 8796093022208 := by omega
    simp only [stockyardref03_Substitute.l1, if_neg c1, Ss_length, if_pos c3, Option.bind_some, Ss_append]
    rw [List.drop_of_length_le (by omega), List.all_nil, if_pos rfl]
    simp only [endS, if_true, List.headD_cons]
    by_cases h : 12 < (acc ++ qs).length
    · have h' : ((acc ++ qs).length : Int) > 12 := by omega
      simp only [h, h', if_true]
      exact Ev.now _
    · have h' : ¬ ((acc ++ qs).length : Int) > 12 := by omega
      simp only [h, h', if_false]
      exact Ev.now _
  | succ d ih =>
    intro i hi
    have hlt : i < qs.length := by omega
    have c1 : (i : Int) < (qs.length : Int) := by omega
    have c2 : (0 : Int) ≤ (i : Int) := by omega
    have e : wrap64 ((i : Int) + 1) = ((i + 1 : Nat) : Int) := by rw [wrap64_id (by omega) (by omega)]; omega
    refine Ev.succ ?_
    simp only [stockyardref03_Substitute.l1, Ss_length, if_pos c1, if_pos c2, e]
    rw [rd_Ss qs i hlt, Ev.bind_iff (refpart_ev _ (by rw [size_S]; exact hx _ (List.getElem_mem hlt))), L_S, List.drop_eq_getElem_cons hlt, List.all_cons]
    by_cases hp : partB qs[i] = true
    · simp only [hp, if_true, Bool.true_and]
      exact ih (i + 1) (by omega)
    · simp only [Bool.not_eq_true] at hp
      simp only [hp, Bool.false_and, Bool.false_eq_true, if_false]
      exact Ev.now _
theorem refsub_loop (ps : List Bs) (b : Bool) (l : List (List Bs × Bool)) (hl : ps.length ≤ 1048576) (hx : ∀ x ∈ ps, x.length ≤ 1048576) (hll : l.length ≤ 1048576) (hb : ∀ x ∈ l, x.1.length ≤ 1048576 ∧ ∀ y ∈ x.1, y.length ≤ 1048576) : ∀ (d i j : Nat) (acc : List Bs), i + d = ps.length → acc.length ≤ i →
    j + (starsN (ps.drop i) + oneN b) = l.length →
    Ev (fun k => stockyardref03_Substitute.l0 k (Bnd l) (j : Int) (Ss ps) (ps.length : Int) (i : Int) (Ss ps) b (Ss acc) false) (if fitL (starsN (ps.drop i)) (l.drop j) = true then endS b (acc ++ (subL (ps.drop i) (l.drop j)).1) (subL (ps.drop i) (l.drop j)).2 else ([], false, 33)) := by
  intro d
  induction d with
  | zero =>
    intro i j acc hi ha hlen
    refine Ev.succ ?_
    have c1 : ¬ ((i : Int) < (ps.length : Int)) := by omega
    simp only [stockyardref03_Substitute.l0, if_neg c1, Bnd_length, Ss_length]
    rw [List.drop_of_length_le (by omega : ps.length ≤ i)] at hlen ⊢
    simp only [subL, List.append_nil]
    have h0 : starsN [] = 0 := rfl
    rw [h0] at hlen ⊢
    cases b
    · have hj : l.drop j = [] := List.drop_of_length_le (by simp [oneN] at hlen; omega)
      rw [hj]
      simp only [fitL, if_true, Bool.false_eq_true, if_false, endS]
      by_cases h : 12 < acc.length
      · have h' : (acc.length : Int) > 12 := by omega
        simp only [h, h', if_true]
        exact Ev.now _
      · have h' : ¬ (acc.length : Int) > 12 := by omega
        simp only [h, h', if_false]
        exact Ev.now _
    · have hlt : j < l.length := by simp [oneN] at hlen; omega
      have hj : l.drop j = [l[j]] := by
        rw [List.drop_eq_getElem_cons hlt, List.drop_of_length_le (by simp [oneN] at hlen; omega)]
      have hbx := hb _ (List.getElem_mem hlt)
      rw [hj]
      have c2 : (0 : Int) ≤ (j : Int) := by omega
      have c3 : (j : Int) < (l.length : Int) := by omega
      simp only [if_true, if_pos c2, if_pos c3]
      rw [rd_Bnd l j hlt]
      simp only [mkB, Ss_length, fitL, okB, if_true, List.all_nil, Bool.and_true]
      have yes : Ev (fun k => stockyardref03_Substitute.j1 k true (Ss acc) false (Ss l[j].1) l[j].2) ([], false, 33) := by
        refine Ev.succ ?_
        simp only [stockyardref03_Substitute.j1, if_true]
        exact Ev.now _
      have no : Ev (fun k => stockyardref03_Substitute.j1 k false (Ss acc) false (Ss l[j].1) l[j].2) (if l[j].1.all partB = true then endS true acc [(l[j].1, l[j].2)] else ([], false, 33)) := by
        refine Ev.succ ?_
        simp only [stockyardref03_Substitute.j1, Bool.false_eq_true, if_false, Ss_length]
        have := refsub_rest acc l[j].1 l[j].2 (by omega) hbx.1 hbx.2 l[j].1.length 0 (by omega)
        rw [List.drop_zero] at this
        exact this
      by_cases hz : l[j].1.length = 0
      · have hz' : (l[j].1.length : Int) = 0 := by omega
        simp only [if_pos hz']
        cases h2 : l[j].2
        · rw [h2] at yes
          have : decide (0 < l[j].1.length) = false := by rw [hz]; rfl
          simp only [Bool.not_false, Bool.false_or, this, Bool.and_false, Bool.false_eq_true, if_false]
          exact yes
        · rw [h2] at no
          simp only [Bool.not_true, Bool.true_or, Bool.and_true]
          refine Ev.of_eq no ?_
          have : l[j] = (l[j].1, true) := by rw [← h2]
          rw [← this]
      · have hz' : ¬ (l[j].1.length : Int) = 0 := by omega
        have : decide (0 < l[j].1.length) = true := by rw [decide_eq_true_eq]; omega
        simp only [if_neg hz', this, Bool.or_true, Bool.and_true]
        exact no
  | succ d ih =>
    intro i j acc hi ha hlen
    have hlt : i < ps.length := by omega
    have c1 : (i : Int) < (ps.length : Int) := by omega
    have c2 : (0 : Int) ≤ (i : Int) := by omega
    have e : wrap64 ((i : Int) + 1) = ((i + 1 : Nat) : Int) := by rw [wrap64_id (by omega) (by omega)]; omega
    have lx := hx _ (List.getElem_mem hlt)
    have c5 : acc.length < 8796093022208 := by omega
    refine Ev.succ ?_
    simp only [stockyardref03_Substitute.l0, Ss_length, Bnd_length, if_pos c1, if_pos c2, e]
    rw [rd_Ss ps i hlt, Ev.bind_iff (refstar_ev _ (by rw [size_S]; exact lx)), L_S]
    rw [List.drop_eq_getElem_cons hlt, starsN_cons] at hlen
    rw [List.drop_eq_getElem_cons hlt, starsN_cons]
    simp only [subL]
    cases hs : starL ps[i] with
    | none =>
      rw [hs] at hlen
      simp only [Option.isSome_none, Bool.false_eq_true, if_false, Nat.add_zero] at hlen
      simp only [strR, Option.isSome_none, Bool.false_eq_true, if_false, Nat.add_zero, if_pos c5, Ss_snoc]
      refine Ev.of_eq (ih (i + 1) j (acc ++ [ps[i]]) (by omega) (by simp; omega) hlen) ?_
      simp
    | some s =>
      rw [hs] at hlen
      simp only [Option.isSome_some, if_true] at hlen
      have hjl : j < l.length := by omega
      have c3 : (0 : Int) ≤ (j : Int) := by omega
      have c4 : (j : Int) < (l.length : Int) := by omega
      have hbx := hb _ (List.getElem_mem hjl)
      have ej : wrap64 ((j : Int) + 1) = ((j + 1 : Nat) : Int) := by rw [wrap64_id (by omega) (by omega)]; omega
      rw [List.drop_eq_getElem_cons hjl]
      simp only [strR, if_true, if_pos c3, if_pos c4, Option.isSome_some, fitL]
      rw [rd_Bnd l j hjl]
      simp only [mkB, Ss_length, okB, Bool.false_eq_true, if_false]
      by_cases h1 : l[j].1.length = 1
      · have h1' : (l[j].1.length : Int) = 1 := by omega
        obtain ⟨y, hy⟩ := List.length_eq_one_iff.1 h1
        have ly : y.length ≤ 1048576 := hbx.2 y (by rw [hy]; simp)
        have ls := starL_len hs
        simp only [h1, if_pos (show ((1 : Nat) : Int) = 1 from rfl), if_pos (show (0 : Int) < ((1 : Nat) : Int) by decide), decide_true, Bool.true_and]
        cases h2 : l[j].2
        · have d2 : (0 : Int) < (l[j].1.length : Int) := by omega
          have d3 : rdOf ByteArray.empty (Ss l[j].1) 0 = S y := by rw [hy]; rfl
          have d4 : (S y).size + (S s).size ≤ 9223372036854775807 := by rw [size_S, size_S]; omega
          have d7 : l[j].1.all partB = partB y := by rw [hy]; simp
          simp only [Bool.false_eq_true, if_false, if_pos (show (0 : Int) < ((1 : Nat) : Int) by decide), d3, d7, Bool.not_false, Bool.and_true]
          rw [Ev.bind_iff (refpart_ev _ (by rw [size_S]; exact ly)), L_S]
          by_cases hp : partB y = true
          · simp only [hp, if_true, if_pos d4, if_pos c5, Bool.true_and, append_S, L_S, Ss_snoc, ej]
            refine Ev.of_eq (ih (i + 1) (j + 1) (acc ++ [y ++ s]) (by omega) (by simp; omega) (by omega)) ?_
            simp [hy]
          · simp only [Bool.not_eq_true] at hp
            simp only [hp, Bool.false_and, Bool.false_eq_true, if_false]
            exact Ev.now _
        · simp only [if_true, Bool.not_true, Bool.and_false, Bool.false_and, Bool.false_eq_true, if_false]
          exact Ev.now _
      · have h1' : ¬ (l[j].1.length : Int) = 1 := by omega
        simp only [if_neg h1', h1, decide_false, Bool.false_and, Bool.and_false, Bool.false_eq_true, if_false]
        exact Ev.now _
theorem refsub_ev (ps : List Bs) (b : Bool) (l : List (List Bs × Bool)) (hl : ps.length ≤ 1048576) (hx : ∀ x ∈ ps, x.length ≤ 1048576) (hll : l.length ≤ 1048576) (hb : ∀ x ∈ l, x.1.length ≤ 1048576 ∧ ∀ y ∈ x.1, y.length ≤ 1048576) :
    Ev (fun k => stockyardref03_Substitute.f k (Ss ps) b (Bnd l)) (subR ps b l) := by
  simp only [stockyardref03_Substitute.f]
  rw [Ev.bind_iff (refcheck_ev ps b hl hx)]
  unfold subR
  by_cases hc : checkI ps b = 0
  · simp only [hc, if_true]
    rw [Ev.bind_iff (wildN_ev ps b hl hx)]
    simp only [Bnd_length, Ss_length]
    by_cases hlen : l.length = starsN ps + oneN b
    · have h' : (l.length : Int) = ((starsN ps + oneN b : Nat) : Int) := by omega
      rw [if_pos hlen]
      simp only [if_pos h']
      have := refsub_loop ps b l hl hx hll hb ps.length 0 0 [] (by omega) (by simp) (by rw [List.drop_zero]; omega)
      rw [List.drop_zero, List.drop_zero, List.nil_append] at this
      exact this
    · have h' : ¬ (l.length : Int) = ((starsN ps + oneN b : Nat) : Int) := by omega
      rw [if_neg hlen]
      simp only [if_neg h']
      exact Ev.now _
  · simp only [hc, if_false]
    exact Ev.now _
end Go.Proofs.YthclkdplihchjaaDoor.P

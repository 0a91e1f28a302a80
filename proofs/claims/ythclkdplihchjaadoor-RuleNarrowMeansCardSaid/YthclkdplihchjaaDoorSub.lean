/-
  Layer 3: what Substitute comes to, in the program. No project text.
-/
import Derived.Test.YthclkdplihchjaaDoorPatB
import Derived.Test.YthclkdplihchjaaDoorKinds
import Derived.Test.YthclkdplihchjaaDoorPx7
namespace Go.Proofs.YthclkdplihchjaaDoor.P
open Go.RowKit Go.Proofs.YthclkdplihchjaaDoorW.PrintWords Go.Proofs.YthclkdplihchjaaDoor.Args
set_option linter.unusedVariables false
set_option linter.unusedSimpArgs false

def oneN (b : Bool) : Nat := if b = true then 1 else 0
/-- Whether a binding fits a wildcard: the rest's, or one of a part. -/
def okB (r : Bool) (x : List Bs × Bool) : Bool := x.1.all partB && (if r = true then (x.2 || decide (0 < x.1.length)) else (decide (x.1.length = 1) && !x.2))
def fitL : Nat → List (List Bs × Bool) → Bool
  | _, [] => true
  | 0, x :: l => okB true x && l.all (okB false)
  | n + 1, x :: l => okB false x && fitL n l
/-- The parts with their bindings, and the bindings that are left. -/
def subL : List Bs → List (List Bs × Bool) → List Bs × List (List Bs × Bool)
  | [], l => ([], l)
  | p :: ps, l => match starL p with
    | none => (p :: (subL ps l).1, (subL ps l).2)
    | some s => match l with
      | [] => (p :: (subL ps []).1, [])
      | x :: l => ((x.1.headD [] ++ s) :: (subL ps l).1, (subL ps l).2)
def endS (b : Bool) (acc : List Bs) (r : List (List Bs × Bool)) : List ByteArray × Bool × Int :=
  if b = true then (if 12 < (acc ++ (r.headD ([], false)).1).length then ([], false, 31) else (Ss (acc ++ (r.headD ([], false)).1), (r.headD ([], false)).2, 0))
  else (if 12 < acc.length then ([], false, 31) else (Ss acc, false, 0))
def subR (ps : List Bs) (b : Bool) (l : List (List Bs × Bool)) : List ByteArray × Bool × Int :=
  if checkI ps b = 0 then (if l.length = starsN ps + oneN b then (if fitL (starsN ps) l = true then endS b (subL ps l).1 (subL ps l).2 else ([], false, 33)) else ([], false, 33)) else ([], false, checkI ps b)
theorem starsN_cons (p : Bs) (ps : List Bs) : starsN (p :: ps) = starsN ps + if (starL p).isSome = true then 1 else 0 := by simp [starsN, List.countP_cons]
theorem starsN_le (ps : List Bs) : starsN ps ≤ ps.length := List.countP_le_length
theorem formS_of {x : Bs} (h : partB x = true) : formR x = match starL x with | some r => (2, S r) | none => (1, S []) := by
  unfold formR
  cases hs : starL x with
  | some r => rfl
  | none =>
    have hc : compL x = true := by
      unfold partB at h
      rw [hs] at h
      simpa using h
    simp [hc]
theorem rd_Bnd (l : List (List Bs × Bool)) (i : Nat) (h : i < l.length) : rd_T28 (Bnd l) (i : Int) = mkB (l[i]).1 (l[i]).2 := by
  unfold rd_T28 Bnd
  rw [Int.toNat_natCast, List.getD_eq_getElem?_getD, List.getElem?_eq_getElem (by simpa using h)]
  simp
theorem Bnd_drop (l : List (List Bs × Bool)) (n : Nat) : (Bnd l).drop n = Bnd (l.drop n) := by simp [Bnd]
theorem starL_len {p s : Bs} (h : starL p = some s) : s.length ≤ p.length := by rw [star_some h, List.length_cons]; omega
theorem fits_loop (qs : List Bs) (r c : Bool) (hl : qs.length ≤ 1048576) (hx : ∀ x ∈ qs, x.length ≤ 1048576) : ∀ (d i : Nat), i + d = qs.length →
    Ev (fun k => pattern_fits.l0 k r (Ss qs) (qs.length : Int) (i : Int) (Ss qs) c) ((qs.drop i).all partB && (if r = true then (c || decide (0 < qs.length)) else (decide (qs.length = 1) && !c))) := by
  intro d
  induction d with
  | zero =>
    intro i hi
    refine Ev.succ ?_
    have c1 : ¬ ((i : Int) < (qs.length : Int)) := by omega
    simp only [pattern_fits.l0, if_neg c1, Ss_length]
    rw [List.drop_of_length_le (by omega)]
    cases r
    · simp only [Bool.false_eq_true, if_false, List.all_nil, Bool.true_and]
      by_cases h : qs.length = 1
      · have h' : (qs.length : Int) = 1 := by omega
        simp only [h', if_true, h, decide_true, Bool.true_and]
        exact Ev.now _
      · have h' : ¬ (qs.length : Int) = 1 := by omega
        simp only [h', if_false, h, decide_false, Bool.false_and]
        exact Ev.now _
    · simp only [if_true, List.all_nil, Bool.true_and]
      cases c
      · have e : decide ((qs.length : Int) > 0) = decide (0 < qs.length) := decide_eq_decide.2 (by omega)
        simp only [Bool.false_eq_true, if_false, Bool.false_or, e]
        exact Ev.now _
      · simp only [if_true, Bool.true_or]
        exact Ev.now _
  | succ d ih =>
    intro i hi
    have hlt : i < qs.length := by omega
    have c1 : (i : Int) < (qs.length : Int) := by omega
    have c2 : (0 : Int) ≤ (i : Int) := by omega
    have e : wrap64 ((i : Int) + 1) = ((i + 1 : Nat) : Int) := by rw [wrap64_id (by omega) (by omega)]; omega
    refine Ev.succ ?_
    simp only [pattern_fits.l0, Ss_length, if_pos c1, if_pos c2, e]
    rw [rd_Ss qs i hlt, Ev.bind_iff (form_ev _ (by rw [size_S]; exact hx _ (List.getElem_mem hlt))), L_S, List.drop_eq_getElem_cons hlt, List.all_cons]
    by_cases hp : partB qs[i] = true
    · have h0 : ¬ (formR qs[i]).1 = 0 := by rw [form_none]; simp [hp]
      simp only [h0, if_false, hp, Bool.true_and]
      exact ih (i + 1) (by omega)
    · simp only [Bool.not_eq_true] at hp
      simp only [form_none.2 hp, if_true, hp, Bool.false_and]
      exact Ev.now _
theorem fits_ev (qs : List Bs) (c r : Bool) (hl : qs.length ≤ 1048576) (hx : ∀ x ∈ qs, x.length ≤ 1048576) : Ev (fun k => pattern_fits.f k (Ss qs) c r) (okB r (qs, c)) := by
  simp only [pattern_fits.f, Ss_length]
  have := fits_loop qs r c hl hx qs.length 0 (by omega)
  rw [List.drop_zero] at this
  exact this
theorem sub_fit (ps : List Bs) (b : Bool) (l : List (List Bs × Bool)) (n : Nat) (hl : l.length ≤ n + 1) (hn : n ≤ 1048576) (hb : ∀ x ∈ l, x.1.length ≤ 1048576 ∧ ∀ y ∈ x.1, y.length ≤ 1048576)
    (R : List ByteArray × Bool × Int) : ∀ (d i : Nat), i + d = l.length → (fitL (n - i) (l.drop i) = true → Ev (fun k => pattern_Substitute.l1 k (Bnd l) b (Ss ps) (ps.length : Int) 0 [] false) R) →
    Ev (fun k => pattern_Substitute.l0 k (Bnd l) (n : Int) b (Bnd l) (l.length : Int) (i : Int) (Ss ps) b) (if fitL (n - i) (l.drop i) = true then R else ([], false, 33)) := by
  intro d
  induction d with
  | zero =>
    intro i hi hR
    refine Ev.succ ?_
    have c1 : ¬ ((i : Int) < (l.length : Int)) := by omega
    rw [List.drop_of_length_le (by omega)] at hR ⊢
    have hf : fitL (n - i) [] = true := by cases n - i <;> rfl
    rw [if_pos hf]
    simp only [pattern_Substitute.l0, if_neg c1, Ss_length]
    exact hR hf
  | succ d ih =>
    intro i hi hR
    have hlt : i < l.length := by omega
    have c1 : (i : Int) < (l.length : Int) := by omega
    have c2 : (0 : Int) ≤ (i : Int) := by omega
    have e : wrap64 ((i : Int) + 1) = ((i + 1 : Nat) : Int) := by rw [wrap64_id (by omega) (by omega)]; omega
    have hbi := hb _ (List.getElem_mem hlt)
    refine Ev.succ ?_
    simp only [pattern_Substitute.l0, Bnd_length, if_pos c1, if_pos c2, e]
    rw [rd_Bnd l i hlt]
    have e2 : ((i : Int) == (n : Int)) = decide (i = n) := by
      by_cases h : i = n
      · simp [h]
      · have : ¬ (i : Int) = (n : Int) := by omega
        simp [h, this]
    rw [e2]
    simp only [mkB]
    rw [Ev.bind_iff (fits_ev _ _ _ hbi.1 hbi.2)]
    rw [List.drop_eq_getElem_cons hlt] at hR ⊢
    have hstep : fitL (n - i) (l[i] :: l.drop (i + 1)) = (okB (decide (i = n)) l[i] && fitL (n - (i + 1)) (l.drop (i + 1))) := by
      by_cases h : i = n
      · subst h
        have e0 : l.drop (i + 1) = [] := List.drop_of_length_le (by omega)
        simp [fitL, e0]
      · obtain ⟨m, hm⟩ : ∃ m, n - i = m + 1 := ⟨n - i - 1, by omega⟩
        have hm2 : n - (i + 1) = m := by omega
        rw [hm, hm2]
        simp [fitL, h]
    rw [hstep] at hR ⊢
    by_cases hk : okB (decide (i = n)) l[i] = true
    · simp only [hk, Bool.true_and, if_true] at hR ⊢
      exact ih (i + 1) (by omega) hR
    · simp only [Bool.not_eq_true] at hk
      simp only [hk, Bool.false_and, Bool.false_eq_true, if_false]
      exact Ev.now _
theorem sub_loop (ps : List Bs) (b : Bool) (hl : ps.length ≤ 1048576) (hx : ∀ x ∈ ps, x.length ≤ 1048576) (hp : ∀ x ∈ ps, partB x = true) : ∀ (d i : Nat) (acc : List Bs) (l : List (List Bs × Bool)), i + d = ps.length → acc.length ≤ i →
    l.length = starsN (ps.drop i) + oneN b → (∀ x ∈ l, x.1.length ≤ 1048576 ∧ ∀ y ∈ x.1, y.length ≤ 1048576) → fitL (starsN (ps.drop i)) l = true →
    Ev (fun k => pattern_Substitute.l1 k (Bnd l) b (Ss ps) (ps.length : Int) (i : Int) (Ss acc) false) (endS b (acc ++ (subL (ps.drop i) l).1) (subL (ps.drop i) l).2) := by
  intro d
  induction d with
  | zero =>
    intro i acc l hi ha hlen hb hf
    refine Ev.succ ?_
    have c1 : ¬ ((i : Int) < (ps.length : Int)) := by omega
    simp only [pattern_Substitute.l1, if_neg c1, Bnd_length, Ss_length]
    rw [List.drop_of_length_le (by omega)] at hlen ⊢
    simp only [subL, List.append_nil]
    cases b
    · simp only [Bool.false_eq_true, if_false, endS]
      by_cases h : 12 < acc.length
      · have h' : (acc.length : Int) > 12 := by omega
        simp only [h, h', if_true]
        exact Ev.now _
      · have h' : ¬ (acc.length : Int) > 12 := by omega
        simp only [h, h', if_false]
        exact Ev.now _
    · have h1 : l.length = 1 := by simpa [starsN, oneN] using hlen
      obtain ⟨x, rfl⟩ := List.length_eq_one_iff.1 h1
      have hbx := hb x (by simp)
      have c2 : (0 : Int) < (([x] : List (List Bs × Bool)).length : Int) := by simp
      have er : rd_T28 (Bnd [x]) 0 = mkB x.1 x.2 := rfl
      have c3 : acc.length + x.1.length < 8796093022208 := by have := hbx.1; omega
      simp only [if_true, if_pos c2, er, mkB, Option.bind_some, Ss_append, Ss_length, if_pos c3, endS, List.headD_cons]
      by_cases h : 12 < (acc ++ x.1).length
      · have h' : ((acc ++ x.1).length : Int) > 12 := by omega
        simp only [h, h', if_true]
        exact Ev.now _
      · have h' : ¬ ((acc ++ x.1).length : Int) > 12 := by omega
        simp only [h, h', if_false]
        exact Ev.now _
  | succ d ih =>
    intro i acc l hi ha hlen hb hf
    have hlt : i < ps.length := by omega
    have c1 : (i : Int) < (ps.length : Int) := by omega
    have c2 : (0 : Int) ≤ (i : Int) := by omega
    have e : wrap64 ((i : Int) + 1) = ((i + 1 : Nat) : Int) := by rw [wrap64_id (by omega) (by omega)]; omega
    have lx := hx _ (List.getElem_mem hlt)
    have px := hp _ (List.getElem_mem hlt)
    have c5 : acc.length < 8796093022208 := by omega
    refine Ev.succ ?_
    simp only [pattern_Substitute.l1, Ss_length, if_pos c1, if_pos c2, e]
    rw [rd_Ss ps i hlt, Ev.bind_iff (form_ev _ (by rw [size_S]; exact lx)), L_S, formS_of px]
    rw [List.drop_eq_getElem_cons hlt, starsN_cons] at hlen hf
    rw [List.drop_eq_getElem_cons hlt]
    simp only [subL]
    cases hs : starL ps[i] with
    | none =>
      rw [hs] at hlen hf
      have n12 : ¬ (1 : Int) = 2 := by decide
      simp only [Option.isSome_none, Bool.false_eq_true, if_false, Nat.add_zero] at hlen hf
      simp only [if_neg n12, if_pos c5, Ss_snoc]
      refine Ev.of_eq (ih (i + 1) (acc ++ [ps[i]]) l (by omega) (by simp; omega) hlen hb hf) ?_
      simp
    | some s =>
      rw [hs] at hlen hf
      simp only [Option.isSome_some, if_true] at hlen hf
      cases l with
      | nil => simp at hlen; omega
      | cons x l =>
        simp only [fitL, Bool.and_eq_true] at hf
        have hok := hf.1
        simp only [okB, Bool.false_eq_true, if_false, Bool.and_eq_true, decide_eq_true_eq] at hok
        obtain ⟨y, hy⟩ := List.length_eq_one_iff.1 hok.2.1
        have hbx := hb x (by simp)
        have ly : y.length ≤ 1048576 := hbx.2 y (by rw [hy]; simp)
        have ls := starL_len hs
        have er : rd_T28 (Bnd (x :: l)) 0 = mkB x.1 x.2 := rfl
        have d1 : (0 : Int) < ((Bnd (x :: l)).length : Int) := by rw [Bnd_length, List.length_cons]; omega
        have d2 : (0 : Int) < ((Ss x.1).length : Int) := by rw [Ss_length, hok.2.1]; omega
        have d3 : rdOf ByteArray.empty (Ss x.1) 0 = S y := by rw [hy]; rfl
        have d4 : (S y).size + (S s).size ≤ 9223372036854775807 := by rw [size_S, size_S]; omega
        have d5 : (1 : Int) ≤ ((Bnd (x :: l)).length : Int) := by rw [Bnd_length, List.length_cons]; omega
        have d6 : (Bnd (x :: l)).drop 1 = Bnd l := rfl
        simp only [if_true, if_pos d1, er, mkB, if_pos d2, d3, if_pos d4, if_pos d5, d6, if_pos c5, append_S, L_S, Ss_snoc]
        refine Ev.of_eq (ih (i + 1) (acc ++ [y ++ s]) l (by omega) (by simp; omega) (by simp only [List.length_cons] at hlen; omega) (fun z hz => hb z (List.mem_cons_of_mem _ hz)) hf.2) ?_
        simp [hy]
theorem sub_ev (ps : List Bs) (b : Bool) (l : List (List Bs × Bool)) (hl : ps.length ≤ 1048576) (hx : ∀ x ∈ ps, x.length ≤ 1048576) (hll : l.length ≤ 1048576) (hb : ∀ x ∈ l, x.1.length ≤ 1048576 ∧ ∀ y ∈ x.1, y.length ≤ 1048576) :
    Ev (fun k => pattern_Substitute.f k (Ss ps) b (Bnd l)) (subR ps b l) := by
  simp only [pattern_Substitute.f]
  rw [Ev.bind_iff (kinds_ev ps b hl hx)]
  unfold kindsR subR
  by_cases hc : checkI ps b = 0
  · simp only [hc, if_true]
    have hcc := check_ok hc
    have hs := starsN_le ps
    have e : (if b = true then wrap64 (((starsN ps : Nat) : Int) + 1) else ((starsN ps : Nat) : Int)) = ((starsN ps + oneN b : Nat) : Int) := by
      cases b
      · simp [oneN]
      · rw [if_pos rfl, wrap64_id (by omega) (by omega)]
        simp [oneN]
    have ej : ∀ k, (if b = true then (pattern_Substitute.j0 k (Bnd l) ((starsN ps : Nat) : Int) b (wrap64 (((starsN ps : Nat) : Int) + 1)) (Ss ps) b) else (pattern_Substitute.j0 k (Bnd l) ((starsN ps : Nat) : Int) b ((starsN ps : Nat) : Int) (Ss ps) b)) = pattern_Substitute.j0 k (Bnd l) ((starsN ps : Nat) : Int) b ((starsN ps + oneN b : Nat) : Int) (Ss ps) b := by
      intro k
      rw [← e]
      cases b <;> simp
    simp only [ej]
    refine Ev.succ ?_
    simp only [pattern_Substitute.j0, Bnd_length]
    by_cases hlen : l.length = starsN ps + oneN b
    · have h' : (l.length : Int) = ((starsN ps + oneN b : Nat) : Int) := by omega
      rw [if_pos hlen]
      simp only [if_pos h']
      have h1 : oneN b ≤ 1 := by unfold oneN; split <;> omega
      have := sub_fit ps b l (starsN ps) (by omega) (by omega) hb (endS b (subL ps l).1 (subL ps l).2) l.length 0 (by omega) (fun hf => by
        have h2 := sub_loop ps b hl hx hcc.2.2.1 ps.length 0 [] l (by omega) (by simp) (by rw [List.drop_zero]; exact hlen) hb (by rw [List.drop_zero]; simpa using hf)
        rw [List.drop_zero, List.nil_append] at h2
        exact h2)
      rw [List.drop_zero, Nat.sub_zero] at this
      exact this
    · have h' : ¬ (l.length : Int) = ((starsN ps + oneN b : Nat) : Int) := by omega
      rw [if_neg hlen]
      simp only [if_neg h']
      exact Ev.now _
  · simp only [hc, if_false]
    exact Ev.now _
end Go.Proofs.YthclkdplihchjaaDoor.P

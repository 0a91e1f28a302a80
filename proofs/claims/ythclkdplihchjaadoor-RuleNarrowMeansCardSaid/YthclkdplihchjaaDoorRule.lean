/-
  Layer 4: lines: Check, Turn, Forward, Backward. No project text.
-/
import Derived.Test.YthclkdplihchjaaDoorFill
import Derived.Test.YthclkdplihchjaaDoorPx3
namespace Go.Proofs.YthclkdplihchjaaDoor.P
open Go.RowKit Go.Proofs.YthclkdplihchjaaDoorW.PrintWords Go.Proofs.YthclkdplihchjaaDoor.Args
set_option linter.unusedVariables false
set_option linter.unusedSimpArgs false

theorem small4_far (ps qs : List Bs) (b : Bool) (hl : ps.length ≤ 1125899906842624) (h20 : ¬ qs.length ≤ 20) : ∀ (d i : Nat) (n : Int), i + d = ps.length →
    Ev (fun k => stockyardlaw04_small.l0 k n (Ss ps) (ps.length : Int) (i : Int) (Ss qs) b) false := by
  intro d
  induction d with
  | zero =>
    intro i n hi
    have h20' : ¬ (qs.length : Int) ≤ 20 := by omega
    refine Ev.succ ?_
    simp (disch := omega) only [stockyardlaw04_small.l0, if_neg, Ss_length]
    exact Ev.now _
  | succ d ih =>
    intro i n hi
    have hlt : i < ps.length := by omega
    refine Ev.succ ?_
    simp only [stockyardlaw04_small.l0, Ss_length]
    have c1 : (i : Int) < (ps.length : Int) := by omega
    have c2 : (0 : Int) ≤ (i : Int) := by omega
    have e : wrap64 ((i : Int) + 1) = ((i + 1 : Nat) : Int) := by rw [wrap64_id (by omega) (by omega)]; omega
    simp only [if_pos c1, if_pos c2, e]
    exact ih (i + 1) _ (by omega)
theorem small4_near (ps : List Bs) (b : Bool) (hl : ps.length ≤ 20) (hx : ∀ x ∈ ps, x.length ≤ 140737488351232) : ∀ (d i n : Nat), i + d = ps.length → n ≤ i * 140737488351232 →
    Ev (fun k => stockyardlaw04_small.l0 k (n : Int) (Ss ps) (ps.length : Int) (i : Int) (Ss ps) b) (decide (n + totalL (ps.drop i) ≤ 300)) := by
  intro d
  induction d with
  | zero =>
    intro i n hi hn
    have h20 : (ps.length : Int) ≤ 20 := by omega
    refine Ev.succ ?_
    simp (disch := omega) only [stockyardlaw04_small.l0, if_neg, if_pos, Ss_length]
    rw [List.drop_of_length_le (by omega), Ev.some_iff]
    simp only [totalL, List.map_nil, List.sum_nil, Nat.add_zero]
    exact decide_eq_decide.2 (by omega)
  | succ d ih =>
    intro i n hi hn
    have hlt : i < ps.length := by omega
    have hxi := hx _ (List.getElem_mem hlt)
    refine Ev.succ ?_
    simp only [stockyardlaw04_small.l0, Ss_length]
    have c1 : (i : Int) < (ps.length : Int) := by omega
    have c2 : (0 : Int) ≤ (i : Int) := by omega
    have e : wrap64 ((i : Int) + 1) = ((i + 1 : Nat) : Int) := by rw [wrap64_id (by omega) (by omega)]; omega
    have hm : i * 140737488351232 ≤ 20 * 140737488351232 := Nat.mul_le_mul_right _ (by omega)
    have e2 : wrap64 ((n : Int) + ((S ps[i]).size : Int)) = ((n + ps[i].length : Nat) : Int) := by rw [size_S, wrap64_id (by omega) (by omega)]; omega
    simp only [if_pos c1, if_pos c2, e]
    rw [rd_Ss ps i hlt, e2, List.drop_eq_getElem_cons hlt]
    refine Ev.of_eq (ih (i + 1) (n + ps[i].length) (by omega) (by rw [Nat.add_mul]; omega)) ?_
    simp only [totalL, List.map_cons, List.sum_cons]
    exact decide_eq_decide.2 (by omega)
def small4B (ps : List Bs) : Bool := decide (ps.length ≤ 20) && decide (totalL ps ≤ 300)
theorem small4_ev (ps : List Bs) (b : Bool) (hl : ps.length ≤ 1125899906842624) (hx : ∀ x ∈ ps, x.length ≤ 140737488351232) : Ev (fun k => stockyardlaw04_small.f k (Ss ps) b) (small4B ps) := by
  simp only [stockyardlaw04_small.f, Ss_length]
  unfold small4B
  by_cases h : ps.length ≤ 20
  · simp only [h, decide_true, Bool.true_and]
    have := small4_near ps b h hx ps.length 0 0 (by omega) (by omega)
    simpa using this
  · simp only [h, decide_false, Bool.false_and]
    exact small4_far ps ps b hl h ps.length 0 0 (by omega)
theorem small4_ok {ps : List Bs} (h : small4B ps = true) : ps.length ≤ 20 ∧ ∀ x ∈ ps, x.length ≤ 300 := by
  unfold small4B at h
  simp only [Bool.and_eq_true, decide_eq_true_eq] at h
  exact ⟨h.1, total_le h.2⟩
theorem fit_ev (x : Bool) (p : List Bs) (a : Bool) (q : List Bs) (b : Bool) (hp : p.length ≤ 1125899906842624) (hp2 : ∀ x ∈ p, x.length ≤ 140737488351232) (hq : q.length ≤ 1125899906842624) (hq2 : ∀ x ∈ q, x.length ≤ 140737488351232) :
    Ev (fun k => stockyardlaw04_fit.f k x (Ss p) a (Ss q) b) (small4B p && small4B q) := by
  simp only [stockyardlaw04_fit.f]
  rw [Ev.bind_iff (small4_ev p a hp hp2)]
  cases h : small4B p
  · simp only [Bool.false_eq_true, if_false, Bool.false_and]
    exact Ev.now _
  · simp only [if_true, Bool.true_and]
    rw [Ev.bind_some]
    exact small4_ev q b hq hq2
/-- What is wrong with a line. -/
def ruleI (p : List Bs) (a : Bool) (q : List Bs) (b : Bool) : Int := if checkI p a = 0 then (if checkI q b = 0 then (if starsN p = starsN q ∧ a = b then 0 else 42) else 41) else 40
theorem ruleI_turn (p : List Bs) (a : Bool) (q : List Bs) (b : Bool) : ruleI p a q b = 0 ↔ ruleI q b p a = 0 := by
  unfold ruleI
  by_cases h1 : checkI p a = 0
  · by_cases h2 : checkI q b = 0
    · simp only [h1, h2, if_true]
      by_cases h3 : starsN p = starsN q ∧ a = b
      · have h4 : starsN q = starsN p ∧ b = a := ⟨h3.1.symm, h3.2.symm⟩
        simp only [if_pos h3, if_pos h4]
      · have h4 : ¬ (starsN q = starsN p ∧ b = a) := fun h => h3 ⟨h.1.symm, h.2.symm⟩
        simp only [if_neg h3, if_neg h4]
    · simp only [h1, h2, if_true, if_false]
      decide
  · by_cases h2 : checkI q b = 0
    · simp only [h1, h2, if_true, if_false]
      decide
    · simp only [h1, h2, if_false]
theorem rulecheck_ev (x : Bool) (p : List Bs) (a : Bool) (q : List Bs) (b : Bool) (hp : p.length ≤ 20) (hp2 : ∀ x ∈ p, x.length ≤ 1000) (hq : q.length ≤ 20) (hq2 : ∀ x ∈ q, x.length ≤ 1000) :
    Ev (fun k => rule_Check.f k x (Ss p) a (Ss q) b) (ruleI p a q b) := by
  have hp3 : ∀ x ∈ p, x.length ≤ 1048576 := fun x hx => by have := hp2 x hx; omega
  have hq3 : ∀ x ∈ q, x.length ≤ 1048576 := fun x hx => by have := hq2 x hx; omega
  simp only [rule_Check.f]
  rw [Ev.bind_iff (check_ev p a (by omega) hp3)]
  unfold ruleI
  by_cases h1 : checkI p a = 0
  · simp only [h1, if_true]
    rw [Ev.bind_iff (check_ev q b (by omega) hq3)]
    by_cases h2 : checkI q b = 0
    · simp only [h2, if_true]
      rw [Ev.bind_iff (kinds_ev p a (by omega) hp3), Ev.bind_iff (kinds_ev q b (by omega) hq3)]
      simp only [kindsR, h1, h2, if_true]
      by_cases h3 : starsN p = starsN q
      · have e : ((starsN p : Nat) : Int) = ((starsN q : Nat) : Int) := by omega
        simp only [if_pos e]
        by_cases h4 : a = b
        · have e2 : (a != b) = false := by rw [h4]; simp
          simp only [e2, Bool.false_eq_true, if_false, if_pos (And.intro h3 h4)]
          exact Ev.now _
        · have e2 : (a != b) = true := by rw [bne_iff_ne]; exact h4
          have h5 : ¬ (starsN p = starsN q ∧ a = b) := fun h => h4 h.2
          simp only [e2, if_true, if_neg h5]
          exact Ev.now _
      · have e : ¬ ((starsN p : Nat) : Int) = ((starsN q : Nat) : Int) := by omega
        have h5 : ¬ (starsN p = starsN q ∧ a = b) := fun h => h3 h.1
        simp only [if_neg e, if_neg h5]
        exact Ev.now _
    · simp only [h2, if_false]
      exact Ev.now _
  · simp only [h1, if_false]
    exact Ev.now _
/-- The right path of a left one. -/
def forwardR (p : List Bs) (a : Bool) (q : List Bs) (b : Bool) (l : Bs) : ByteArray × Bool := if ruleI p a q b = 0 then (match matchP p a l with
  | none => (S [], false)
  | some cs => ((fillR q b cs).1, (fillR q b cs).2 == 0)) else (S [], false)
theorem match_size2 {ps : List Bs} {rest : Bool} {l : Bs} {o : List Bs} (h : matchP ps rest l = some o) (hl : l.length ≤ 1000) : ∀ x ∈ o, x.length ≤ 1000 := by
  intro x hx
  have := match_sizes h x hx
  omega
theorem forward_ev (x : Bool) (p : List Bs) (a : Bool) (q : List Bs) (b : Bool) (s : ByteArray) (hp : p.length ≤ 20) (hp2 : ∀ x ∈ p, x.length ≤ 1000) (hq : q.length ≤ 20) (hq2 : ∀ x ∈ q, x.length ≤ 1000) (hs : s.size ≤ 1000000) (hm : ∀ o, matchP p a (L s) = some o → ∀ x ∈ o, x.length ≤ 1000) :
    Ev (fun k => rule_Forward.f k x (Ss p) a (Ss q) b s) (forwardR p a q b (L s)) := by
  simp only [rule_Forward.f]
  rw [Ev.bind_iff (rulecheck_ev x p a q b hp hp2 hq hq2)]
  unfold forwardR
  by_cases h : ruleI p a q b = 0
  · simp only [h, if_true]
    rw [Ev.bind_iff (match_ev p a s (by omega) (fun x hx => by have := hp2 x hx; omega) hs)]
    cases hmm : matchP p a (L s) with
    | none =>
      simp only [dirR, Bool.false_eq_true, if_false]
      exact Ev.now _
    | some o =>
      simp only [dirR, if_true]
      rw [Ev.bind_iff (fill_ev q b o hq hq2 (hm o hmm))]
      exact Ev.now _
  · simp only [h, if_false]
    exact Ev.now _
theorem forward_some {p : List Bs} {a : Bool} {q : List Bs} {b : Bool} {l : Bs} (h : (forwardR p a q b l).2 = true) : ruleI p a q b = 0 ∧ ∃ cs, matchP p a l = some cs ∧ fillR q b cs = ((forwardR p a q b l).1, 0) := by
  unfold forwardR at h ⊢
  by_cases hr : ruleI p a q b = 0
  · simp only [hr, if_true] at h ⊢
    cases hm : matchP p a l with
    | none => rw [hm] at h; cases h
    | some cs =>
      rw [hm] at h
      simp only [beq_iff_eq] at h
      refine ⟨trivial, cs, rfl, ?_⟩
      simp only
      rw [← h]
  · simp only [hr, if_false] at h
    cases h
/-- A line is one-to-one. -/
theorem forward_back {p : List Bs} {a : Bool} {q : List Bs} {b : Bool} {l : Bs} (h : (forwardR p a q b l).2 = true) : forwardR q b p a (L (forwardR p a q b l).1) = (S l, true) := by
  obtain ⟨h1, cs, h2, h3⟩ := forward_some h
  have h4 := match_of_fill h3
  unfold forwardR
  rw [if_pos ((ruleI_turn p a q b).1 h1)]
  have h5 : (if ruleI p a q b = 0 then (match matchP p a l with
    | none => (S [], false)
    | some cs => ((fillR q b cs).1, (fillR q b cs).2 == 0)) else (S [], false)) = forwardR p a q b l := rfl
  rw [h5, h4]
  simp only [fill_of_match h2, beq_self_eq_true]
theorem awake04 : Ev (fun k => stockyardlaw04_awake.f k) true := by
  simp only [stockyardlaw04_awake.f, Option.bind_some]
  have e1 : [(⟨#[100]⟩ : ByteArray), (⟨#[42, 46, 112, 115, 100]⟩ : ByteArray)] = Ss [[100], [42, 46, 112, 115, 100]] := rfl
  have e2 : [(⟨#[99]⟩ : ByteArray), (⟨#[120]⟩ : ByteArray), (⟨#[42]⟩ : ByteArray)] = Ss [[99], [120], [42]] := rfl
  have em : matchP [[100], [42, 46, 112, 115, 100]] true (L (⟨#[47, 47, 100, 47, 97, 46, 112, 115, 100, 47, 98]⟩ : ByteArray)) = some [[97], [98]] := by decide +kernel
  rw [e1, e2, Ev.bind_iff (forward_ev false _ true _ true _ (by decide) (by decide) (by decide) (by decide) (by decide) (fun o ho => by rw [em] at ho; injection ho with ho; rw [← ho]; decide))]
  have ef : forwardR [[100], [42, 46, 112, 115, 100]] true [[99], [120], [42]] true (L (⟨#[47, 47, 100, 47, 97, 46, 112, 115, 100, 47, 98]⟩ : ByteArray)) = (S [47, 47, 99, 47, 120, 47, 97, 47, 98], true) := by decide +kernel
  rw [ef]
  simp only [if_true, toList_eq, L_S]
  rw [Ev.bind_iff (rulecheck_ev false _ true _ true (by decide) (by decide) (by decide) (by decide))]
  have ec : ruleI [[100], [42, 46, 112, 115, 100]] true [[99], [120], [42]] true = 0 := by decide +kernel
  rw [ec]
  exact Ev.now _
end Go.Proofs.YthclkdplihchjaaDoor.P

/-
  Layer 4: what carry, NarrowLeft and Chain come to. No project text.
-/
import Derived.Test.YthclkdplihchjaaDoorSubO
import Derived.Test.YthclkdplihchjaaDoorBnd
import Derived.Test.YthclkdplihchjaaDoorRule
import Derived.Test.YthclkdplihchjaaDoorPx12
namespace Go.Proofs.YthclkdplihchjaaDoor.P
open Go.RowKit Go.Proofs.YthclkdplihchjaaDoorW.PrintWords Go.Proofs.YthclkdplihchjaaDoor.Args
set_option linter.unusedVariables false
set_option linter.unusedSimpArgs false

def len20 (ps : List Bs) (m : Nat) : Prop := ps.length ≤ 20 ∧ ∀ x ∈ ps, x.length ≤ m
theorem sub2_len {ps : List Bs} {b : Bool} {l : List (List Bs × Bool)} {o : List Bs} {f : Bool} {m : Nat} (h : sub2 ps b l = some (o, f)) (hp : ∀ x ∈ ps, x.length ≤ m) (hl : ∀ x ∈ l, ∀ y ∈ x.1, y.length ≤ m) : len20 o (m + m) := by
  have := sub2_sizes m h hp hl
  exact ⟨by omega, this.2⟩
theorem bindW_sizes {m : Nat} {ps qs : List Bs} {b b' : Bool} (hq : ∀ x ∈ qs, x.length ≤ m) : (bindW ps b qs b').length ≤ ps.length + 1 ∧ ∀ x ∈ bindW ps b qs b', x.1.length ≤ qs.length + 1 ∧ ∀ y ∈ x.1, y.length ≤ m := by
  unfold bindW
  split
  · exact bindP_sizes hq
  · exact ⟨by simp, fun x hx => by simp at hx⟩
theorem bindV_eq (ps qs : List Bs) (b b' : Bool) : (bindV ps b qs b').1 = Bnd (bindW ps b qs b') := by
  unfold bindV bindW
  split <;> rfl
def carV (o : Option (List Bs × Bool)) (e : List ByteArray × Bool) : List ByteArray × Bool × Bool := match o with
  | some x => (Ss x.1, x.2, true)
  | none => (e.1, e.2, false)
theorem carry_ev (p m q : List Bs) (a r b : Bool) (hp : len20 p 1000) (hm : len20 m 1000) (hq : len20 q 1000) :
    ∃ e, Ev (fun k => rule_carry.f k (Ss p) a (Ss m) r (Ss q) b) (carV (sub2 q b (bindW p a m r)) e) := by
  have b1 : ∀ x ∈ p, x.length ≤ 1048576 := fun x hx => by have := hp.2 x hx; omega
  have b2 : ∀ x ∈ m, x.length ≤ 1048576 := fun x hx => by have := hm.2 x hx; omega
  have b3 : ∀ x ∈ q, x.length ≤ 1048576 := fun x hx => by have := hq.2 x hx; omega
  have hp1 := hp.1
  have hm1 := hm.1
  have hq1 := hq.1
  have hs := bindW_sizes (ps := p) (b := a) (b' := r) hm.2
  have he := sub_ev q b (bindW p a m r) (by omega) b3 (by omega) (fun x hx => ⟨by have := (hs.2 x hx).1; omega, fun y hy => by have := (hs.2 x hx).2 y hy; omega⟩)
  cases h2 : sub2 q b (bindW p a m r) with
  | some x =>
    refine ⟨([], false), ?_⟩
    simp only [rule_carry.f]
    rw [Ev.bind_iff (bind_ev p m a r (by omega) (by omega) b1 b2), bindV_eq, Ev.bind_iff he, subR_some (o := x.1) (f := x.2) h2]
    exact Ev.now _
  | none =>
    refine ⟨((subR q b (bindW p a m r)).1, (subR q b (bindW p a m r)).2.1), ?_⟩
    simp only [rule_carry.f]
    rw [Ev.bind_iff (bind_ev p m a r (by omega) (by omega) b1 b2), bindV_eq, Ev.bind_iff he]
    have e0 : ((subR q b (bindW p a m r)).2.2 == 0) = false := by rw [subR_ok, h2]; rfl
    rw [e0]
    exact Ev.now _
abbrev Rul := List Bs × Bool × List Bs × Bool
/-- What a narrowing or a composition hands back. -/
def rulV (x : Option Rul × Int) : Bool × List ByteArray × Bool × List ByteArray × Bool × Bool × Int := match x with
  | (some (p, a, q, b), e) => (false, Ss p, a, Ss q, b, true, e)
  | (none, e) => (false, [], false, [], false, false, e)
def narO (p : List Bs) (a : Bool) (q : List Bs) (b : Bool) (c : List Bs) (cb : Bool) : Option Rul × Int :=
  if ruleI p a q b = 0 then (if checkI c cb = 0 then (match meetP p a c cb with
    | none => (none, 0)
    | some (o, r) => match sub2 q b (bindW p a o r) with
      | none => (none, 43)
      | some (o', r') => (some (o, r, o', r'), 0)) else (none, checkI c cb)) else (none, ruleI p a q b)
def chaO (p : List Bs) (a : Bool) (q : List Bs) (b : Bool) (p2 : List Bs) (a2 : Bool) (q2 : List Bs) (b2 : Bool) : Option Rul × Int :=
  if ruleI p a q b = 0 then (if ruleI p2 a2 q2 b2 = 0 then (match meetP q b p2 a2 with
    | none => (none, 0)
    | some (o, r) => match sub2 p a (bindW q b o r), sub2 q2 b2 (bindW p2 a2 o r) with
      | some (x, f), some (y, g) => (some (x, f, y, g), 0)
      | _, _ => (none, 43)) else (none, ruleI p2 a2 q2 b2)) else (none, ruleI p a q b)
theorem meetP_len {p q o : List Bs} {a b r : Bool} {m : Nat} (h : meetP p a q b = some (o, r)) (hp : len20 p m) (hq : len20 q m) : len20 o m := by
  have h1 := meetP_mem h
  refine ⟨?_, fun x hx => ?_⟩
  · have := hp.1
    have := hq.1
    rcases h1.2 with h | h <;> omega
  · rcases h1.1 x hx with h | h
    · exact hp.2 x h
    · exact hq.2 x h
theorem narrow_ev (x : Bool) (p : List Bs) (a : Bool) (q : List Bs) (b : Bool) (c : List Bs) (cb : Bool) (hp : len20 p 1000) (hq : len20 q 1000) (hc : len20 c 1000) :
    Ev (fun k => rule_NarrowLeft.f k x (Ss p) a (Ss q) b (Ss c) cb) (rulV (narO p a q b c cb)) := by
  have b1 : ∀ x ∈ p, x.length ≤ 1048576 := fun x hx => by have := hp.2 x hx; omega
  have b2 : ∀ x ∈ c, x.length ≤ 1048576 := fun x hx => by have := hc.2 x hx; omega
  have hp1 := hp.1
  have hc1 := hc.1
  simp only [rule_NarrowLeft.f]
  rw [Ev.bind_iff (rulecheck_ev x p a q b hp.1 hp.2 hq.1 hq.2)]
  unfold narO
  by_cases h1 : ruleI p a q b = 0
  · simp only [h1, if_true]
    rw [Ev.bind_iff (check_ev c cb (by omega) b2)]
    by_cases h2 : checkI c cb = 0
    · simp only [h2, if_true]
      rw [Ev.bind_iff (meet_ev p c a cb (by omega) (by omega) b1 b2)]
      cases h3 : meetP p a c cb with
      | none =>
        simp only [meetV, Bool.false_eq_true, if_false]
        exact Ev.now _
      | some m =>
        obtain ⟨o, r⟩ := m
        simp only [meetV, if_true]
        obtain ⟨e, he⟩ := carry_ev p o q a r b hp (meetP_len h3 hp hc) hq
        rw [Ev.bind_iff he]
        cases h4 : sub2 q b (bindW p a o r) with
        | none =>
          simp only [carV, Bool.false_eq_true, if_false]
          exact Ev.now _
        | some y =>
          obtain ⟨o', r'⟩ := y
          simp only [carV, if_true]
          exact Ev.now _
    · simp only [h2, if_false]
      exact Ev.now _
  · simp only [h1, if_false]
    exact Ev.now _
theorem nar_some {p q c o o' : List Bs} {a b cb r r' : Bool} {e : Int} (h : narO p a q b c cb = (some (o, r, o', r'), e)) :
    ruleI p a q b = 0 ∧ checkI c cb = 0 ∧ meetP p a c cb = some (o, r) ∧ sub2 q b (bindW p a o r) = some (o', r') := by
  unfold narO at h
  split at h
  · rename_i h1
    split at h
    · rename_i h2
      split at h
      · cases h
      · rename_i o1 r1 h3
        split at h
        · cases h
        · rename_i o2 r2 h4
          simp only [Prod.mk.injEq, Option.some.injEq] at h
          obtain ⟨⟨rfl, rfl, rfl, rfl⟩, _⟩ := h
          exact ⟨h1, h2, h3, h4⟩
    · cases h
  · cases h
theorem cha_some {p q p2 q2 x y : List Bs} {a b a2 b2 f g : Bool} {e : Int} (h : chaO p a q b p2 a2 q2 b2 = (some (x, f, y, g), e)) :
    ruleI p a q b = 0 ∧ ruleI p2 a2 q2 b2 = 0 ∧ ∃ o r, meetP q b p2 a2 = some (o, r) ∧ sub2 p a (bindW q b o r) = some (x, f) ∧ sub2 q2 b2 (bindW p2 a2 o r) = some (y, g) := by
  unfold chaO at h
  split at h
  · rename_i h1
    split at h
    · rename_i h2
      split at h
      · cases h
      · rename_i o1 r1 h3
        split at h
        · rename_i h4 h5
          simp only [Prod.mk.injEq, Option.some.injEq] at h
          obtain ⟨⟨rfl, rfl, rfl, rfl⟩, _⟩ := h
          exact ⟨h1, h2, o1, r1, h3, h4, h5⟩
        · cases h
    · cases h
  · cases h
theorem rulV_e (x : Option Rul × Int) : (rulV x).2.2.2.2.2.2 = x.2 := by
  obtain ⟨o, e⟩ := x
  cases o <;> rfl
theorem cha_e {p q p2 q2 : List Bs} {a b a2 b2 : Bool} {r : Rul} {e : Int} (h : chaO p a q b p2 a2 q2 b2 = (some r, e)) : e = 0 := by
  unfold chaO at h
  split at h
  · split at h
    · split at h
      · injection h with h _; cases h
      · split at h
        · injection h with _ h; exact h.symm
        · injection h with h _; cases h
    · injection h with h _; cases h
  · injection h with h _; cases h
theorem nar_e {p q c : List Bs} {a b cb : Bool} {r : Rul} {e : Int} (h : narO p a q b c cb = (some r, e)) : e = 0 := by
  unfold narO at h
  split at h
  · split at h
    · split at h
      · injection h with h _; cases h
      · split at h
        · injection h with h _; cases h
        · injection h with _ h; exact h.symm
    · injection h with h _; cases h
  · injection h with h _; cases h
theorem cha_len {p q p2 q2 x y : List Bs} {a b a2 b2 f g : Bool} {e : Int} {m : Nat} (h : chaO p a q b p2 a2 q2 b2 = (some (x, f, y, g), e)) (hp : len20 p m) (hq : len20 q m) (hp2 : len20 p2 m) (hq2 : len20 q2 m) : len20 x (m + m) ∧ len20 y (m + m) := by
  obtain ⟨_, _, o, r, h3, h4, h5⟩ := cha_some h
  have hm := meetP_len h3 hq hp2
  exact ⟨sub2_len h4 hp.2 (fun z hz => ((bindW_sizes hm.2).2 z hz).2), sub2_len h5 hq2.2 (fun z hz => ((bindW_sizes hm.2).2 z hz).2)⟩
theorem nar_len {p q c o o' : List Bs} {a b cb r r' : Bool} {e : Int} {m : Nat} (h : narO p a q b c cb = (some (o, r, o', r'), e)) (hp : len20 p m) (hq : len20 q m) (hc : len20 c m) : len20 o (m + m) ∧ len20 o' (m + m) := by
  obtain ⟨_, _, h3, h4⟩ := nar_some h
  have hm := meetP_len h3 hp hc
  exact ⟨⟨hm.1, fun x hx => by have := hm.2 x hx; omega⟩, sub2_len h4 hq.2 (fun z hz => ((bindW_sizes hm.2).2 z hz).2)⟩
end Go.Proofs.YthclkdplihchjaaDoor.P

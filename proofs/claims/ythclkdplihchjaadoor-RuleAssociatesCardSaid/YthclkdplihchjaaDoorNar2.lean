/-
  Layer 4: what Forward, carry, NarrowLeft and Chain come to, told by components. No project text.
-/
import Derived.Test.YthclkdplihchjaaDoorNar1
import Derived.Test.YthclkdplihchjaaDoorBnd
import Derived.Test.YthclkdplihchjaaDoorPx12
import Derived.Test.YthclkdplihchjaaDoorPx15
namespace Go.Proofs.YthclkdplihchjaaDoor.P
open Go.RowKit Go.Proofs.YthclkdplihchjaaDoorW.PrintWords Go.Proofs.YthclkdplihchjaaDoor.Args
set_option linter.unusedVariables false
set_option linter.unusedSimpArgs false

/-! ### Forward -/
theorem matchL_comp : ∀ (ps ws : List Bs) {cs : List Bs}, (∀ w ∈ ws, compL w = true) → matchL ps ws = some cs → ∀ c ∈ cs, compL c = true
  | [], ws, cs, _, h => by
    simp only [matchL, Option.some.injEq] at h
    subst h
    simp
  | _ :: _, [], cs, _, h => by cases h
  | p :: ps, w :: ws, cs, hw, h => by
    simp only [matchL] at h
    have hw2 : ∀ x ∈ ws, compL x = true := fun x hx => hw x (List.mem_cons_of_mem _ hx)
    cases hs : starL p with
    | none =>
      rw [hs] at h
      dsimp only at h
      by_cases hq : w = p
      · rw [if_pos hq] at h
        exact matchL_comp ps ws hw2 h
      · rw [if_neg hq] at h
        cases h
    | some s =>
      rw [hs] at h
      dsimp only at h
      cases hc : capR w s with
      | none => rw [hc] at h; cases h
      | some x =>
        rw [hc] at h
        dsimp only at h
        obtain ⟨cs', h1, rfl⟩ := Option.map_eq_some_iff.1 h
        intro c hcm
        rcases List.mem_cons.1 hcm with rfl | hcm
        · unfold capR at hc
          split at hc
          · rename_i hh
            injection hc with hc
            rw [← hc, comp_take (hw w (by simp)), decide_eq_true_eq]
            omega
          · cases hc
        · exact matchL_comp ps ws hw2 h1 c hcm
theorem mat_comp {ps ws cs rw : List Bs} {b : Bool} (hw : ∀ w ∈ ws, compL w = true) (h : mat ps b ws = some (cs, rw)) : (∀ c ∈ cs, compL c = true) ∧ ∀ w ∈ rw, compL w = true := by
  unfold mat at h
  split at h
  · obtain ⟨cs', h1, h2⟩ := Option.map_eq_some_iff.1 h
    simp only [Prod.mk.injEq] at h2
    obtain ⟨rfl, rfl⟩ := h2
    exact ⟨matchL_comp ps ws hw h1, fun w hx => hw w (List.mem_of_mem_drop hx)⟩
  · cases h
theorem fillL_fillW : ∀ (ps cs t : List Bs), cs.length = starsN ps → (∀ c ∈ cs, compL c = true) → fillL ps (cs ++ t) = some (fillW ps cs, t)
  | [], cs, t, h, _ => by
    obtain rfl := List.eq_nil_of_length_eq_zero (show cs.length = 0 from h)
    rfl
  | p :: ps, cs, t, h, hc => by
    rw [starsN_cons] at h
    simp only [fillL, fillW]
    cases hs : starL p with
    | none =>
      rw [hs] at h
      simp only [fillL_fillW ps cs t (by simpa using h) hc, Option.map_some]
    | some s =>
      rw [hs] at h
      cases cs with
      | nil => simp at h
      | cons c cs =>
        simp only [List.cons_append, hc c (by simp), if_true, List.headD_cons, List.tail_cons]
        rw [fillL_fillW ps cs t (by simpa using h) (fun x hx => hc x (List.mem_cons_of_mem _ hx))]
        rfl
theorem fillW_comp : ∀ (ps cs : List Bs), (∀ x ∈ ps, partB x = true) → cs.length = starsN ps → (∀ c ∈ cs, compL c = true) → ∀ w ∈ fillW ps cs, compL w = true
  | [], cs, _, _, _ => fun w hw => by simp [fillW] at hw
  | p :: ps, cs, hp, hl, hc => by
    rw [starsN_cons] at hl
    intro w hw
    simp only [fillW] at hw
    cases hs : starL p with
    | none =>
      rw [hs] at hl hw
      rcases List.mem_cons.1 hw with rfl | hw
      · have := hp w (by simp)
        unfold partB at this
        rw [hs] at this
        simpa using this
      · exact fillW_comp ps cs (fun x hx => hp x (List.mem_cons_of_mem _ hx)) (by simpa using hl) hc w hw
    | some s =>
      rw [hs] at hl hw
      cases cs with
      | nil => simp at hl
      | cons c cs =>
        rcases List.mem_cons.1 hw with rfl | hw
        · exact comp_app (hc c (by simp)) (star_all hs)
        · exact fillW_comp ps cs (fun x hx => hp x (List.mem_cons_of_mem _ hx)) (by simpa using hl) (fun x hx => hc x (List.mem_cons_of_mem _ hx)) w hw
theorem matchW_mat {ps ws : List Bs} {b : Bool} : matchW ps b ws = if checkI ps b = 0 then (mat ps b ws).map fun x => x.1 ++ (if b = true then [joinL x.2] else []) else none := by
  unfold matchW mat restL
  by_cases hc : checkI ps b = 0
  · rw [if_pos hc]
    by_cases h : ps.length ≤ ws.length ∧ decide (ps.length < ws.length) = b
    · rw [if_pos ⟨hc, h.1, h.2⟩, if_pos h, Option.map_map]
      rfl
    · rw [if_neg h, if_neg (fun hh => h ⟨hh.2.1, hh.2.2⟩)]
      rfl
  · rw [if_neg hc, if_neg (fun hh => hc hh.1)]
theorem fill_words {q cs rw : List Bs} {b : Bool} (hq : checkI q b = 0) (hl : cs.length = starsN q) (hc : ∀ c ∈ cs, compL c = true) (hr : ∀ w ∈ rw, compL w = true) (hb : decide (0 < rw.length) = b) :
    fillR q b (cs ++ (if b = true then [joinL rw] else [])) = (S (textL (fillW q cs ++ rw)), 0) ∧ (∀ w ∈ fillW q cs ++ rw, compL w = true) ∧ 2 ≤ (fillW q cs ++ rw).length := by
  have hcq := check_ok hq
  have hlen := check_len hq
  have hcomp : ∀ w ∈ fillW q cs ++ rw, compL w = true := by
    intro w hw
    rcases List.mem_append.1 hw with hw | hw
    · exact fillW_comp q cs hcq.2.2.1 hl hc w hw
    · exact hr w hw
  have h2 : 2 ≤ (fillW q cs ++ rw).length := by
    rw [List.length_append, fillW_length]
    cases b
    · have := hlen.2 rfl
      omega
    · have := of_decide_eq_true hb
      omega
  refine ⟨?_, hcomp, h2⟩
  unfold fillR
  rw [if_pos hq, if_pos (by cases b <;> simp [hl, one]), fillL_fillW q cs _ hl hc]
  have e : [] ++ fillW q cs ++ restW b (if b = true then [joinL rw] else []) = fillW q cs ++ rw := by
    cases b
    · have : rw = [] := by
        have := of_decide_eq_false hb
        exact List.eq_nil_of_length_eq_zero (by omega)
      simp [restW, this]
    · have hne : rw ≠ [] := List.length_pos_iff.1 (of_decide_eq_true hb)
      simp only [restW, if_true, List.headD_cons, List.nil_append]
      rw [split_join hne (fun x hx => comp_free (hr x hx))]
  simp only [endR, e, join32]
  rw [if_pos ⟨h2, List.all_eq_true.2 hcomp⟩]
def fwdV (o : Option (List Bs)) : ByteArray × Bool := match o with
  | none => (S [], false)
  | some ws => (S (textL ws), true)
def fwdW (p : List Bs) (a : Bool) (q : List Bs) (l : Bs) : Option (List Bs) := (pathL l).bind (mapW p a q)
theorem forward_words {p q : List Bs} {a b : Bool} (hr : ruleI p a q b = 0) (l : Bs) : forwardR p a q b l = fwdV (fwdW p a q l) ∧ ∀ ws, fwdW p a q l = some ws → (∀ w ∈ ws, compL w = true) ∧ 2 ≤ ws.length := by
  have hr' := hr
  unfold ruleI at hr
  split at hr
  · rename_i hp
    split at hr
    · rename_i hq
      split at hr
      · rename_i hk
        obtain ⟨hst, rfl⟩ := hk
        unfold forwardR fwdW
        rw [if_pos hr']
        unfold matchP
        cases hpath : pathL l with
        | none => exact ⟨rfl, fun ws h => by cases h⟩
        | some ws =>
          have hw := (path_text hpath).2.1
          simp only [Option.bind_some, matchW_mat, if_pos hp]
          unfold mapW
          cases hm : mat p a ws with
          | none => exact ⟨rfl, fun ws h => by cases h⟩
          | some x =>
            obtain ⟨cs, rw⟩ := x
            obtain ⟨m1, m2, m3, m4⟩ := mat_iff.1 hm
            obtain ⟨k1, k2⟩ := mat_comp (fun w hx => List.all_eq_true.1 hw w hx) hm
            have hf := fill_words hq (m1.trans hst) k1 k2 m4
            simp only [Option.map_some]
            refine ⟨?_, fun ws' h => ?_⟩
            · rw [hf.1]
              rfl
            · injection h with h
              rw [← h]
              exact hf.2
      · cases hr
    · cases hr
  · cases hr
theorem ruleI_ok {p q : List Bs} {a b : Bool} (h : ruleI p a q b = 0) : checkI p a = 0 ∧ checkI q b = 0 ∧ starsN p = starsN q ∧ a = b := by
  unfold ruleI at h
  split at h
  · rename_i h1
    split at h
    · rename_i h2
      split at h
      · rename_i h3
        exact ⟨h1, h2, h3.1, h3.2⟩
      · cases h
    · cases h
  · cases h
theorem ruleI_mk {p q : List Bs} {a : Bool} (h1 : checkI p a = 0) (h2 : checkI q a = 0) (h3 : starsN p = starsN q) : ruleI p a q a = 0 := by
  unfold ruleI
  rw [if_pos h1, if_pos h2, if_pos ⟨h3, rfl⟩]

/-! ### sizes -/
def len20 (ps : List Bs) (m : Nat) : Prop := ps.length ≤ 20 ∧ ∀ x ∈ ps, x.length ≤ m
theorem sub2_len {ps : List Bs} {b : Bool} {l : List (List Bs × Bool)} {o : List Bs} {f : Bool} {m : Nat} (h : sub2 ps b l = some (o, f)) (hp : ∀ x ∈ ps, x.length ≤ m) (hl : ∀ x ∈ l, ∀ y ∈ x.1, y.length ≤ m) : len20 o (m + m) := by
  have := sub2_sizes m h hp hl
  exact ⟨by omega, this.2⟩
theorem bindW_sizes {m : Nat} {ps qs : List Bs} {b b' : Bool} (hq : ∀ x ∈ qs, x.length ≤ m) : (bindW ps b qs b').length ≤ ps.length + 1 ∧ ∀ x ∈ bindW ps b qs b', x.1.length ≤ qs.length + 1 ∧ ∀ y ∈ x.1, y.length ≤ m := by
  unfold bindW
  split
  · exact bindP_sizes hq
  · exact ⟨by simp, fun x hx => by simp at hx⟩
theorem bindV_eq (ps qs : List Bs) (b b' : Bool) : (bindV ps b qs b').1 = Bnd (bindW ps b qs b') := by
  unfold bindV bindW
  split <;> rfl

/-! ### carry, NarrowLeft, Chain -/
def carV (o : Option (List Bs × Bool)) (e : List ByteArray × Bool) : List ByteArray × Bool × Bool := match o with
  | some x => (Ss x.1, x.2, true)
  | none => (e.1, e.2, false)
theorem carry_ev (p m q : List Bs) (a r b : Bool) (hp : len20 p 1000) (hm : len20 m 1000) (hq : len20 q 1000) :
    ∃ e, Ev (fun k => rule_carry.f k (Ss p) a (Ss m) r (Ss q) b) (carV (sub2 q b (bindW p a m r)) e) := by
  have b1 : ∀ x ∈ p, x.length ≤ 1048576 := fun x hx => by have := hp.2 x hx; omega
  have b2 : ∀ x ∈ m, x.length ≤ 1048576 := fun x hx => by have := hm.2 x hx; omega
  have b3 : ∀ x ∈ q, x.length ≤ 1048576 := fun x hx => by have := hq.2 x hx; omega
  have hp1 := hp.1
  have hm1 := hm.1
  have hq1 := hq.1
  have hs := bindW_sizes (ps := p) (b := a) (b' := r) hm.2
  have he := sub_ev q b (bindW p a m r) (by omega) b3 (by omega) (fun x hx => ⟨by have := (hs.2 x hx).1; omega, fun y hy => by have := (hs.2 x hx).2 y hy; omega⟩)
  cases h2 : sub2 q b (bindW p a m r) with
  | some x =>
    refine ⟨([], false), ?_⟩
    simp only [rule_carry.f]
    rw [Ev.bind_iff (bind_ev p m a r (by omega) (by omega) b1 b2), bindV_eq, Ev.bind_iff he, subR_some (o := x.1) (f := x.2) h2]
    exact Ev.now _
  | none =>
    refine ⟨((subR q b (bindW p a m r)).1, (subR q b (bindW p a m r)).2.1), ?_⟩
    simp only [rule_carry.f]
    rw [Ev.bind_iff (bind_ev p m a r (by omega) (by omega) b1 b2), bindV_eq, Ev.bind_iff he]
    have e0 : ((subR q b (bindW p a m r)).2.2 == 0) = false := by rw [subR_ok, h2]; rfl
    rw [e0]
    exact Ev.now _
abbrev Rul := List Bs × Bool × List Bs × Bool
/-- What a narrowing or a composition hands back. -/
def rulV (x : Option Rul × Int) : Bool × List ByteArray × Bool × List ByteArray × Bool × Bool × Int := match x with
  | (some (p, a, q, b), e) => (false, Ss p, a, Ss q, b, true, e)
  | (none, e) => (false, [], false, [], false, false, e)
def narO (p : List Bs) (a : Bool) (q : List Bs) (b : Bool) (c : List Bs) (cb : Bool) : Option Rul × Int :=
  if ruleI p a q b = 0 then (if checkI c cb = 0 then (match meetP p a c cb with
    | none => (none, 0)
    | some (o, r) => match sub2 q b (bindW p a o r) with
      | none => (none, 43)
      | some (o', r') => (some (o, r, o', r'), 0)) else (none, checkI c cb)) else (none, ruleI p a q b)
def chaO (p : List Bs) (a : Bool) (q : List Bs) (b : Bool) (p2 : List Bs) (a2 : Bool) (q2 : List Bs) (b2 : Bool) : Option Rul × Int :=
  if ruleI p a q b = 0 then (if ruleI p2 a2 q2 b2 = 0 then (match meetP q b p2 a2 with
    | none => (none, 0)
    | some (o, r) => match sub2 p a (bindW q b o r), sub2 q2 b2 (bindW p2 a2 o r) with
      | some (x, f), some (y, g) => (some (x, f, y, g), 0)
      | _, _ => (none, 43)) else (none, ruleI p2 a2 q2 b2)) else (none, ruleI p a q b)
theorem meetP_len {p q o : List Bs} {a b r : Bool} {m : Nat} (h : meetP p a q b = some (o, r)) (hp : len20 p m) (hq : len20 q m) : len20 o m := by
  have h1 := meetP_mem h
  refine ⟨?_, fun x hx => ?_⟩
  · have := hp.1
    have := hq.1
    rcases h1.2 with h | h <;> omega
  · rcases h1.1 x hx with h | h
    · exact hp.2 x h
    · exact hq.2 x h
theorem narrow_ev (x : Bool) (p : List Bs) (a : Bool) (q : List Bs) (b : Bool) (c : List Bs) (cb : Bool) (hp : len20 p 1000) (hq : len20 q 1000) (hc : len20 c 1000) :
    Ev (fun k => rule_NarrowLeft.f k x (Ss p) a (Ss q) b (Ss c) cb) (rulV (narO p a q b c cb)) := by
  have b1 : ∀ x ∈ p, x.length ≤ 1048576 := fun x hx => by have := hp.2 x hx; omega
  have b2 : ∀ x ∈ c, x.length ≤ 1048576 := fun x hx => by have := hc.2 x hx; omega
  have hp1 := hp.1
  have hc1 := hc.1
  simp only [rule_NarrowLeft.f]
  rw [Ev.bind_iff (rulecheck_ev x p a q b hp.1 hp.2 hq.1 hq.2)]
  unfold narO
  by_cases h1 : ruleI p a q b = 0
  · simp only [h1, if_true]
    rw [Ev.bind_iff (check_ev c cb (by omega) b2)]
    by_cases h2 : checkI c cb = 0
    · simp only [h2, if_true]
      rw [Ev.bind_iff (meet_ev p c a cb (by omega) (by omega) b1 b2)]
      cases h3 : meetP p a c cb with
      | none =>
        simp only [meetV, Bool.false_eq_true, if_false]
        exact Ev.now _
      | some m =>
        obtain ⟨o, r⟩ := m
        simp only [meetV, if_true]
        obtain ⟨e, he⟩ := carry_ev p o q a r b hp (meetP_len h3 hp hc) hq
        rw [Ev.bind_iff he]
        cases h4 : sub2 q b (bindW p a o r) with
        | none =>
          simp only [carV, Bool.false_eq_true, if_false]
          exact Ev.now _
        | some y =>
          obtain ⟨o', r'⟩ := y
          simp only [carV, if_true]
          exact Ev.now _
    · simp only [h2, if_false]
      exact Ev.now _
  · simp only [h1, if_false]
    exact Ev.now _
theorem chain_ev (x : Bool) (p : List Bs) (a : Bool) (q : List Bs) (b : Bool) (x2 : Bool) (p2 : List Bs) (a2 : Bool) (q2 : List Bs) (b2 : Bool) (hp : len20 p 1000) (hq : len20 q 1000) (hp2 : len20 p2 1000) (hq2 : len20 q2 1000) :
    Ev (fun k => rule_Chain.f k x (Ss p) a (Ss q) b x2 (Ss p2) a2 (Ss q2) b2) (rulV (chaO p a q b p2 a2 q2 b2)) := by
  have c1 : ∀ x ∈ q, x.length ≤ 1048576 := fun x hx => by have := hq.2 x hx; omega
  have c2 : ∀ x ∈ p2, x.length ≤ 1048576 := fun x hx => by have := hp2.2 x hx; omega
  have hq1 := hq.1
  have hp1 := hp2.1
  simp only [rule_Chain.f]
  rw [Ev.bind_iff (rulecheck_ev x p a q b hp.1 hp.2 hq.1 hq.2)]
  unfold chaO
  by_cases h1 : ruleI p a q b = 0
  · simp only [h1, if_true]
    rw [Ev.bind_iff (rulecheck_ev x2 p2 a2 q2 b2 hp2.1 hp2.2 hq2.1 hq2.2)]
    by_cases h2 : ruleI p2 a2 q2 b2 = 0
    · simp only [h2, if_true]
      rw [Ev.bind_iff (meet_ev q p2 b a2 (by omega) (by omega) c1 c2)]
      cases h3 : meetP q b p2 a2 with
      | none =>
        simp only [meetV, Bool.false_eq_true, if_false]
        exact Ev.now _
      | some m =>
        obtain ⟨o, r⟩ := m
        simp only [meetV, if_true]
        have hm := meetP_len h3 hq hp2
        obtain ⟨e, he⟩ := carry_ev q o p b r a hq hm hp
        obtain ⟨e2, he2⟩ := carry_ev p2 o q2 a2 r b2 hp2 hm hq2
        rw [Ev.bind_iff he, Ev.bind_iff he2]
        cases h4 : sub2 p a (bindW q b o r) with
        | none =>
          simp only [carV, Bool.false_eq_true, if_false]
          exact Ev.now _
        | some y =>
          obtain ⟨y, f⟩ := y
          simp only [carV, if_true]
          cases h5 : sub2 q2 b2 (bindW p2 a2 o r) with
          | none =>
            simp only [Bool.false_eq_true, if_false]
            exact Ev.now _
          | some z =>
            obtain ⟨z, g⟩ := z
            simp only [if_true]
            exact Ev.now _
    · simp only [h2, if_false]
      exact Ev.now _
  · simp only [h1, if_false]
    exact Ev.now _

/-! ### what they mean -/
theorem nar_some {p q c o o' : List Bs} {a b cb r r' : Bool} {e : Int} (h : narO p a q b c cb = (some (o, r, o', r'), e)) :
    ruleI p a q b = 0 ∧ checkI c cb = 0 ∧ meetP p a c cb = some (o, r) ∧ sub2 q b (bindW p a o r) = some (o', r') := by
  unfold narO at h
  split at h
  · rename_i h1
    split at h
    · rename_i h2
      split at h
      · cases h
      · rename_i o1 r1 h3
        split at h
        · cases h
        · rename_i o2 r2 h4
          simp only [Prod.mk.injEq, Option.some.injEq] at h
          obtain ⟨⟨rfl, rfl, rfl, rfl⟩, _⟩ := h
          exact ⟨h1, h2, h3, h4⟩
    · cases h
  · cases h
theorem nar_none {p q c : List Bs} {a b cb : Bool} (h : narO p a q b c cb = (none, 0)) : ruleI p a q b = 0 ∧ checkI c cb = 0 ∧ meetP p a c cb = none := by
  unfold narO at h
  split at h
  · rename_i h1
    split at h
    · rename_i h2
      split at h
      · rename_i h3
        exact ⟨h1, h2, h3⟩
      · rename_i o1 r1 h3
        split at h
        · injection h with _ h; cases h
        · injection h with h _; cases h
    · rename_i h2
      injection h with _ h
      exact absurd h h2
  · rename_i h1
    injection h with _ h
    exact absurd h h1
theorem nar_words {p q c o o' : List Bs} {a b cb r r' : Bool} {e : Int} (h : narO p a q b c cb = (some (o, r, o', r'), e)) :
    ruleI o r o' r' = 0 ∧ ∀ ws, mapW o r o' ws = if (mat c cb ws).isSome = true then mapW p a q ws else none := by
  obtain ⟨h1, h2, h3, h4⟩ := nar_some h
  obtain ⟨k1, k2, k3, k4⟩ := ruleI_ok h1
  subst k4
  have hin := (meet_in h3).1
  have hb : bindW p a o r = bindP p a o r := by unfold bindW; rw [if_pos hin]
  rw [hb] at h4
  have h5 := sub2_bind hin
  obtain ⟨f1, f2, f3⟩ := map_sub h5 h4 k3
  subst f1
  refine ⟨ruleI_mk (meetP_check h3).1 (bind_sub2 h4).2.2 f2, fun ws => ?_⟩
  rw [f3 ws]
  have hh := meetP_hit k1 h2 ws
  by_cases hc : (mat c cb ws).isSome = true
  · rw [if_pos hc]
    by_cases hp : (mat p a ws).isSome = true
    · obtain ⟨o1, r1, e1, e2⟩ := hh.1 ⟨mat_hit.1 hp, mat_hit.1 hc⟩
      rw [h3] at e1
      injection e1 with e1
      injection e1 with e1 e3
      subst e1
      subst e3
      rw [if_pos (mat_hit.2 e2)]
    · have : mapW p a q ws = none := by
        rw [← Option.not_isSome_iff_eq_none, mapW_some]
        exact hp
      rw [this]
      split <;> rfl
  · rw [if_neg hc, if_neg]
    intro hm
    exact hc (mat_hit.2 (hh.2 ⟨o, _, h3, mat_hit.1 hm⟩).2)
theorem cha_some {p q p2 q2 x y : List Bs} {a b a2 b2 f g : Bool} {e : Int} (h : chaO p a q b p2 a2 q2 b2 = (some (x, f, y, g), e)) :
    ruleI p a q b = 0 ∧ ruleI p2 a2 q2 b2 = 0 ∧ ∃ o r, meetP q b p2 a2 = some (o, r) ∧ sub2 p a (bindW q b o r) = some (x, f) ∧ sub2 q2 b2 (bindW p2 a2 o r) = some (y, g) := by
  unfold chaO at h
  split at h
  · rename_i h1
    split at h
    · rename_i h2
      split at h
      · cases h
      · rename_i o1 r1 h3
        split at h
        · rename_i h4 h5
          simp only [Prod.mk.injEq, Option.some.injEq] at h
          obtain ⟨⟨rfl, rfl, rfl, rfl⟩, _⟩ := h
          exact ⟨h1, h2, o1, r1, h3, h4, h5⟩
        · cases h
    · cases h
  · cases h
theorem cha_none {p q p2 q2 : List Bs} {a b a2 b2 : Bool} (h : chaO p a q b p2 a2 q2 b2 = (none, 0)) : ruleI p a q b = 0 ∧ ruleI p2 a2 q2 b2 = 0 ∧ meetP q b p2 a2 = none := by
  unfold chaO at h
  split at h
  · rename_i h1
    split at h
    · rename_i h2
      split at h
      · rename_i h3
        exact ⟨h1, h2, h3⟩
      · rename_i o1 r1 h3
        split at h
        · injection h with h _; cases h
        · injection h with _ h; cases h
    · rename_i h2
      injection h with _ h
      exact absurd h h2
  · rename_i h1
    injection h with _ h
    exact absurd h h1
theorem cha_words {p q p2 q2 x y : List Bs} {a b a2 b2 f g : Bool} {e : Int} (h : chaO p a q b p2 a2 q2 b2 = (some (x, f, y, g), e)) :
    ruleI x f y g = 0 ∧ ∀ ws, mapW x f y ws = (mapW p a q ws).bind (mapW p2 a2 q2) := by
  obtain ⟨h1, h2, o, r, h3, h4, h5⟩ := cha_some h
  obtain ⟨k1, k2, k3, k4⟩ := ruleI_ok h1
  obtain ⟨l1, l2, l3, l4⟩ := ruleI_ok h2
  subst k4
  subst l4
  obtain ⟨i1, i2⟩ := meet_in h3
  have e1 : bindW q a o r = bindP q a o r := by unfold bindW; rw [if_pos i1]
  have e2 : bindW p2 a2 o r = bindP p2 a2 o r := by unfold bindW; rw [if_pos i2]
  rw [e1] at h4
  rw [e2] at h5
  have m1 := sub2_bind i1
  have m2 := sub2_bind i2
  obtain ⟨f1, f2, f3⟩ := map_sub h4 m1 k3
  obtain ⟨_, _, f4⟩ := map_sub m1 h4 k3.symm
  obtain ⟨g1, g2, g3⟩ := map_sub m2 h5 l3
  subst f1
  subst g1
  refine ⟨ruleI_mk (bind_sub2 h4).2.2 (bind_sub2 h5).2.2 (f2.trans g2), fun ws => ?_⟩
  rw [mapW_comp f2 ws, f3 ws]
  cases hw : mapW p a q ws with
  | none => split <;> rfl
  | some w1 =>
    simp only [Option.bind_some]
    cases hw2 : mapW p2 a2 q2 w1 with
    | none =>
      split
      · simp only [Option.bind_some, g3 w1, hw2]
        split <;> rfl
      · rfl
    | some w2 =>
      have hq1 : (mat q a w1).isSome = true := by rw [← mapW_some (q := p), mapW_inv k3 hw]; rfl
      have hp1 : (mat p2 a2 w1).isSome = true := by rw [← mapW_some (q := q2), hw2]; rfl
      obtain ⟨o', r', n1, n2⟩ := (meetP_hit k2 l1 w1).1 ⟨mat_hit.1 hq1, mat_hit.1 hp1⟩
      rw [h3] at n1
      injection n1 with n1
      injection n1 with n1 n3
      subst n1
      subst n3
      have ho := mat_hit.2 n2
      have hback := f4 w1
      rw [if_pos ho, mapW_inv k3 hw] at hback
      have hx : (mat x g ws).isSome = true := by rw [← mapW_some (q := o), mapW_inv f2.symm hback]; rfl
      rw [if_pos hx]
      simp only [Option.bind_some, g3 w1, if_pos ho, hw2]
end Go.Proofs.YthclkdplihchjaaDoor.P

/-
  Layer 4: how long a path is to which a line leads; what a pattern's own match says; what nothing says. No project text.
-/
import Derived.Test.YthclkdplihchjaaDoorNar2
import Derived.Test.YthclkdplihchjaaDoorPx3
namespace Go.Proofs.YthclkdplihchjaaDoor.P
open Go.RowKit Go.Proofs.YthclkdplihchjaaDoorW.PrintWords Go.Proofs.YthclkdplihchjaaDoor.Args
set_option linter.unusedVariables false
set_option linter.unusedSimpArgs false

theorem joinL_len : ∀ ws : List Bs, ws ≠ [] → (joinL ws).length + 1 = totalL ws + ws.length
  | [], h => absurd rfl h
  | [w], _ => by simp [joinL, totalL]
  | w :: v :: r, _ => by
    have ih := joinL_len (v :: r) (by simp)
    have e : joinL (w :: v :: r) = w ++ 47 :: joinL (v :: r) := rfl
    rw [e]
    simp only [totalL, List.map_cons, List.sum_cons, List.length_append, List.length_cons] at ih ⊢
    omega
theorem total_app (xs ys : List Bs) : totalL (xs ++ ys) = totalL xs + totalL ys := by simp [totalL, List.map_append, List.sum_append]
theorem total_fill : ∀ (q cs : List Bs), totalL (fillW q cs) ≤ totalL q + totalL cs
  | [], cs => by simp [fillW, totalL]
  | p :: ps, cs => by
    simp only [fillW]
    cases hs : starL p with
    | none =>
      have := total_fill ps cs
      simp only [totalL, List.map_cons, List.sum_cons] at this ⊢
      omega
    | some s =>
      have := total_fill ps cs.tail
      have hs := starL_len hs
      cases cs with
      | nil =>
        simp only [totalL, List.map_cons, List.sum_cons, List.headD_nil, List.nil_append, List.tail_nil, List.map_nil, List.sum_nil] at this ⊢
        omega
      | cons c cs =>
        simp only [totalL, List.map_cons, List.sum_cons, List.headD_cons, List.length_append, List.tail_cons] at this ⊢
        omega
theorem total_caps : ∀ (p cs : List Bs), cs.length = starsN p → totalL cs ≤ totalL (fillW p cs)
  | [], cs, h => by
    obtain rfl := List.eq_nil_of_length_eq_zero (show cs.length = 0 from h)
    simp [totalL]
  | p :: ps, cs, h => by
    rw [starsN_cons] at h
    simp only [fillW]
    cases hs : starL p with
    | none =>
      rw [hs] at h
      have := total_caps ps cs (by simpa using h)
      simp only [totalL, List.map_cons, List.sum_cons] at this ⊢
      omega
    | some s =>
      rw [hs] at h
      cases cs with
      | nil => simp at h
      | cons c cs =>
        have := total_caps ps cs (by simpa using h)
        simp only [totalL, List.map_cons, List.sum_cons, List.headD_cons, List.length_append, List.tail_cons] at this ⊢
        omega
theorem fwd_len {p q w1 : List Bs} {a : Bool} {l : Bs} (h : fwdW p a q l = some w1) (hw : w1 ≠ []) : (textL w1).length ≤ totalL q + q.length + l.length := by
  unfold fwdW at h
  obtain ⟨ws, h1, h2⟩ := Option.bind_eq_some_iff.1 h
  obtain ⟨cs, rw, h3, rfl⟩ := mapW_iff.1 h2
  obtain ⟨m1, _, m3, _⟩ := mat_iff.1 h3
  have hp := path_text h1
  have hne : ws ≠ [] := by
    rintro rfl
    have := hp.2.2
    simp at this
  have e1 := joinL_len ws hne
  have e2 := joinL_len _ hw
  have e3 : l.length = 2 + (joinL ws).length := by
    rw [hp.1]
    simp only [textL, List.length_cons]
    omega
  have e4 : (textL (fillW q cs ++ rw)).length = 2 + (joinL (fillW q cs ++ rw)).length := by
    simp only [textL, List.length_cons]
    omega
  have t1 := total_fill q cs
  have t2 := total_caps p cs m1
  have e5 : totalL ws = totalL (fillW p cs) + totalL rw := by rw [m3, total_app]
  have e6 : ws.length = p.length + rw.length := by rw [m3, List.length_append, fillW_length]
  rw [total_app, List.length_append, fillW_length] at e2
  omega
theorem small4_total {ps : List Bs} (h : small4B ps = true) : totalL ps ≤ 300 := by
  unfold small4B at h
  simp only [Bool.and_eq_true, decide_eq_true_eq] at h
  exact h.2
def hasB (c : List Bs) (cb : Bool) (l : Bs) : Bool := ((pathL l).bind (mat c cb)).isSome
theorem match_has {c : List Bs} {cb : Bool} (h : checkI c cb = 0) (l : Bs) : (matchP c cb l).isSome = hasB c cb l := by
  unfold matchP hasB
  cases pathL l with
  | none => rfl
  | some ws => simp only [Option.bind_some, matchW_mat, if_pos h, Option.isSome_map]
theorem rulV_e (x : Option Rul × Int) : (rulV x).2.2.2.2.2.2 = x.2 := by
  obtain ⟨o, e⟩ := x
  cases o <;> rfl
theorem fwdV_some (o : Option (List Bs)) : (fwdV o).2 = o.isSome := by cases o <;> rfl
theorem cha_e {p q p2 q2 : List Bs} {a b a2 b2 : Bool} {r : Rul} {e : Int} (h : chaO p a q b p2 a2 q2 b2 = (some r, e)) : e = 0 := by
  unfold chaO at h
  split at h
  · split at h
    · split at h
      · injection h with h _; cases h
      · split at h
        · injection h with _ h; exact h.symm
        · injection h with h _; cases h
    · injection h with h _; cases h
  · injection h with h _; cases h
theorem nar_e {p q c : List Bs} {a b cb : Bool} {r : Rul} {e : Int} (h : narO p a q b c cb = (some r, e)) : e = 0 := by
  unfold narO at h
  split at h
  · split at h
    · split at h
      · injection h with h _; cases h
      · split at h
        · injection h with h _; cases h
        · injection h with _ h; exact h.symm
    · injection h with h _; cases h
  · injection h with h _; cases h
theorem cha_len {p q p2 q2 x y : List Bs} {a b a2 b2 f g : Bool} {e : Int} {m : Nat} (h : chaO p a q b p2 a2 q2 b2 = (some (x, f, y, g), e)) (hp : len20 p m) (hq : len20 q m) (hp2 : len20 p2 m) (hq2 : len20 q2 m) : len20 x (m + m) ∧ len20 y (m + m) := by
  obtain ⟨_, _, o, r, h3, h4, h5⟩ := cha_some h
  have hm := meetP_len h3 hq hp2
  exact ⟨sub2_len h4 hp.2 (fun z hz => ((bindW_sizes hm.2).2 z hz).2), sub2_len h5 hq2.2 (fun z hz => ((bindW_sizes hm.2).2 z hz).2)⟩
theorem nar_len {p q c o o' : List Bs} {a b cb r r' : Bool} {e : Int} {m : Nat} (h : narO p a q b c cb = (some (o, r, o', r'), e)) (hp : len20 p m) (hq : len20 q m) (hc : len20 c m) : len20 o (m + m) ∧ len20 o' (m + m) := by
  obtain ⟨_, _, h3, h4⟩ := nar_some h
  have hm := meetP_len h3 hp hc
  exact ⟨⟨hm.1, fun x hx => by have := hm.2 x hx; omega⟩, sub2_len h4 hq.2 (fun z hz => ((bindW_sizes hm.2).2 z hz).2)⟩
/-- Forward, at a short path. -/
theorem fwd_ev (z : Bool) {p q : List Bs} {a b : Bool} (s : ByteArray) (hp : len20 p 1000) (hq : len20 q 1000) (hs : (L s).length ≤ 1000) (hr : ruleI p a q b = 0) :
    Ev (fun k => rule_Forward.f k z (Ss p) a (Ss q) b s) (fwdV (fwdW p a q (L s))) := by
  have hsz := size_eq s
  have := forward_ev z p a q b s hp.1 hp.2 hq.1 hq.2 (by omega) (fun o ho => match_size2 ho hs)
  rw [(forward_words hr (L s)).1] at this
  exact this
end Go.Proofs.YthclkdplihchjaaDoor.P

/-
  Layer 3: what pattern.narrower and Meet come to. No project text.
-/
import Derived.Test.YthclkdplihchjaaDoorMeet0
import Derived.Test.YthclkdplihchjaaDoorPx1
import Derived.Test.YthclkdplihchjaaDoorPx6
namespace Go.Proofs.YthclkdplihchjaaDoor.P
open Go.RowKit Go.Proofs.YthclkdplihchjaaDoorW.PrintWords Go.Proofs.YthclkdplihchjaaDoor.Args
set_option linter.unusedVariables false
set_option linter.unusedSimpArgs false

theorem form_of {x : Bs} (h : partB x = true) : formR x = match starL x with | some r => (2, S r) | none => (1, S []) := by
  unfold formR
  rcases part_cases h with ⟨h1, h2⟩ | ⟨s, h1, _⟩
  · simp [h1, h2]
  · simp [h1]
theorem narrower_ev (a b : ByteArray) (ha : a.size ≤ 1048576) (hb : b.size ≤ 1048576) (pa : partB (L a) = true) (pb : partB (L b) = true) :
    ∃ x, Ev (fun k => pattern_narrower.f k a b) (x, (narR (L a) (L b)).isSome) ∧ ∀ c, narR (L a) (L b) = some c → x = S c := by
  have hsa := size_eq a
  have hsb := size_eq b
  have n21 : ¬ (2 : Int) = 1 := by decide
  have e11 : ((1 : Int) == 1) = true := by decide
  have e21 : ((2 : Int) == 1) = false := by decide
  simp only [pattern_narrower.f]
  cases sa : starL (L a) with
  | none =>
    have fa : formR (L a) = (1, S []) := by rw [form_of pa, sa]
    cases sb : starL (L b) with
    | none =>
      have fb : formR (L b) = (1, S []) := by rw [form_of pb, sb]
      refine ⟨a, ?_, fun c hc => ?_⟩
      · rw [Ev.bind_iff (form_ev a ha), Ev.bind_iff (form_ev b hb), fa, fb]
        simp only [if_true, e11]
        refine Ev.succ ?_
        simp only [pattern_narrower.j0, if_true, narR, sa, sb]
        rw [Ev.some_iff, toList_eq, toList_eq]
        by_cases h : L a = L b
        · simp [h]
        · simp [h]
      · simp only [narR, sa, sb] at hc
        split at hc
        · injection hc with hc
          rw [← hc, S_L]
        · cases hc
    | some t =>
      have fb : formR (L b) = (2, S t) := by rw [form_of pb, sb]
      refine ⟨a, ?_, fun c hc => ?_⟩
      · rw [Ev.bind_iff (form_ev a ha), Ev.bind_iff (form_ev b hb), fa, fb]
        simp only [if_true, e21]
        refine Ev.succ ?_
        simp only [pattern_narrower.j0, if_true, if_false, Bool.false_eq_true, narR, sa, sb]
        rw [capture_eq _ _ (by omega), L_S, Option.bind_some, Ev.some_iff]
        cases hc : capR (L a) t <;> simp [strR]
      · simp only [narR, sa, sb] at hc
        split at hc
        · injection hc with hc
          rw [← hc, S_L]
        · cases hc
  | some s =>
    have fa : formR (L a) = (2, S s) := by rw [form_of pa, sa]
    cases sb : starL (L b) with
    | none =>
      have fb : formR (L b) = (1, S []) := by rw [form_of pb, sb]
      refine ⟨b, ?_, fun c hc => ?_⟩
      · rw [Ev.bind_iff (form_ev a ha), Ev.bind_iff (form_ev b hb), fa, fb]
        simp only [if_neg n21]
        refine Ev.succ ?_
        simp only [pattern_narrower.j0, if_true, if_false, Bool.false_eq_true, if_neg n21, narR, sa, sb]
        rw [capture_eq _ _ (by omega), L_S, Option.bind_some, Ev.some_iff]
        cases hc : capR (L b) s <;> simp [strR]
      · simp only [narR, sa, sb] at hc
        split at hc
        · injection hc with hc
          rw [← hc, S_L]
        · cases hc
    | some t =>
      have fb : formR (L b) = (2, S t) := by rw [form_of pb, sb]
      have hls : s.length ≤ 1048576 := by have := star_some sa; rw [this, List.length_cons] at hsa; omega
      have hlt : t.length ≤ 1048576 := by have := star_some sb; rw [this, List.length_cons] at hsb; omega
      have h1 : strings_HasSuffix.f (S s) (S t) = some (t.isSuffixOf s) := by
        simp only [strings_HasSuffix.f]
        rw [hasSuffix_eq _ _ (by rw [size_S]; omega), Option.bind_some, L_S, L_S]
      have h2 : strings_HasSuffix.f (S t) (S s) = some (s.isSuffixOf t) := by
        simp only [strings_HasSuffix.f]
        rw [hasSuffix_eq _ _ (by rw [size_S]; omega), Option.bind_some, L_S, L_S]
      by_cases ht : t.isSuffixOf s = true
      · refine ⟨a, ?_, fun c hc => ?_⟩
        · rw [Ev.bind_iff (form_ev a ha), Ev.bind_iff (form_ev b hb), fa, fb]
          simp only [if_neg n21]
          refine Ev.succ ?_
          simp only [pattern_narrower.j0, if_true, if_false, Bool.false_eq_true, if_neg n21, narR, sa, sb, h1, Option.bind_some, ht, Option.isSome_some]
          exact Ev.now _
        · simp only [narR, sa, sb, ht, if_true] at hc
          injection hc with hc
          rw [← hc, S_L]
      · refine ⟨b, ?_, fun c hc => ?_⟩
        · rw [Ev.bind_iff (form_ev a ha), Ev.bind_iff (form_ev b hb), fa, fb]
          simp only [if_neg n21]
          refine Ev.succ ?_
          simp only [pattern_narrower.j0, if_true, if_false, Bool.false_eq_true, if_neg n21, narR, sa, sb, h1, h2, Option.bind_some, ht]
          rw [Ev.some_iff]
          by_cases hs : s.isSuffixOf t = true
          · simp [hs]
          · simp [hs]
        · simp only [narR, sa, sb, ht, if_false, Bool.false_eq_true] at hc
          split at hc
          · injection hc with hc
            rw [← hc, S_L]
          · cases hc
def meetV (o : Option (List Bs × Bool)) : List ByteArray × Bool × Bool := match o with
  | some (o, r) => (Ss o, r, true)
  | none => ([], false, false)
theorem meetV_cons (acc : List Bs) (c : Bs) (b : Bool) (o : Option (List Bs)) : meetV ((o.map (c :: ·)).map fun o => (acc ++ o, b)) = meetV (o.map fun o => ((acc ++ [c]) ++ o, b)) := by
  cases o <;> simp [meetV]
theorem meet_loop_l0 (ps qs : List Bs) (b' : Bool) (hl : qs.length ≤ 1048576) (hpq : ps.length ≤ qs.length) (hx : ∀ x ∈ ps, x.length ≤ 1048576) (hy : ∀ x ∈ qs, x.length ≤ 1048576) (hp : ∀ x ∈ ps, partB x = true) (hq : ∀ x ∈ qs, partB x = true) :
    ∀ (d i : Nat) (acc : List Bs), i + d = ps.length → acc.length = i →
    Ev (fun k => pattern_Meet.l0 k (ps.length : Int) (Ss acc) (Ss ps) (ps.length : Int) (i : Int) (Ss qs) b') (meetV ((meetL (ps.drop i) (qs.drop i)).map fun o => (acc ++ o, b'))) := by
  intro d
  induction d with
  | zero =>
    intro i acc hi ha
    have e : i = ps.length := by omega
    subst e
    refine Ev.succ ?_
    have c1 : ¬ ((ps.length : Int) < (ps.length : Int)) := by omega
    have c2 : (0 : Int) ≤ (ps.length : Int) := by omega
    have c3 : (ps.length : Int) ≤ ((Ss acc).length : Int) := by rw [Ss_length]; omega
    have c4 : ((Ss acc).length : Int) ≤ (ps.length : Int) := by rw [Ss_length]; omega
    have c5 : (ps.length : Int) ≤ ((Ss qs).length : Int) := by rw [Ss_length]; omega
    have ht : (Ss acc).take ps.length = Ss acc := List.take_of_length_le (by rw [Ss_length]; omega)
    have c6 : (Ss acc).length + (Ss (qs.drop ps.length)).length < 8796093022208 := by rw [Ss_length, Ss_length, List.length_drop]; omega
    simp only [pattern_Meet.l0, if_neg c1, if_pos c2, if_pos c3, if_pos c4, if_pos c5, Option.bind_some, Int.toNat_natCast, ht, Ss_drop, if_pos c6, Ss_append]
    rw [List.drop_length, Ev.some_iff]
    rfl
  | succ d ih =>
    intro i acc hi ha
    have hlt : i < ps.length := by omega
    have hlt2 : i < qs.length := by omega
    have pa := hp _ (List.getElem_mem hlt)
    have pb := hq _ (List.getElem_mem hlt2)
    have la := hx _ (List.getElem_mem hlt)
    have lb := hy _ (List.getElem_mem hlt2)
    refine Ev.succ ?_
    have c1 : (i : Int) < (ps.length : Int) := by omega
    have c2 : (0 : Int) ≤ (i : Int) := by omega
    have c3 : (i : Int) < ((Ss ps).length : Int) := by rw [Ss_length]; omega
    have c4 : (i : Int) < ((Ss qs).length : Int) := by rw [Ss_length]; omega
    have c5 : (Ss acc).length < 8796093022208 := by rw [Ss_length]; omega
    have e : wrap64 ((i : Int) + 1) = ((i + 1 : Nat) : Int) := by rw [wrap64_id (by omega) (by omega)]; omega
    simp only [pattern_Meet.l0, if_pos c1, if_pos c2, if_pos c3, if_pos c4, if_pos c5, e]
    rw [rd_Ss ps i hlt, rd_Ss qs i hlt2]
    obtain ⟨x, hx1, hx2⟩ := narrower_ev (S ps[i]) (S qs[i]) (by rw [size_S]; omega) (by rw [size_S]; omega) (by rw [L_S]; exact pa) (by rw [L_S]; exact pb)
    rw [Ev.bind_iff hx1, List.drop_eq_getElem_cons hlt, List.drop_eq_getElem_cons hlt2]
    rw [L_S, L_S] at *
    simp only [meetL]
    cases hc : narR ps[i] qs[i] with
    | none =>
      simp only [Option.isSome_none, Bool.false_eq_true, if_false]
      exact Ev.now _
    | some c =>
      have e2 := hx2 c hc
      subst e2
      simp only [Option.isSome_some, if_true, Ss_snoc]
      rw [meetV_cons]
      exact ih (i + 1) (acc ++ [c]) (by omega) (by simp; omega)
theorem meet_make_l0 (ps qs : List Bs) (b b' : Bool) (hl : qs.length ≤ 1048576) (hpq : ps.length ≤ qs.length) (hx : ∀ x ∈ ps, x.length ≤ 1048576) (hy : ∀ x ∈ qs, x.length ≤ 1048576) (hp : ∀ x ∈ ps, partB x = true) (hq : ∀ x ∈ qs, partB x = true) :
    Ev (fun k => pattern_Meet.j2 k (ps.length : Int) (Ss ps) b (Ss qs) b') (meetV ((meetL ps qs).map fun o => (o, b'))) := by
  refine Ev.succ ?_
  have c1 : (0 : Int) ≤ (qs.length : Int) := by omega
  have c2 : ((qs.length : Int)).toNat ≤ 17592186044416 := by omega
  simp only [pattern_Meet.j2, Ss_length, if_pos c1, if_pos c2]
  have := meet_loop_l0 ps qs b' hl hpq hx hy hp hq ps.length 0 [] (by omega) rfl
  exact this
theorem meet_mid_l0 (ps qs : List Bs) (b b' : Bool) (hl : qs.length ≤ 1048576) (hpq : ps.length ≤ qs.length) (hx : ∀ x ∈ ps, x.length ≤ 1048576) (hy : ∀ x ∈ qs, x.length ≤ 1048576) (hp : ∀ x ∈ ps, partB x = true) (hq : ∀ x ∈ qs, partB x = true) :
    Ev (fun k => if ((Ss ps).length : Int) < ((Ss qs).length : Int) then pattern_Meet.j1 k ((Ss ps).length : Int) (!b) (Ss ps) b (Ss qs) b' else pattern_Meet.j1 k ((Ss ps).length : Int) false (Ss ps) b (Ss qs) b') (meetV (meet1 ps b qs b')) := by
  have go := meet_make_l0 ps qs b b' hl hpq hx hy hp hq
  have yes : ∀ n, Ev (fun k => pattern_Meet.j1 k n true (Ss ps) b (Ss qs) b') ([], false, false) := by
    intro n
    refine Ev.succ ?_
    simp only [pattern_Meet.j1, if_true]
    exact Ev.now _
  unfold meet1
  simp only [Ss_length]
  by_cases hlt : ps.length < qs.length
  · have c1 : (ps.length : Int) < (qs.length : Int) := by omega
    have ne : ¬ ps.length = qs.length := by omega
    have ne' : ¬ ((ps.length : Int) = (qs.length : Int)) := by omega
    simp only [if_pos c1]
    cases b
    · rw [if_pos (.inl ⟨hlt, rfl⟩)]
      simp only [Bool.not_false]
      exact yes _
    · rw [if_neg (by
        rintro (⟨_, h⟩ | ⟨h, _⟩)
        · cases h
        · exact ne h)]
      simp only [Bool.not_true]
      refine Ev.succ ?_
      simp only [pattern_Meet.j1, Bool.false_eq_true, if_false, Ss_length, if_neg ne']
      exact go
  · have c1 : ¬ (ps.length : Int) < (qs.length : Int) := by omega
    have he : ps.length = qs.length := by omega
    have he' : (ps.length : Int) = (qs.length : Int) := by omega
    simp only [if_neg c1]
    refine Ev.succ ?_
    simp only [pattern_Meet.j1, Bool.false_eq_true, if_false, Ss_length, if_pos he']
    by_cases hb : b = b'
    · have : (b != b') = false := by rw [hb]; simp
      rw [if_neg (by
        rintro (⟨h, _⟩ | ⟨_, h⟩)
        · exact hlt h
        · exact h hb)]
      simp only [this, Bool.false_eq_true, if_false]
      exact go
    · have : (b != b') = true := by rw [bne_iff_ne]; exact hb
      rw [if_pos (.inr ⟨he, hb⟩)]
      simp only [this, if_true]
      exact Ev.now _
theorem meet_loop_l100 (ps qs : List Bs) (b' : Bool) (hl : qs.length ≤ 1048576) (hpq : ps.length ≤ qs.length) (hx : ∀ x ∈ ps, x.length ≤ 1048576) (hy : ∀ x ∈ qs, x.length ≤ 1048576) (hp : ∀ x ∈ ps, partB x = true) (hq : ∀ x ∈ qs, partB x = true) :
    ∀ (d i : Nat) (acc : List Bs), i + d = ps.length → acc.length = i →
    Ev (fun k => pattern_Meet.l100 k (ps.length : Int) (Ss acc) (Ss ps) (ps.length : Int) (i : Int) (Ss qs) b') (meetV ((meetL (ps.drop i) (qs.drop i)).map fun o => (acc ++ o, b'))) := by
  intro d
  induction d with
  | zero =>
    intro i acc hi ha
    have e : i = ps.length := by omega
    subst e
    refine Ev.succ ?_
    have c1 : ¬ ((ps.length : Int) < (ps.length : Int)) := by omega
    have c2 : (0 : Int) ≤ (ps.length : Int) := by omega
    have c3 : (ps.length : Int) ≤ ((Ss acc).length : Int) := by rw [Ss_length]; omega
    have c4 : ((Ss acc).length : Int) ≤ (ps.length : Int) := by rw [Ss_length]; omega
    have c5 : (ps.length : Int) ≤ ((Ss qs).length : Int) := by rw [Ss_length]; omega
    have ht : (Ss acc).take ps.length = Ss acc := List.take_of_length_le (by rw [Ss_length]; omega)
    have c6 : (Ss acc).length + (Ss (qs.drop ps.length)).length < 8796093022208 := by rw [Ss_length, Ss_length, List.length_drop]; omega
    simp only [pattern_Meet.l100, if_neg c1, if_pos c2, if_pos c3, if_pos c4, if_pos c5, Option.bind_some, Int.toNat_natCast, ht, Ss_drop, if_pos c6, Ss_append]
    rw [List.drop_length, Ev.some_iff]
    rfl
  | succ d ih =>
    intro i acc hi ha
    have hlt : i < ps.length := by omega
    have hlt2 : i < qs.length := by omega
    have pa := hp _ (List.getElem_mem hlt)
    have pb := hq _ (List.getElem_mem hlt2)
    have la := hx _ (List.getElem_mem hlt)
    have lb := hy _ (List.getElem_mem hlt2)
    refine Ev.succ ?_
    have c1 : (i : Int) < (ps.length : Int) := by omega
    have c2 : (0 : Int) ≤ (i : Int) := by omega
    have c3 : (i : Int) < ((Ss ps).length : Int) := by rw [Ss_length]; omega
    have c4 : (i : Int) < ((Ss qs).length : Int) := by rw [Ss_length]; omega
    have c5 : (Ss acc).length < 8796093022208 := by rw [Ss_length]; omega
    have e : wrap64 ((i : Int) + 1) = ((i + 1 : Nat) : Int) := by rw [wrap64_id (by omega) (by omega)]; omega
    simp only [pattern_Meet.l100, if_pos c1, if_pos c2, if_pos c3, if_pos c4, if_pos c5, e]
    rw [rd_Ss ps i hlt, rd_Ss qs i hlt2]
    obtain ⟨x, hx1, hx2⟩ := narrower_ev (S ps[i]) (S qs[i]) (by rw [size_S]; omega) (by rw [size_S]; omega) (by rw [L_S]; exact pa) (by rw [L_S]; exact pb)
    rw [Ev.bind_iff hx1, List.drop_eq_getElem_cons hlt, List.drop_eq_getElem_cons hlt2]
    rw [L_S, L_S] at *
    simp only [meetL]
    cases hc : narR ps[i] qs[i] with
    | none =>
      simp only [Option.isSome_none, Bool.false_eq_true, if_false]
      exact Ev.now _
    | some c =>
      have e2 := hx2 c hc
      subst e2
      simp only [Option.isSome_some, if_true, Ss_snoc]
      rw [meetV_cons]
      exact ih (i + 1) (acc ++ [c]) (by omega) (by simp; omega)
theorem meet_make_l100 (ps qs : List Bs) (b b' : Bool) (hl : qs.length ≤ 1048576) (hpq : ps.length ≤ qs.length) (hx : ∀ x ∈ ps, x.length ≤ 1048576) (hy : ∀ x ∈ qs, x.length ≤ 1048576) (hp : ∀ x ∈ ps, partB x = true) (hq : ∀ x ∈ qs, partB x = true) :
    Ev (fun k => pattern_Meet.j5 k (ps.length : Int) (Ss ps) b (Ss qs) b') (meetV ((meetL ps qs).map fun o => (o, b'))) := by
  refine Ev.succ ?_
  have c1 : (0 : Int) ≤ (qs.length : Int) := by omega
  have c2 : ((qs.length : Int)).toNat ≤ 17592186044416 := by omega
  simp only [pattern_Meet.j5, Ss_length, if_pos c1, if_pos c2]
  have := meet_loop_l100 ps qs b' hl hpq hx hy hp hq ps.length 0 [] (by omega) rfl
  exact this
theorem meet_mid_l100 (ps qs : List Bs) (b b' : Bool) (hl : qs.length ≤ 1048576) (hpq : ps.length ≤ qs.length) (hx : ∀ x ∈ ps, x.length ≤ 1048576) (hy : ∀ x ∈ qs, x.length ≤ 1048576) (hp : ∀ x ∈ ps, partB x = true) (hq : ∀ x ∈ qs, partB x = true) :
    Ev (fun k => if ((Ss ps).length : Int) < ((Ss qs).length : Int) then pattern_Meet.j4 k ((Ss ps).length : Int) (!b) (Ss ps) b (Ss qs) b' else pattern_Meet.j4 k ((Ss ps).length : Int) false (Ss ps) b (Ss qs) b') (meetV (meet1 ps b qs b')) := by
  have go := meet_make_l100 ps qs b b' hl hpq hx hy hp hq
  have yes : ∀ n, Ev (fun k => pattern_Meet.j4 k n true (Ss ps) b (Ss qs) b') ([], false, false) := by
    intro n
    refine Ev.succ ?_
    simp only [pattern_Meet.j4, if_true]
    exact Ev.now _
  unfold meet1
  simp only [Ss_length]
  by_cases hlt : ps.length < qs.length
  · have c1 : (ps.length : Int) < (qs.length : Int) := by omega
    have ne : ¬ ps.length = qs.length := by omega
    have ne' : ¬ ((ps.length : Int) = (qs.length : Int)) := by omega
    simp only [if_pos c1]
    cases b
    · rw [if_pos (.inl ⟨hlt, rfl⟩)]
      simp only [Bool.not_false]
      exact yes _
    · rw [if_neg (by
        rintro (⟨_, h⟩ | ⟨h, _⟩)
        · cases h
        · exact ne h)]
      simp only [Bool.not_true]
      refine Ev.succ ?_
      simp only [pattern_Meet.j4, Bool.false_eq_true, if_false, Ss_length, if_neg ne']
      exact go
  · have c1 : ¬ (ps.length : Int) < (qs.length : Int) := by omega
    have he : ps.length = qs.length := by omega
    have he' : (ps.length : Int) = (qs.length : Int) := by omega
    simp only [if_neg c1]
    refine Ev.succ ?_
    simp only [pattern_Meet.j4, Bool.false_eq_true, if_false, Ss_length, if_pos he']
    by_cases hb : b = b'
    · have : (b != b') = false := by rw [hb]; simp
      rw [if_neg (by
        rintro (⟨h, _⟩ | ⟨_, h⟩)
        · exact hlt h
        · exact h hb)]
      simp only [this, Bool.false_eq_true, if_false]
      exact go
    · have : (b != b') = true := by rw [bne_iff_ne]; exact hb
      rw [if_pos (.inr ⟨he, hb⟩)]
      simp only [this, if_true]
      exact Ev.now _
theorem meet_ev (ps qs : List Bs) (b b' : Bool) (h1 : ps.length ≤ 1048576) (h2 : qs.length ≤ 1048576) (hx : ∀ x ∈ ps, x.length ≤ 1048576) (hy : ∀ x ∈ qs, x.length ≤ 1048576) :
    Ev (fun k => pattern_Meet.f k (Ss ps) b (Ss qs) b') (meetV (meetP ps b qs b')) := by
  have yes : Ev (fun k => pattern_Meet.j0 k true (Ss ps) b (Ss qs) b') ([], false, false) := by
    refine Ev.succ ?_
    simp only [pattern_Meet.j0, if_true]
    exact Ev.now _
  simp only [pattern_Meet.f]
  rw [Ev.bind_iff (check_ev ps b h1 hx)]
  unfold meetP
  by_cases hc : checkI ps b = 0
  · simp only [hc, if_true, true_and]
    rw [Ev.bind_iff (check_ev qs b' h2 hy)]
    by_cases hc2 : checkI qs b' = 0
    · have p1 := (check_ok hc).2.2.1
      have p2 := (check_ok hc2).2.2.1
      have e0 : ((0 : Int) != 0) = false := by decide
      simp only [hc2, if_true, e0]
      refine Ev.succ ?_
      simp only [pattern_Meet.j0, Bool.false_eq_true, if_false]
      by_cases hlt : qs.length < ps.length
      · have c1 : ((Ss ps).length : Int) > ((Ss qs).length : Int) := by rw [Ss_length, Ss_length]; omega
        simp only [if_pos c1, if_pos hlt]
        have h := meet_mid_l0 qs ps b' b h1 (by omega) hy hx p2 p1
        simp only [if_pos (show ((Ss qs).length : Int) < ((Ss ps).length : Int) from c1)] at h
        exact h
      · have c1 : ¬ ((Ss ps).length : Int) > ((Ss qs).length : Int) := by rw [Ss_length, Ss_length]; omega
        simp only [if_neg c1, if_neg hlt]
        exact meet_mid_l100 ps qs b b' h2 (by omega) hx hy p1 p2
    · have e0 : (checkI qs b' != 0) = true := by rw [bne_iff_ne]; exact hc2
      simp only [hc2, if_false, e0]
      exact yes
  · simp only [hc, if_false, false_and]
    exact yes
end Go.Proofs.YthclkdplihchjaaDoor.P

/-
  The pure statement of FiletypeSteps.
-/
import Derived.Test.YtolmcdglemkchaaDoorStFiletypeSteps
import Derived.Test.YtolmcdglemkchaaDoorFol2
namespace Go.Proofs.YtolmcdglemkchaaDoor.P
open Go.RowKit Go.Proofs.YtolmcdglemkchaaDoorW.PrintWords Go.Proofs.YtolmcdglemkchaaDoor.Args
set_option linter.unusedVariables false
set_option linter.unusedSimpArgs false

theorem steps_sizes (B : Nat) : ∀ (ts acc r : List Bs), (∀ x ∈ acc, x.length ≤ B) → (∀ x ∈ ts, x.length ≤ B) → stepsL acc ts = some r → r.length ≤ acc.length + ts.length ∧ ∀ x ∈ r, x.length ≤ B := by
  intro ts
  induction ts with
  | nil =>
    intro acc r h1 h2 h
    injection h with h
    subst h
    exact ⟨by simp, h1⟩
  | cons s ts ih =>
    intro acc r h1 h2 h
    have h3 : ∀ x ∈ ts, x.length ≤ B := fun x hx => h2 x (List.mem_cons_of_mem _ hx)
    rw [List.length_cons]
    rw [stepsL] at h
    split at h
    · have := ih acc r h1 h3 h
      exact ⟨by omega, this.2⟩
    · split at h
      · split at h
        · cases h
        · have := ih acc.dropLast r (drop_sizes h1) h3 h
          rw [List.length_dropLast] at this
          exact ⟨by omega, this.2⟩
      · split at h
        · have := ih (acc ++ [s]) r (snoc_sizes h1 (h2 s List.mem_cons_self)) h3 h
          rw [List.length_append, List.length_singleton] at this
          exact ⟨by omega, this.2⟩
        · cases h
theorem path_sizes {l : Bs} {p : List Bs} (h : pathL l = some p) : ∀ x ∈ p, x.length ≤ l.length := by
  intro x hx
  have hd := (pathL_length h).2.2
  unfold dirL at hd
  split at hd
  · injection hd with hd
    subst hd
    have := splitL_length_le _ x hx
    rw [List.length_drop] at this
    omega
  · cases hd

theorem Pure.FiletypeSteps : St.FiletypeSteps := by
  intro s t a hs ht ha
  refine Ev.rounds ?_
  have zs := size_eq s
  have zt := size_eq t
  have za := size_eq a
  have none_ : Ev (fun k => (stockyardlaw09_awake.f k).bind fun t => some t) true := by rw [Ev.bind_some]; exact awake09
  have long : Ev (fun k => stockyardlaw09_FiletypeSteps.j0 k s t a true) true := by
    refine Ev.succ ?_
    simp only [stockyardlaw09_FiletypeSteps.j0, if_true]
    exact none_
  simp only [stockyardlaw09_FiletypeSteps.f]
  by_cases h1 : (s.size : Int) > 300
  · simp only [if_pos h1]
    exact long
  simp only [if_neg h1]
  by_cases h2 : (t.size : Int) > 150
  · simp only [if_pos h2]
    exact long
  simp only [if_neg h2]
  by_cases h3 : (a.size : Int) > 20
  · simp only [h3, decide_true]
    exact long
  simp only [h3, decide_false]
  refine Ev.succ ?_
  simp only [stockyardlaw09_FiletypeSteps.j0, Bool.false_eq_true, if_false]
  rw [Ev.bind_iff (follow_ev s t (by omega) (by omega))]
  by_cases h4 : (followL (L s) (L t)).2 = 0
  case neg =>
    simp only [if_neg h4]
    exact none_
  obtain ⟨p, acc, hp, htg, hh, hst, hacc, hfl⟩ := followL_inv h4
  have hpt := path_text hp
  have hpl := pathL_length hp
  have hd1 : 1 ≤ p.dropLast.length := by rw [List.length_dropLast]; omega
  have hk := steps_keep (splitL (L t)) p.dropLast acc hd1 (all_drop hpt.2.1) hst
  have hpath : pathL (textL acc) = some acc := text_path hk.2.1 hacc
  have tp := target_parts htg
  -- the text it leads to is short
  have hjs : acc.length ≤ 1000 ∧ ∀ x ∈ acc, x.length ≤ 1000 := by
    have hc := splitL_count (L t)
    have hcl : (L t).count 47 ≤ (L t).length := List.count_le_length
    have := steps_sizes 1000 (splitL (L t)) p.dropLast acc (drop_sizes (fun x hx => by have := path_sizes hp x hx; omega)) (fun x hx => by have := splitL_length_le _ x hx; omega) hst
    rw [List.length_dropLast] at this
    exact ⟨by omega, this.2⟩
  have hts : (S (textL acc)).size ≤ 1048576 := by
    have hb := joinL_bound 1000 acc hjs.2
    have : acc.length * (1000 + 1) ≤ 1000 * (1000 + 1) := Nat.mul_le_mul_right _ hjs.1
    rw [size_S]
    simp only [textL, List.length_cons]
    omega
  rw [hfl]
  simp only [if_true]
  rw [Ev.bind_iff (split_path_ev s (by omega)), hp, Ev.bind_iff (split_path_ev _ hts), L_S, hpath]
  simp only [pathR, if_true, Ss_length]
  have hpos : 0 < p.length := by omega
  have hpos2 : 0 < acc.length := by omega
  simp (disch := omega) only [if_neg, if_pos]
  have hhead : ((rdOf ByteArray.empty (Ss p) 0).toList != (rdOf ByteArray.empty (Ss acc) 0).toList) = false := by
    have e1 := Ss_rd p 0 hpos
    have e2 := Ss_rd acc 0 hpos2
    rw [show ((0 : Nat) : Int) = 0 from rfl] at e1 e2
    rw [e1, e2, toList_eq, toList_eq, L_S, L_S]
    have e3 : p.dropLast.head? = p.head? := by
      match p, hpl.1 with
      | x :: y :: q, _ => rfl
    have e4 := hk.2.2.trans e3
    rw [List.head?_eq_getElem?, List.head?_eq_getElem?, List.getElem?_eq_getElem hpos, List.getElem?_eq_getElem hpos2] at e4
    rw [Option.some.inj e4]
    simp
  rw [hhead]
  refine Ev.succ ?_
  simp only [stockyardlaw09_FiletypeSteps.j1, Bool.false_eq_true, if_false]
  have ed : L ((⟨#[46, 47]⟩ : ByteArray) ++ t) = 46 :: 47 :: L t := by
    rw [append_eq]
    rfl
  have fd : followL (L s) (L ((⟨#[46, 47]⟩ : ByteArray) ++ t)) = (S (textL acc), 0) := by
    have htg2 : targetL (46 :: 47 :: L t) = true := decide_eq_true ⟨by simp, by simp only [List.length_cons]; omega, by simp [tp.2.2.1], by simp [tp.2.2.2]⟩
    rw [ed, followL_ok hp htg2 (by simp), show (46 :: 47 :: L t : Bs) = [46] ++ 47 :: L t from rfl, splitL_some (by decide), steps_dot, hst, endL]
    rw [if_neg (by omega)]
  have zd : ((⟨#[46, 47]⟩ : ByteArray) ++ t).size ≤ 400 := by
    rw [size_eq, ed]
    simp only [List.length_cons]
    omega
  simp (disch := omega) only [if_pos]
  rw [Ev.bind_iff (follow_ev s _ (by omega) zd), fd]
  simp only [if_true, bne_self_eq_false]
  refine Ev.succ ?_
  simp only [stockyardlaw09_FiletypeSteps.j2, Bool.false_eq_true, if_false]
  rw [Ev.bind_iff (comp_ev a (by omega))]
  cases hc : compL (L a) with
  | false =>
    simp only [Bool.false_eq_true, if_false]
    exact none_
  | true =>
    have f := comp_facts hc
    have eu : L ((a ++ (⟨#[47, 46, 46, 47]⟩ : ByteArray)) ++ t) = L a ++ 47 :: 46 :: 46 :: 47 :: L t := by
      rw [append_eq, append_eq, List.append_assoc]
      rfl
    have zu : ((a ++ (⟨#[47, 46, 46, 47]⟩ : ByteArray)) ++ t).size ≤ 400 := by
      rw [size_eq, eu, List.length_append]
      simp only [List.length_cons]
      omega
    have za4 : (a ++ (⟨#[47, 46, 46, 47]⟩ : ByteArray)).size ≤ 24 := by
      rw [ByteArray.size_append]
      have : (⟨#[47, 46, 46, 47]⟩ : ByteArray).size = 4 := rfl
      omega
    have fu : followL (L s) (L ((a ++ (⟨#[47, 46, 46, 47]⟩ : ByteArray)) ++ t)) = (S (textL acc), 0) := by
      have hne : (L a ++ 47 :: 46 :: 46 :: 47 :: L t).head? ≠ some 47 := by
        intro e
        cases hL : L a with
        | nil => exact f.1 hL
        | cons c r =>
          rw [hL] at e
          simp only [List.cons_append, List.head?_cons, Option.some.injEq] at e
          exact f.2.2.2.2.2 (by rw [hL, e]; exact List.mem_cons_self)
      have htg2 : targetL (L a ++ 47 :: 46 :: 46 :: 47 :: L t) = true := decide_eq_true ⟨by simp, by rw [List.length_append]; simp only [List.length_cons]; omega, by simp [tp.2.2.1, f.2.2.2.1], by simp [tp.2.2.2, f.2.2.2.2.1]⟩
      rw [eu, followL_ok hp htg2 hne, splitL_some f.2.2.2.2.2, show (46 :: 46 :: 47 :: L t : Bs) = [46, 46] ++ 47 :: L t from rfl, splitL_some (by decide), steps_comp hc, steps_up _ hd1, hst, endL]
      rw [if_neg (by omega)]
    simp (disch := omega) only [if_true, if_pos]
    rw [Ev.bind_iff (follow_ev s _ (by omega) zu), fu]
    simp only [if_true]
    exact none_
end Go.Proofs.YtolmcdglemkchaaDoor.P

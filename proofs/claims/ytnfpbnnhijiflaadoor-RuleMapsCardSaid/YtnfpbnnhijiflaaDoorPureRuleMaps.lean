/-
  The pure statement of RuleMaps (with the texts RFill and RRule in it: a claim has at most 60 files). No project text.
-/
import Derived.Test.YtnfpbnnhijiflaaDoorStRuleMaps
import Derived.Test.YtnfpbnnhijiflaaDoorRule
import Derived.Test.YtnfpbnnhijiflaaDoorRKinds
import Derived.Test.YtnfpbnnhijiflaaDoorPatM
import Derived.Test.YtnfpbnnhijiflaaDoorPx14
import Derived.Test.YtnfpbnnhijiflaaDoorPx15
import Derived.Test.YtnfpbnnhijiflaaDoorPx16
import Derived.Test.YtnfpbnnhijiflaaDoorPx4
import Derived.Test.YtnfpbnnhijiflaaDoorPx7
import Derived.Test.YtnfpbnnhijiflaaDoorPx9
namespace Go.Proofs.YtnfpbnnhijiflaaDoor.P
open Go.RowKit Go.Proofs.YtnfpbnnhijiflaaDoorW.PrintWords Go.Proofs.YtnfpbnnhijiflaaDoor.Args
set_option linter.unusedVariables false
set_option linter.unusedSimpArgs false

theorem refjoin3_eq (ws : List Bs) (h1 : ws.length ≤ 1048576) (hx : ∀ x ∈ ws, x.length ≤ 1048576) : stockyardref02_Join.f (Ss ws) = some (S (textL ws)) := by
  have hb := join_size ws h1 hx
  simp only [stockyardref02_Join.f]
  rw [joinS_eq ws h1 hx]
  have c1 : 2 + (S (joinL ws)).size ≤ 9223372036854775807 := by rw [size_S]; omega
  simp only [Option.bind_some, if_pos c1, text_app]
  rfl
theorem wild_ev (ps : List Bs) (b : Bool) (hl : ps.length ≤ 20) (hx : ∀ x ∈ ps, x.length ≤ 1048576) : Ev (fun k => stockyardref03_wildcards.f k (Ss ps) b) ((starsN ps + one b : Nat) : Int) := by
  simp only [stockyardref03_wildcards.f]
  rw [Ev.bind_iff (refkinds_ev ps b (by omega) hx)]
  have hsl := stars_le ps
  cases b
  · simp only [Bool.false_eq_true, if_false, one, Nat.add_zero]
    exact Ev.now _
  · have e : wrap64 (((starsN ps : Nat) : Int) + 1) = ((starsN ps + 1 : Nat) : Int) := by rw [wrap64_id (by omega) (by omega)]; simp
    simp only [if_true, one, e]
    exact Ev.now _
/-- What the reference's rounds come to. -/
def refEndR (rest : Bool) (acc : List Bs) (o : Option (List Bs × List Bs)) : ByteArray × Int := match o with
  | none => (S [], 32)
  | some (o, r) => if (restW rest r).all compL = true then (S (textL (acc ++ o ++ restW rest r)), 0) else (S [], 32)
theorem refEndR_cons (rest : Bool) (acc : List Bs) (x : Bs) (o : Option (List Bs × List Bs)) : refEndR rest acc (o.map fun o => (x :: o.1, o.2)) = refEndR rest (acc ++ [x]) o := by
  cases o <;> simp [refEndR]
theorem refsplit_loop (qs : List Bs) (hq : qs.length ≤ 100000) (hx : ∀ x ∈ qs, x.length ≤ 2000) : ∀ (d i : Nat) (acc : List Bs), i + d = qs.length → acc.length ≤ 100000 + i → (∀ x ∈ acc, x.length ≤ 2000) →
    Ev (fun k => stockyardref03_Fill.l1 k (Ss acc) (Ss qs) (qs.length : Int) (i : Int)) (if (qs.drop i).all compL = true then (S (textL (acc ++ qs.drop i)), 0) else (S [], 32)) := by
  intro d
  induction d with
  | zero =>
    intro i acc hi ha hacc
    refine Ev.succ ?_
    simp (disch := omega) only [stockyardref03_Fill.l1, if_neg, Ss_length]
    rw [refjoin3_eq acc (by omega) (fun x hx2 => by have := hacc x hx2; omega), List.drop_of_length_le (by omega)]
    simp only [Option.bind_some, List.all_nil, if_true, List.append_nil]
    exact Ev.now _
  | succ d ih =>
    intro i acc hi ha hacc
    have hlt : i < qs.length := by omega
    have hxi := hx _ (List.getElem_mem hlt)
    refine Ev.succ ?_
    simp only [stockyardref03_Fill.l1, Ss_length]
    have c1 : (i : Int) < (qs.length : Int) := by omega
    have c2 : (0 : Int) ≤ (i : Int) := by omega
    have c4 : acc.length < 8796093022208 := by omega
    have e : wrap64 ((i : Int) + 1) = ((i + 1 : Nat) : Int) := by rw [wrap64_id (by omega) (by omega)]; omega
    simp only [if_pos c1, if_pos c2, if_pos c4, e]
    rw [rd_Ss qs i hlt, Ev.bind_iff (refcomp_ev _ (by rw [size_S]; omega)), L_S, List.drop_eq_getElem_cons hlt, List.all_cons]
    cases hc : compL qs[i]
    · simp only [Bool.false_eq_true, if_false, Bool.false_and]
      exact Ev.now _
    · simp only [if_true, Bool.true_and, Ss_snoc]
      have := ih (i + 1) (acc ++ [qs[i]]) (by omega) (by simp; omega) (by
        intro x hx2
        rcases List.mem_append.1 hx2 with h | h
        · exact hacc x h
        · rw [List.mem_singleton.1 h]
          exact hxi)
      simpa using this
theorem reffill_loop (ps cs : List Bs) (rest : Bool) (hl : ps.length ≤ 20) (hx : ∀ x ∈ ps, x.length ≤ 1000) (hcs : ∀ x ∈ cs, x.length ≤ 1000) (hcl : cs.length ≤ 100) : ∀ (d i j : Nat) (acc : List Bs), i + d = ps.length → acc.length ≤ i → (∀ x ∈ acc, x.length ≤ 2000) →
    cs.length = j + (starsN (ps.drop i) + one rest) →
    Ev (fun k => stockyardref03_Fill.l0 k (Ss cs) (Ss acc) (j : Int) (Ss ps) (ps.length : Int) (i : Int) (Ss ps) rest) (refEndR rest acc (fillL (ps.drop i) (cs.drop j))) := by
  intro d
  induction d with
  | zero =>
    intro i j acc hi ha hacc hn
    refine Ev.succ ?_
    rw [List.drop_of_length_le (by omega)] at hn ⊢
    simp (disch := omega) only [stockyardref03_Fill.l0, if_neg, fillL, refEndR, List.append_nil, Ss_length]
    cases rest
    · rw [refjoin3_eq acc (by omega) (fun x hx2 => by have := hacc x hx2; omega)]
      simp only [Bool.false_eq_true, if_false, restW, List.append_nil, Option.bind_some, List.all_nil, if_true]
      exact Ev.now _
    · simp only [one, if_true, starsN, List.countP_nil, Nat.zero_add] at hn
      have hj : j < cs.length := by omega
      have c1 : (0 : Int) ≤ (j : Int) := by omega
      have c2 : (j : Int) < (cs.length : Int) := by omega
      have hcj := hcs _ (List.getElem_mem hj)
      have hd : (cs.drop j).headD [] = cs[j] := by rw [List.drop_eq_getElem_cons hj]; rfl
      simp only [if_true, if_pos c1, if_pos c2, restW, hd]
      rw [rd_Ss cs j hj, split_eq _ (by rw [size_S]; omega)]
      simp only [Option.bind_some, L_S, Ss_length]
      have hlen := splitL_len_le cs[j]
      have hszs := splitL_length_le cs[j]
      have := refsplit_loop (splitL cs[j]) (by omega) (fun x hx2 => by have := hszs x hx2; omega) (splitL cs[j]).length 0 acc (by omega) (by omega) hacc
      simpa using this
  | succ d ih =>
    intro i j acc hi ha hacc hn
    have hlt : i < ps.length := by omega
    have hxi := hx _ (List.getElem_mem hlt)
    refine Ev.succ ?_
    simp only [stockyardref03_Fill.l0, Ss_length]
    have c1 : (i : Int) < (ps.length : Int) := by omega
    have c2 : (0 : Int) ≤ (i : Int) := by omega
    have c4 : acc.length < 8796093022208 := by omega
    have e : wrap64 ((i : Int) + 1) = ((i + 1 : Nat) : Int) := by rw [wrap64_id (by omega) (by omega)]; omega
    simp only [if_pos c1, if_pos c2, if_pos c4, e]
    rw [List.drop_eq_getElem_cons hlt] at hn ⊢
    have hst := refstar_ev (S ps[i]) (by rw [size_S]; omega)
    rw [L_S] at hst
    rw [rd_Ss ps i hlt, Ev.bind_iff hst]
    simp only [fillL]
    cases hs : starL ps[i] with
    | none =>
      rw [stars_cons_none hs] at hn
      simp only [strR, Bool.false_eq_true, if_false, Ss_snoc, refEndR_cons]
      refine ih (i + 1) j (acc ++ [ps[i]]) (by omega) (by simp; omega) ?_ hn
      intro x hx2
      rcases List.mem_append.1 hx2 with h | h
      · exact hacc x h
      · rw [List.mem_singleton.1 h]
        omega
    | some r =>
      rw [stars_cons_some hs] at hn
      have hr := star_len hs
      have hj : j < cs.length := by omega
      have hcj := hcs _ (List.getElem_mem hj)
      have d1 : (0 : Int) ≤ (j : Int) := by omega
      have d2 : (j : Int) < (cs.length : Int) := by omega
      have d3 : (S cs[j]).size + (S r).size ≤ 9223372036854775807 := by rw [size_S, size_S]; omega
      have ej : wrap64 ((j : Int) + 1) = ((j + 1 : Nat) : Int) := by rw [wrap64_id (by omega) (by omega)]; omega
      rw [List.drop_eq_getElem_cons hj]
      simp only [strR, if_true, if_pos d1, if_pos d2, ej]
      rw [rd_Ss cs j hj, Ev.bind_iff (refcomp_ev _ (by rw [size_S]; omega)), L_S]
      cases hcc : compL cs[j]
      · simp only [Bool.false_eq_true, if_false]
        exact Ev.now _
      · simp only [if_true, if_pos d3, append_S, L_S, Ss_snoc, refEndR_cons]
        refine ih (i + 1) (j + 1) (acc ++ [cs[j] ++ r]) (by omega) (by simp; omega) ?_ (by omega)
        intro x hx2
        rcases List.mem_append.1 hx2 with h | h
        · exact hacc x h
        · rw [List.mem_singleton.1 h, List.length_append]
          omega
theorem reffill_ev (ps : List Bs) (rest : Bool) (cs : List Bs) (hl : ps.length ≤ 20) (hx : ∀ x ∈ ps, x.length ≤ 1000) (hc : ∀ x ∈ cs, x.length ≤ 1000) (hcl : cs.length ≤ 100) :
    Ev (fun k => stockyardref03_Fill.f k (Ss ps) rest (Ss cs)) (fillR ps rest cs) := by
  have hx2 : ∀ x ∈ ps, x.length ≤ 1048576 := fun x h => by have := hx x h; omega
  simp only [stockyardref03_Fill.f]
  rw [Ev.bind_iff (refcheck_ev ps rest (by omega) hx2)]
  unfold fillR
  by_cases hck : checkI ps rest = 0
  · simp only [hck, if_true]
    rw [Ev.bind_iff (wild_ev ps rest hl hx2)]
    simp only [Ss_length]
    by_cases hn : cs.length = starsN ps + one rest
    · have e : (cs.length : Int) = ((starsN ps + one rest : Nat) : Int) := by omega
      simp only [if_pos e, if_pos hn]
      have h1 := reffill_loop ps cs rest hl hx hc hcl ps.length 0 0 [] (by omega) (by simp) (by simp) (by simpa using hn)
      refine Ev.of_eq h1 ?_
      simp only [List.drop_zero]
      cases hf : fillL ps cs with
      | none => rfl
      | some q =>
        obtain ⟨o, r⟩ := q
        obtain ⟨a1, a2, caps, a3, a4, a5⟩ := fill_match ps cs [] (check_ok hck).2.2.1 hf
        have hlen := check_len hck
        simp only [refEndR, endR, List.nil_append, join32, List.all_append, a2, Bool.true_and]
        have h2 : 2 ≤ (o ++ restW rest r).length := by
          rw [List.length_append, a1]
          cases rest
          · have := hlen.2 rfl
            omega
          · have h3 := hlen.1
            have hpos : 0 < (splitL (r.headD [])).length := List.length_pos_iff.2 (splitL_ne _)
            simp only [restW, if_true]
            omega
        simp only [h2, true_and]
    · have e : ¬ (cs.length : Int) = ((starsN ps + one rest : Nat) : Int) := by omega
      simp only [if_neg e, if_neg hn]
      exact Ev.now _
  · simp only [hck, if_false]
    exact Ev.now _
theorem refrulecheck_ev (x : Bool) (p : List Bs) (a : Bool) (q : List Bs) (b : Bool) (hp : p.length ≤ 20) (hp2 : ∀ x ∈ p, x.length ≤ 1000) (hq : q.length ≤ 20) (hq2 : ∀ x ∈ q, x.length ≤ 1000) :
    Ev (fun k => stockyardref04_Check.f k x (Ss p) a (Ss q) b) (ruleI p a q b) := by
  have hp3 : ∀ x ∈ p, x.length ≤ 1048576 := fun x hx => by have := hp2 x hx; omega
  have hq3 : ∀ x ∈ q, x.length ≤ 1048576 := fun x hx => by have := hq2 x hx; omega
  simp only [stockyardref04_Check.f]
  rw [Ev.bind_iff (refcheck_ev p a (by omega) hp3)]
  unfold ruleI
  by_cases h1 : checkI p a = 0
  · simp only [h1, if_true]
    rw [Ev.bind_iff (refcheck_ev q b (by omega) hq3)]
    by_cases h2 : checkI q b = 0
    · simp only [h2, if_true]
      rw [Ev.bind_iff (refkinds_ev p a (by omega) hp3), Ev.bind_iff (refkinds_ev q b (by omega) hq3)]
      by_cases h3 : starsN p = starsN q
      · have e : ((starsN p : Nat) : Int) = ((starsN q : Nat) : Int) := by omega
        simp only [if_pos e]
        by_cases h4 : a = b
        · have e2 : (a != b) = false := by rw [h4]; simp
          simp only [e2, Bool.false_eq_true, if_false, if_pos (And.intro h3 h4)]
          exact Ev.now _
        · have e2 : (a != b) = true := by rw [bne_iff_ne]; exact h4
          have h5 : ¬ (starsN p = starsN q ∧ a = b) := fun h => h4 h.2
          simp only [e2, if_true, if_neg h5]
          exact Ev.now _
      · have e : ¬ ((starsN p : Nat) : Int) = ((starsN q : Nat) : Int) := by omega
        have h5 : ¬ (starsN p = starsN q ∧ a = b) := fun h => h3 h.1
        simp only [if_neg e, if_neg h5]
        exact Ev.now _
    · simp only [h2, if_false]
      exact Ev.now _
  · simp only [h1, if_false]
    exact Ev.now _
theorem refturn_eq (x : Bool) (p : List Bs) (a : Bool) (q : List Bs) (b : Bool) (hp : p.length ≤ 1000) (hq : q.length ≤ 1000) : stockyardref04_Turn.f x (Ss p) a (Ss q) b = some (x, Ss q, b, Ss p, a) := by
  have c1 : ([] : List ByteArray).length + (Ss p).length < 8796093022208 := by rw [Ss_length]; simp only [List.length_nil]; omega
  have c2 : ([] : List ByteArray).length + (Ss q).length < 8796093022208 := by rw [Ss_length]; simp only [List.length_nil]; omega
  simp only [stockyardref04_Turn.f, stockyardref04_Copy.f, if_pos c1, if_pos c2, Option.bind_some, List.nil_append]
theorem refforward_ev (x : Bool) (p : List Bs) (a : Bool) (q : List Bs) (b : Bool) (s : ByteArray) (hp : p.length ≤ 20) (hp2 : ∀ x ∈ p, x.length ≤ 1000) (hq : q.length ≤ 20) (hq2 : ∀ x ∈ q, x.length ≤ 1000) (hs : s.size ≤ 1000000) (hm : ∀ o, matchP p a (L s) = some o → ∀ x ∈ o, x.length ≤ 1000) :
    Ev (fun k => stockyardref04_Forward.f k x (Ss p) a (Ss q) b s) (forwardR p a q b (L s)) := by
  simp only [stockyardref04_Forward.f]
  rw [Ev.bind_iff (refrulecheck_ev x p a q b hp hp2 hq hq2)]
  unfold forwardR
  by_cases h : ruleI p a q b = 0
  · simp only [h, if_true]
    rw [Ev.bind_iff (refmatch_ev p a s (by omega) (fun x hx => by have := hp2 x hx; omega) hs)]
    cases hmm : matchP p a (L s) with
    | none =>
      simp only [dirR, Bool.false_eq_true, if_false]
      exact Ev.now _
    | some o =>
      have hol := match_length hmm
      simp only [dirR, if_true]
      rw [Ev.bind_iff (reffill_ev q b o hq hq2 (hm o hmm) (by omega))]
      exact Ev.now _
  · simp only [h, if_false]
    exact Ev.now _
theorem Pure.RuleMaps : St.RuleMaps := by
  intro x s hx hs
  refine Ev.rounds ?_
  have none_ : Ev (fun k => (stockyardlaw04_awake.f k).bind fun t => some t) true := by rw [Ev.bind_some]; exact awake04
  obtain ⟨p, e, p1, p2⟩ := arg_parts hx.2.1.1
  obtain ⟨q, e', q1, q2⟩ := arg_parts hx.2.2.1
  simp only [stockyardlaw04_RuleMaps.f, e, e']
  generalize x.f1.f1 = a
  generalize x.f2.f1 = b
  generalize x.f0 = z
  rw [Ev.bind_iff (fit_ev z p a q b p1 p2 q1 q2)]
  have far : ∀ (z a b : Bool) (u v : List ByteArray), Ev (fun k => stockyardlaw04_RuleMaps.j0 k s true z u a v b) true := by
    intro z a b u v
    refine Ev.succ ?_
    simp only [stockyardlaw04_RuleMaps.j0, if_true]
    exact none_
  by_cases hf : (small4B p && small4B q) = true
  · simp only [hf, if_true]
    by_cases hl : (s.size : Int) > 300
    · simp only [hl, decide_true]
      exact far _ _ _ _ _
    · simp only [hl, decide_false]
      rw [Bool.and_eq_true] at hf
      have h1 := small4_ok hf.1
      have h2 := small4_ok hf.2
      have hsz := size_eq s
      have hp2 : ∀ x ∈ p, x.length ≤ 1000 := fun x hx => by have := h1.2 x hx; omega
      have hq2 : ∀ x ∈ q, x.length ≤ 1000 := fun x hx => by have := h2.2 x hx; omega
      have hml : ∀ (u : List Bs) (c : Bool) (o : List Bs), matchP u c (L s) = some o → ∀ x ∈ o, x.length ≤ 1000 := fun u c o ho => match_size2 ho (by omega)
      refine Ev.succ ?_
      simp only [stockyardlaw04_RuleMaps.j0, Bool.false_eq_true, if_false]
      rw [Ev.bind_iff (forward_ev z p a q b s h1.1 hp2 h2.1 hq2 (by omega) (hml p a)), Ev.bind_iff (refforward_ev z p a q b s h1.1 hp2 h2.1 hq2 (by omega) (hml p a))]
      simp only [if_true, bne_self_eq_false]
      refine Ev.succ ?_
      simp only [stockyardlaw04_RuleMaps.j1, Bool.false_eq_true, if_false]
      rw [Ev.bind_iff (backward_ev z p a q b s h1.1 hp2 h2.1 hq2 (by omega) (hml q b))]
      simp only [refturn_eq z p a q b (by omega) (by omega), Option.bind_some]
      rw [Ev.bind_iff (refforward_ev z q b p a s h2.1 hq2 h1.1 hp2 (by omega) (hml q b))]
      simp only [if_true, beq_self_eq_true]
      exact none_
  · simp only [hf, if_false, Bool.false_eq_true]
    exact far _ _ _ _ _
end Go.Proofs.YtnfpbnnhijiflaaDoor.P

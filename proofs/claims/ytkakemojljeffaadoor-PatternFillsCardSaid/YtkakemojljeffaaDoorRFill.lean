/-
  Layer 3: what captures make of a pattern, by the reference. No project text.
-/
import Derived.Test.YtkakemojljeffaaDoorFill
import Derived.Test.YtkakemojljeffaaDoorRKinds
import Derived.Test.YtkakemojljeffaaDoorPx20
namespace Go.Proofs.YtkakemojljeffaaDoor.P
open Go.RowKit Go.Proofs.YtkakemojljeffaaDoorW.PrintWords Go.Proofs.YtkakemojljeffaaDoor.Args
set_option linter.unusedVariables false
set_option linter.unusedSimpArgs false

theorem refjoin3_eq (ws : List Bs) (h1 : ws.length ≤ 1048576) (hx : ∀ x ∈ ws, x.length ≤ 1048576) : stockyardref02_Join.f (Ss ws) = some (S (textL ws)) := by
  have hb := join_size ws h1 hx
  simp only [stockyardref02_Join.f]
  rw [joinS_eq ws h1 hx]
  have c1 : 2 + (S (joinL ws)).size ≤ 9223372036854775807 := by rw [size_S]; omega
  simp only [Option.bind_some, if_pos c1, text_app]
  rfl
theorem wild_ev (ps : List Bs) (b : Bool) (hl : ps.length ≤ 20) (hx : ∀ x ∈ ps, x.length ≤ 1048576) : Ev (fun k => stockyardref03_wildcards.f k (Ss ps) b) ((starsN ps + one b : Nat) : Int) := by
  simp only [stockyardref03_wildcards.f]
  rw [Ev.bind_iff (refkinds_ev ps b (by omega) hx)]
  have hsl := stars_le ps
  cases b
  · simp only [Bool.false_eq_true, if_false, one, Nat.add_zero]
    exact Ev.now _
  · have e : wrap64 (((starsN ps : Nat) : Int) + 1) = ((starsN ps + 1 : Nat) : Int) := by rw [wrap64_id (by omega) (by omega)]; simp
    simp only [if_true, one, e]
    exact Ev.now _
/-- What the reference's rounds come to. -/
def refEndR (rest : Bool) (acc : List Bs) (o : Option (List Bs × List Bs)) : ByteArray × Int := match o with
  | none => (S [], 32)
  | some (o, r) => if (restW rest r).all compL = true then (S (textL (acc ++ o ++ restW rest r)), 0) else (S [], 32)
theorem refEndR_cons (rest : Bool) (acc : List Bs) (x : Bs) (o : Option (List Bs × List Bs)) : refEndR rest acc (o.map fun o => (x :: o.1, o.2)) = refEndR rest (acc ++ [x]) o := by
  cases o <;> simp [refEndR]
theorem refsplit_loop (qs : List Bs) (hq : qs.length ≤ 100000) (hx : ∀ x ∈ qs, x.length ≤ 2000) : ∀ (d i : Nat) (acc : List Bs), i + d = qs.length → acc.length ≤ 100000 + i → (∀ x ∈ acc, x.length ≤ 2000) →
    Ev (fun k => stockyardref03_Fill.l1 k (Ss acc) (Ss qs) (qs.length : Int) (i : Int)) (if (qs.drop i).all compL = true then (S (textL (acc ++ qs.drop i)), 0) else (S [], 32)) := by
  intro d
  induction d with
  | zero =>
    intro i acc hi ha hacc
    refine Ev.succ ?_
    simp (disch := omega) only [stockyardref03_Fill.l1, if_neg, Ss_length]
    rw [refjoin3_eq acc (by omega) (fun x hx2 => by have := hacc x hx2; omega), List.drop_of_length_le (by omega)]
    simp only [Option.bind_some, List.all_nil, if_true, List.append_nil]
    exact Ev.now _
  | succ d ih =>
    intro i acc hi ha hacc
    have hlt : i < qs.length := by omega
    have hxi := hx _ (List.getElem_mem hlt)
    refine Ev.succ ?_
    simp only [stockyardref03_Fill.l1, Ss_length]
    have c1 : (i : Int) < (qs.length : Int) := by omega
    have c2 : (0 : Int) ≤ (i : Int) := by omega
    have c4 : acc.length < 8796093022208 := by omega
    have e : wrap64 ((i : Int) + 1) = ((i + 1 : Nat) : Int) := by rw [wrap64_id (by omega) (by omega)]; omega
    simp only [if_pos c1, if_pos c2, if_pos c4, e]
    rw [rd_Ss qs i hlt, Ev.bind_iff (refcomp_ev _ (by rw [size_S]; omega)), L_S, List.drop_eq_getElem_cons hlt, List.all_cons]
    cases hc : compL qs[i]
    · simp only [Bool.false_eq_true, if_false, Bool.false_and]
      exact Ev.now _
    · simp only [if_true, Bool.true_and, Ss_snoc]
      have := ih (i + 1) (acc ++ [qs[i]]) (by omega) (by simp; omega) (by
        intro x hx2
        rcases List.mem_append.1 hx2 with h | h
        · exact hacc x h
        · rw [List.mem_singleton.1 h]
          exact hxi)
      simpa using this
theorem reffill_loop (ps cs : List Bs) (rest : Bool) (hl : ps.length ≤ 20) (hx : ∀ x ∈ ps, x.length ≤ 1000) (hcs : ∀ x ∈ cs, x.length ≤ 1000) (hcl : cs.length ≤ 100) : ∀ (d i j : Nat) (acc : List Bs), i + d = ps.length → acc.length ≤ i → (∀ x ∈ acc, x.length ≤ 2000) →
    cs.length = j + (starsN (ps.drop i) + one rest) →
    Ev (fun k => stockyardref03_Fill.l0 k (Ss cs) (Ss acc) (j : Int) (Ss ps) (ps.length : Int) (i : Int) (Ss ps) rest) (refEndR rest acc (fillL (ps.drop i) (cs.drop j))) := by
  intro d
  induction d with
  | zero =>
    intro i j acc hi ha hacc hn
    refine Ev.succ ?_
    rw [List.drop_of_length_le (by omega)] at hn ⊢
    simp (disch := omega) only [stockyardref03_Fill.l0, if_neg, fillL, refEndR, List.append_nil, Ss_length]
    cases rest
    · rw [refjoin3_eq acc (by omega) (fun x hx2 => by have := hacc x hx2; omega)]
      simp only [Bool.false_eq_true, if_false, restW, List.append_nil, Option.bind_some, List.all_nil, if_true]
      exact Ev.now _
    · simp only [one, if_true, starsN, List.countP_nil, Nat.zero_add] at hn
      have hj : j < cs.length := by omega
      have c1 : (0 : Int) ≤ (j : Int) := by omega
      have c2 : (j : Int) < (cs.length : Int) := by omega
      have hcj := hcs _ (List.getElem_mem hj)
      have hd : (cs.drop j).headD [] = cs[j] := by rw [List.drop_eq_getElem_cons hj]; rfl
      simp only [if_true, if_pos c1, if_pos c2, restW, hd]
      rw [rd_Ss cs j hj, split_eq _ (by rw [size_S]; omega)]
      simp only [Option.bind_some, L_S, Ss_length]
      have hlen := splitL_len_le cs[j]
      have hszs := splitL_length_le cs[j]
      have := refsplit_loop (splitL cs[j]) (by omega) (fun x hx2 => by have := hszs x hx2; omega) (splitL cs[j]).length 0 acc (by omega) (by omega) hacc
      simpa using this
  | succ d ih =>
    intro i j acc hi ha hacc hn
    have hlt : i < ps.length := by omega
    have hxi := hx _ (List.getElem_mem hlt)
    refine Ev.succ ?_
    simp only [stockyardref03_Fill.l0, Ss_length]
    have c1 : (i : Int) < (ps.length : Int) := by omega
    have c2 : (0 : Int) ≤ (i : Int) := by omega
    have c4 : acc.length < 8796093022208 := by omega
    have e : wrap64 ((i : Int) + 1) = ((i + 1 : Nat) : Int) := by rw [wrap64_id (by omega) (by omega)]; omega
    simp only [if_pos c1, if_pos c2, if_pos c4, e]
    rw [List.drop_eq_getElem_cons hlt] at hn ⊢
    have hst := refstar_ev (S ps[i]) (by rw [size_S]; omega)
    rw [L_S] at hst
    rw [rd_Ss ps i hlt, Ev.bind_iff hst]
    simp only [fillL]
    cases hs : starL ps[i] with
    | none =>
      rw [stars_cons_none hs] at hn
      simp only [strR, Bool.false_eq_true, if_false, Ss_snoc, refEndR_cons]
      refine ih (i + 1) j (acc ++ [ps[i]]) (by omega) (by simp; omega) ?_ hn
      intro x hx2
      rcases List.mem_append.1 hx2 with h | h
      · exact hacc x h
      · rw [List.mem_singleton.1 h]
        omega
    | some r =>
      rw [stars_cons_some hs] at hn
      have hr := star_len hs
      have hj : j < cs.length := by omega
      have hcj := hcs _ (List.getElem_mem hj)
      have d1 : (0 : Int) ≤ (j : Int) := by omega
      have d2 : (j : Int) < (cs.length : Int) := by omega
      have d3 : (S cs[j]).size + (S r).size ≤ 9223372036854775807 := by rw [size_S, size_S]; omega
      have ej : wrap64 ((j : Int) + 1) = ((j + 1 : Nat) : Int) := by rw [wrap64_id (by omega) (by omega)]; omega
      rw [List.drop_eq_getElem_cons hj]
      simp only [strR, if_true, if_pos d1, if_pos d2, ej]
      rw [rd_Ss cs j hj, Ev.bind_iff (refcomp_ev _ (by rw [size_S]; omega)), L_S]
      cases hcc : compL cs[j]
      · simp only [Bool.false_eq_true, if_false]
        exact Ev.now _
      · simp only [if_true, if_pos d3, append_S, L_S, Ss_snoc, refEndR_cons]
        refine ih (i + 1) (j + 1) (acc ++ [cs[j] ++ r]) (by omega) (by simp; omega) ?_ (by omega)
        intro x hx2
        rcases List.mem_append.1 hx2 with h | h
        · exact hacc x h
        · rw [List.mem_singleton.1 h, List.length_append]
          omega
theorem reffill_ev (ps : List Bs) (rest : Bool) (cs : List Bs) (hl : ps.length ≤ 20) (hx : ∀ x ∈ ps, x.length ≤ 1000) (hc : ∀ x ∈ cs, x.length ≤ 1000) (hcl : cs.length ≤ 100) :
    Ev (fun k => stockyardref03_Fill.f k (Ss ps) rest (Ss cs)) (fillR ps rest cs) := by
  have hx2 : ∀ x ∈ ps, x.length ≤ 1048576 := fun x h => by have := hx x h; omega
  simp only [stockyardref03_Fill.f]
  rw [Ev.bind_iff (refcheck_ev ps rest (by omega) hx2)]
  unfold fillR
  by_cases hck : checkI ps rest = 0
  · simp only [hck, if_true]
    rw [Ev.bind_iff (wild_ev ps rest hl hx2)]
    simp only [Ss_length]
    by_cases hn : cs.length = starsN ps + one rest
    · have e : (cs.length : Int) = ((starsN ps + one rest : Nat) : Int) := by omega
      simp only [if_pos e, if_pos hn]
      have h1 := reffill_loop ps cs rest hl hx hc hcl ps.length 0 0 [] (by omega) (by simp) (by simp) (by simpa using hn)
      refine Ev.of_eq h1 ?_
      simp only [List.drop_zero]
      cases hf : fillL ps cs with
      | none => rfl
      | some q =>
        obtain ⟨o, r⟩ := q
        obtain ⟨a1, a2, caps, a3, a4, a5⟩ := fill_match ps cs [] (check_ok hck).2.2.1 hf
        have hlen := check_len hck
        simp only [refEndR, endR, List.nil_append, join32, List.all_append, a2, Bool.true_and]
        have h2 : 2 ≤ (o ++ restW rest r).length := by
          rw [List.length_append, a1]
          cases rest
          · have := hlen.2 rfl
            omega
          · have h3 := hlen.1
            have hpos : 0 < (splitL (r.headD [])).length := List.length_pos_iff.2 (splitL_ne _)
            simp only [restW, if_true]
            omega
        simp only [h2, true_and]
    · have e : ¬ (cs.length : Int) = ((starsN ps + one rest : Nat) : Int) := by omega
      simp only [if_neg e, if_neg hn]
      exact Ev.now _
  · simp only [hck, if_false]
    exact Ev.now _
end Go.Proofs.YtkakemojljeffaaDoor.P

/-
  Layer 3: what the laws of this layer ask (where it stands apart). No project text.
-/
import Derived.Test.YthclkdplihchjaaDoorPatB
import Derived.Test.YthclkdplihchjaaDoorPx1
import Derived.Test.YthclkdplihchjaaDoorPx2
import Derived.Test.YthclkdplihchjaaDoorPx21
namespace Go.Proofs.YthclkdplihchjaaDoor.P
open Go.RowKit Go.Proofs.YthclkdplihchjaaDoorW.PrintWords Go.Proofs.YthclkdplihchjaaDoor.Args
set_option linter.unusedVariables false
set_option linter.unusedSimpArgs false

theorem parse_ev (s : ByteArray) (hs : s.size ≤ 1000000) : Ev (fun k => pattern_Parse.f k s) (parseR (L s)) := by
  have hsz := size_eq s
  simp only [pattern_Parse.f, cutPrefix_eq, Option.bind_some]
  rw [L_lit]
  unfold parseR parseI
  by_cases h : [47, 47].isPrefixOf (L s) = true
  · simp only [h, if_true, List.length_cons, List.length_nil, Nat.zero_add, Nat.reduceAdd]
    rw [cutSuffix_eq _ _ (by rw [size_S, List.length_drop]; omega)]
    simp only [Option.bind_some, L_S, L_lit]
    have hbody : ((L s).drop 2).length ≤ 1000000 := by rw [List.length_drop]; omega
    revert hbody
    generalize (L s).drop 2 = body
    intro hbody
    have hlen := splitL_len_le body
    have hne := splitL_ne body
    have hsz2 := splitL_length_le body
    by_cases hsuf : [47, 46, 46, 46].isSuffixOf body = true
    · obtain ⟨b, hb⟩ := List.isSuffixOf_iff_suffix.1 hsuf
      subst hb
      have hp : partsOf (b ++ [47, 46, 46, 46]) = (splitL b, true) := by
        have e : splitL (b ++ [47, 46, 46, 46]) = splitL b ++ [[46, 46, 46]] := splitL_snoc (by decide) b
        unfold partsOf
        simp [e]
      have et : (b ++ [47, 46, 46, 46]).take ((b ++ [47, 46, 46, 46]).length - [47, 46, 46, 46].length) = b := by simp
      have hbl : b.length ≤ 1000000 := by simp at hbody; omega
      have hlb := splitL_len_le b
      have hszb := splitL_length_le b
      simp only [hsuf, if_true, hp]
      suffices hz : ∀ z : Bs, z = b → Ev (fun k => (strings_Split.f (S z) (⟨#[47]⟩ : ByteArray)).bind fun t127 => (pattern_Check.f k t127 true).bind fun t130 => if t130 = 0 then some (t127, true, 0) else some ([], false, t130)) (if checkI (splitL b) true = 0 then (Ss (splitL b), true, 0) else ([], false, checkI (splitL b) true)) from hz _ et
      intro z hz
      rw [hz]
      rw [split_eq _ (by rw [size_S]; omega)]
      simp only [Option.bind_some, L_S]
      rw [Ev.bind_iff (check_ev _ true (by omega) (fun x hx => by have := hszb x hx; omega))]
      by_cases hc : checkI (splitL b) true = 0
      · simp only [hc, if_true]
        exact Ev.now _
      · simp only [hc, if_false]
        exact Ev.now _
    · simp only [hsuf, Bool.false_eq_true, if_false]
      rw [split_eq _ (by rw [size_S]; omega)]
      simp only [Option.bind_some, L_S]
      rw [Ev.bind_iff (check_ev _ false (by omega) (fun x hx => by have := hsz2 x hx; omega))]
      by_cases hd : (splitL body).getLast hne = [46, 46, 46]
      · -- "..." alone
        have hone : splitL body = [[46, 46, 46]] := by
          have h1 : (splitL body).dropLast ++ [[46, 46, 46]] = splitL body := by rw [← hd]; exact List.dropLast_concat_getLast hne
          by_cases h0 : (splitL body).dropLast = []
          · rw [h0] at h1
            exact h1.symm
          · exfalso
            apply hsuf
            rw [List.isSuffixOf_iff_suffix]
            refine ⟨joinL (splitL body).dropLast, ?_⟩
            have h2 := join_snoc _ [46, 46, 46] h0
            rw [h1, join_split] at h2
            exact h2.symm
        have hp : partsOf body = ([], true) := by
          unfold partsOf
          simp [hone]
        have e1 : checkI [[46, 46, 46]] false = 30 := by decide
        have e2 : checkI [] true = 30 := by decide
        have n30 : ¬ (30 : Int) = 0 := by decide
        simp only [hone, hp, e1, e2, n30, if_false]
        exact Ev.now _
      · have hp : partsOf body = (splitL body, false) := by
          unfold partsOf
          rw [if_neg hd]
        simp only [hp]
        by_cases hc : checkI (splitL body) false = 0
        · simp only [hc, if_true]
          exact Ev.now _
        · simp only [hc, if_false]
          exact Ev.now _
  · simp only [if_neg h, Bool.false_eq_true, if_false]
    have n30 : ¬ (30 : Int) = 0 := by decide
    simp only [n30, if_false]
    exact Ev.now _
theorem small_far (ps qs : List Bs) (b : Bool) (hl : ps.length ≤ 1125899906842624) (h20 : ¬ qs.length ≤ 20) : ∀ (d i : Nat) (n : Int), i + d = ps.length →
    Ev (fun k => stockyardlaw03_small.l0 k n (Ss ps) (ps.length : Int) (i : Int) (Ss qs) b) false := by
  intro d
  induction d with
  | zero =>
    intro i n hi
    have h20' : ¬ (qs.length : Int) ≤ 20 := by omega
    refine Ev.succ ?_
    simp (disch := omega) only [stockyardlaw03_small.l0, if_neg, Ss_length]
    exact Ev.now _
  | succ d ih =>
    intro i n hi
    have hlt : i < ps.length := by omega
    refine Ev.succ ?_
    simp only [stockyardlaw03_small.l0, Ss_length]
    have c1 : (i : Int) < (ps.length : Int) := by omega
    have c2 : (0 : Int) ≤ (i : Int) := by omega
    have e : wrap64 ((i : Int) + 1) = ((i + 1 : Nat) : Int) := by rw [wrap64_id (by omega) (by omega)]; omega
    simp only [if_pos c1, if_pos c2, e]
    exact ih (i + 1) _ (by omega)
theorem small_near (ps : List Bs) (b : Bool) (hl : ps.length ≤ 20) (hx : ∀ x ∈ ps, x.length ≤ 140737488351232) : ∀ (d i n : Nat), i + d = ps.length → n ≤ i * 140737488351232 →
    Ev (fun k => stockyardlaw03_small.l0 k (n : Int) (Ss ps) (ps.length : Int) (i : Int) (Ss ps) b) (decide (n + totalL (ps.drop i) ≤ 400)) := by
  intro d
  induction d with
  | zero =>
    intro i n hi hn
    have h20 : (ps.length : Int) ≤ 20 := by omega
    refine Ev.succ ?_
    simp (disch := omega) only [stockyardlaw03_small.l0, if_neg, if_pos, Ss_length]
    rw [List.drop_of_length_le (by omega), Ev.some_iff]
    simp only [totalL, List.map_nil, List.sum_nil, Nat.add_zero]
    exact decide_eq_decide.2 (by omega)
  | succ d ih =>
    intro i n hi hn
    have hlt : i < ps.length := by omega
    have hxi := hx _ (List.getElem_mem hlt)
    refine Ev.succ ?_
    simp only [stockyardlaw03_small.l0, Ss_length]
    have c1 : (i : Int) < (ps.length : Int) := by omega
    have c2 : (0 : Int) ≤ (i : Int) := by omega
    have e : wrap64 ((i : Int) + 1) = ((i + 1 : Nat) : Int) := by rw [wrap64_id (by omega) (by omega)]; omega
    have hm : i * 140737488351232 ≤ 20 * 140737488351232 := Nat.mul_le_mul_right _ (by omega)
    have e2 : wrap64 ((n : Int) + ((S ps[i]).size : Int)) = ((n + ps[i].length : Nat) : Int) := by rw [size_S, wrap64_id (by omega) (by omega)]; omega
    simp only [if_pos c1, if_pos c2, e]
    rw [rd_Ss ps i hlt, e2, List.drop_eq_getElem_cons hlt]
    refine Ev.of_eq (ih (i + 1) (n + ps[i].length) (by omega) (by rw [Nat.add_mul]; omega)) ?_
    simp only [totalL, List.map_cons, List.sum_cons]
    exact decide_eq_decide.2 (by omega)
theorem small_ev (ps : List Bs) (b : Bool) (hl : ps.length ≤ 1125899906842624) (hx : ∀ x ∈ ps, x.length ≤ 140737488351232) : Ev (fun k => stockyardlaw03_small.f k (Ss ps) b) (smallB ps) := by
  simp only [stockyardlaw03_small.f, Ss_length]
  unfold smallB
  by_cases h : ps.length ≤ 20
  · simp only [h, decide_true, Bool.true_and]
    have := small_near ps b h hx ps.length 0 0 (by omega) (by omega)
    simpa using this
  · simp only [h, decide_false, Bool.false_and]
    exact small_far ps ps b hl h ps.length 0 0 (by omega)
theorem equal3_loop (a b : List ByteArray) (hab : a.length = b.length) (hl : a.length ≤ 4611686018427387904) : ∀ (d i : Nat), i + d = a.length →
    Ev (fun k => stockyardlaw03_equal.l0 k a b (a.length : Int) (i : Int)) (decide (a.drop i = b.drop i)) := by
  intro d
  induction d with
  | zero =>
    intro i hi
    refine Ev.succ ?_
    simp (disch := omega) only [stockyardlaw03_equal.l0, if_neg]
    rw [List.drop_of_length_le (by omega), List.drop_of_length_le (by omega), Ev.some_iff]
    simp
  | succ d ih =>
    intro i hi
    have h1 : i < a.length := by omega
    have h2 : i < b.length := by omega
    refine Ev.succ ?_
    simp (disch := omega) only [stockyardlaw03_equal.l0, if_pos, wrap64_id]
    rw [rdOf_get _ _ (by omega) (by omega), rdOf_get _ _ (by omega) (by omega), toList_eq, toList_eq]
    simp only [Int.toNat_natCast]
    rw [List.drop_eq_getElem_cons h1, List.drop_eq_getElem_cons h2]
    by_cases e : a[i] = b[i]
    · simp only [e, if_true, List.cons.injEq, true_and]
      exact ih (i + 1) (by omega)
    · have e2 : ¬ L a[i] = L b[i] := fun h => e (L_inj h)
      simp only [e2, if_false, List.cons.injEq, e, false_and, decide_false]
      exact Ev.now _
theorem equal3_ev (a b : List ByteArray) (hl : a.length ≤ 4611686018427387904) : Ev (fun k => stockyardlaw03_equal.f k a b) (decide (a = b)) := by
  simp only [stockyardlaw03_equal.f]
  by_cases h : (a.length : Int) = (b.length : Int)
  · have h2 := equal3_loop a b (by omega) hl a.length 0 (by omega)
    rw [List.drop_zero, List.drop_zero] at h2
    simp only [if_pos h]
    exact h2
  · simp only [h, if_false]
    rw [Ev.some_iff]
    symm
    rw [decide_eq_false_iff_not]
    intro e
    rw [e] at h
    exact h rfl
theorem awake03 : Ev (fun k => stockyardlaw03_awake.f k) true := by
  simp only [stockyardlaw03_awake.f]
  rw [Ev.bind_iff (parse_ev _ (by decide))]
  have e1 : parseR (L (⟨#[47, 47, 97, 47, 42, 46, 112, 115, 100, 47, 46, 46, 46]⟩ : ByteArray)) = (Ss [[97], [42, 46, 112, 115, 100]], true, 0) := by decide +kernel
  rw [e1]
  simp only
  rw [Ev.bind_iff (match_ev [[97], [42, 46, 112, 115, 100]] true _ (by decide) (by decide) (by decide))]
  have e2 : dirR (matchP [[97], [42, 46, 112, 115, 100]] true (L (⟨#[47, 47, 97, 47, 120, 46, 112, 115, 100, 47, 98, 47, 99]⟩ : ByteArray))) = (Ss [[120], [98, 47, 99]], true) := by decide +kernel
  rw [e2]
  simp only [if_true, Ss_length]
  rw [show rdOf ByteArray.empty (Ss [[120], [98, 47, 99]]) 0 = S [120] from rfl, show rdOf ByteArray.empty (Ss [[120], [98, 47, 99]]) 1 = S [98, 47, 99] from rfl, toList_eq, toList_eq, L_S, L_S]
  exact Ev.now _
end Go.Proofs.YthclkdplihchjaaDoor.P

/-
  Layer 3: parsing patterns, what a path tells of a pattern, the statements' helpers. No project text.
-/
import Derived.Test.YtcpnmcbgcgkieaaDoorPat
import Derived.Test.YtcpnmcbgcgkieaaDoorArgs
import Derived.Test.YtcpnmcbgcgkieaaDoorPx1
import Derived.Test.YtcpnmcbgcgkieaaDoorPx2
import Derived.Test.YtcpnmcbgcgkieaaDoorPx3
namespace Go.Proofs.YtcpnmcbgcgkieaaDoor.P
open Go.RowKit Go.Proofs.YtcpnmcbgcgkieaaDoorW.PrintWords Go.Proofs.YtcpnmcbgcgkieaaDoor.Args
set_option linter.unusedVariables false
set_option linter.unusedSimpArgs false

theorem join_size (ps : List Bs) (hl : ps.length ≤ 1048576) (hx : ∀ x ∈ ps, x.length ≤ 1048576) : (joinL ps).length ≤ 1099512676352 := by
  have h1 := joinL_bound 1048576 ps hx
  have h2 : ps.length * (1048576 + 1) ≤ 1048576 * (1048576 + 1) := Nat.mul_le_mul_right _ hl
  omega
theorem joinS_eq (ps : List Bs) (hl : ps.length ≤ 1048576) (hx : ∀ x ∈ ps, x.length ≤ 1048576) : strings_Join.f (Ss ps) (⟨#[47]⟩ : ByteArray) = some (S (joinL ps)) := by
  have h1 := join_size ps hl hx
  rw [join_eq (Ss ps) (by rw [Ss_length]; omega) (by rw [L_Ss]; omega), L_Ss]
theorem splitL_snoc {c : Bs} (hc : (47 : UInt8) ∉ c) (b : Bs) : splitL (b ++ 47 :: c) = splitL b ++ [c] := by
  have h : joinL (splitL b ++ [c]) = b ++ 47 :: c := by rw [join_snoc _ _ (splitL_ne b), join_split]
  rw [← h]
  refine split_join (by simp) ?_
  intro x hx
  rcases List.mem_append.1 hx with hx | hx
  · exact splitL_free b x hx
  · rw [List.mem_singleton.1 hx]
    exact hc
def partsOf (body : Bs) : List Bs × Bool := if (splitL body).getLast (splitL_ne body) = [46, 46, 46] then ((splitL body).dropLast, true) else (splitL body, false)
def parseI (l : Bs) : Int := if [47, 47].isPrefixOf l = true then checkI (partsOf (l.drop 2)).1 (partsOf (l.drop 2)).2 else 30
def parseR (l : Bs) : List ByteArray × Bool × Int := if parseI l = 0 then (Ss (partsOf (l.drop 2)).1, (partsOf (l.drop 2)).2, 0) else ([], false, parseI l)
theorem splitL_len_le (l : Bs) : (splitL l).length ≤ l.length + 1 := by
  rw [splitL_count]
  have := List.count_le_length (a := (47 : UInt8)) (l := l)
  omega
theorem dots_alone {l : Bs} (h : splitL l = [[46, 46, 46]]) : checkI [[46, 46, 46]] false = 30 ∧ checkI [] true = 30 := ⟨by decide, by decide⟩
theorem parse_ev (s : ByteArray) (hs : s.size ≤ 1000000) : Ev (fun k => pattern_Parse.f k s) (parseR (L s)) := by
  have hsz := size_eq s
  simp only [pattern_Parse.f, cutPrefix_eq, Option.bind_some]
  rw [L_lit]
  unfold parseR parseI
  by_cases h : [47, 47].isPrefixOf (L s) = true
  · simp only [h, if_true, List.length_cons, List.length_nil, Nat.zero_add, Nat.reduceAdd]
    rw [cutSuffix_eq _ _ (by rw [size_S, List.length_drop]; omega)]
    simp only [Option.bind_some, L_S, L_lit]
    have hbody : ((L s).drop 2).length ≤ 1000000 := by rw [List.length_drop]; omega
    revert hbody
    generalize (L s).drop 2 = body
    intro hbody
    have hlen := splitL_len_le body
    have hne := splitL_ne body
    have hsz2 := splitL_length_le body
    by_cases hsuf : [47, 46, 46, 46].isSuffixOf body = true
    · obtain ⟨b, hb⟩ := List.isSuffixOf_iff_suffix.1 hsuf
      subst hb
      have hp : partsOf (b ++ [47, 46, 46, 46]) = (splitL b, true) := by
        have e : splitL (b ++ [47, 46, 46, 46]) = splitL b ++ [[46, 46, 46]] := splitL_snoc (by decide) b
        unfold partsOf
        simp [e]
      have et : (b ++ [47, 46, 46, 46]).take ((b ++ [47, 46, 46, 46]).length - [47, 46, 46, 46].length) = b := by simp
      have hbl : b.length ≤ 1000000 := by simp at hbody; omega
      have hlb := splitL_len_le b
      have hszb := splitL_length_le b
      simp only [hsuf, if_true, hp]
      suffices hz : ∀ z : Bs, z = b → Ev (fun k => (strings_Split.f (S z) (⟨#[47]⟩ : ByteArray)).bind fun t127 => (pattern_Check.f k t127 true).bind fun t130 => if t130 = 0 then some (t127, true, 0) else some ([], false, t130)) (if checkI (splitL b) true = 0 then (Ss (splitL b), true, 0) else ([], false, checkI (splitL b) true)) from hz _ et
      intro z hz
      rw [hz]
      rw [split_eq _ (by rw [size_S]; omega)]
      simp only [Option.bind_some, L_S]
      rw [Ev.bind_iff (check_ev _ true (by omega) (fun x hx => by have := hszb x hx; omega))]
      by_cases hc : checkI (splitL b) true = 0
      · simp only [hc, if_true]
        exact Ev.now _
      · simp only [hc, if_false]
        exact Ev.now _
    · simp only [hsuf, Bool.false_eq_true, if_false]
      rw [split_eq _ (by rw [size_S]; omega)]
      simp only [Option.bind_some, L_S]
      rw [Ev.bind_iff (check_ev _ false (by omega) (fun x hx => by have := hsz2 x hx; omega))]
      by_cases hd : (splitL body).getLast hne = [46, 46, 46]
      · -- "..." alone
        have hone : splitL body = [[46, 46, 46]] := by
          have h1 : (splitL body).dropLast ++ [[46, 46, 46]] = splitL body := by rw [← hd]; exact List.dropLast_concat_getLast hne
          by_cases h0 : (splitL body).dropLast = []
          · rw [h0] at h1
            exact h1.symm
          · exfalso
            apply hsuf
            rw [List.isSuffixOf_iff_suffix]
            refine ⟨joinL (splitL body).dropLast, ?_⟩
            have h2 := join_snoc _ [46, 46, 46] h0
            rw [h1, join_split] at h2
            exact h2.symm
        have hp : partsOf body = ([], true) := by
          unfold partsOf
          simp [hone]
        have e1 : checkI [[46, 46, 46]] false = 30 := by decide
        have e2 : checkI [] true = 30 := by decide
        have n30 : ¬ (30 : Int) = 0 := by decide
        simp only [hone, hp, e1, e2, n30, if_false]
        exact Ev.now _
      · have hp : partsOf body = (splitL body, false) := by
          unfold partsOf
          rw [if_neg hd]
        simp only [hp]
        by_cases hc : checkI (splitL body) false = 0
        · simp only [hc, if_true]
          exact Ev.now _
        · simp only [hc, if_false]
          exact Ev.now _
  · simp only [if_neg h, Bool.false_eq_true, if_false]
    have n30 : ¬ (30 : Int) = 0 := by decide
    simp only [n30, if_false]
    exact Ev.now _
def totalL (ps : List Bs) : Nat := (ps.map List.length).sum
theorem total_le {ps : List Bs} {m : Nat} (h : totalL ps ≤ m) : ∀ x ∈ ps, x.length ≤ m := by
  induction ps with
  | nil => simp
  | cons a r ih =>
    unfold totalL at h ih
    simp only [List.map_cons, List.sum_cons] at h
    intro x hx
    rcases List.mem_cons.1 hx with rfl | hx
    · omega
    · exact ih (by omega) x hx
theorem small_far (ps qs : List Bs) (b : Bool) (hl : ps.length ≤ 1125899906842624) (h20 : ¬ qs.length ≤ 20) : ∀ (d i : Nat) (n : Int), i + d = ps.length →
    Ev (fun k => stockyardlaw03_small.l0 k n (Ss ps) (ps.length : Int) (i : Int) (Ss qs) b) false := by
  intro d
  induction d with
  | zero =>
    intro i n hi
    have h20' : ¬ (qs.length : Int) ≤ 20 := by omega
    refine Ev.succ ?_
    simp (disch := omega) only [stockyardlaw03_small.l0, if_neg, Ss_length]
    exact Ev.now _
  | succ d ih =>
    intro i n hi
    have hlt : i < ps.length := by omega
    refine Ev.succ ?_
    simp only [stockyardlaw03_small.l0, Ss_length]
    have c1 : (i : Int) < (ps.length : Int) := by omega
    have c2 : (0 : Int) ≤ (i : Int) := by omega
    have e : wrap64 ((i : Int) + 1) = ((i + 1 : Nat) : Int) := by rw [wrap64_id (by omega) (by omega)]; omega
    simp only [if_pos c1, if_pos c2, e]
    exact ih (i + 1) _ (by omega)
theorem small_near (ps : List Bs) (b : Bool) (hl : ps.length ≤ 20) (hx : ∀ x ∈ ps, x.length ≤ 140737488351232) : ∀ (d i n : Nat), i + d = ps.length → n ≤ i * 140737488351232 →
    Ev (fun k => stockyardlaw03_small.l0 k (n : Int) (Ss ps) (ps.length : Int) (i : Int) (Ss ps) b) (decide (n + totalL (ps.drop i) ≤ 400)) := by
  intro d
  induction d with
  | zero =>
    intro i n hi hn
    have h20 : (ps.length : Int) ≤ 20 := by omega
    refine Ev.succ ?_
    simp (disch := omega) only [stockyardlaw03_small.l0, if_neg, if_pos, Ss_length]
    rw [List.drop_of_length_le (by omega), Ev.some_iff]
    simp only [totalL, List.map_nil, List.sum_nil, Nat.add_zero]
    exact decide_eq_decide.2 (by omega)
  | succ d ih =>
    intro i n hi hn
    have hlt : i < ps.length := by omega
    have hxi := hx _ (List.getElem_mem hlt)
    refine Ev.succ ?_
    simp only [stockyardlaw03_small.l0, Ss_length]
    have c1 : (i : Int) < (ps.length : Int) := by omega
    have c2 : (0 : Int) ≤ (i : Int) := by omega
    have e : wrap64 ((i : Int) + 1) = ((i + 1 : Nat) : Int) := by rw [wrap64_id (by omega) (by omega)]; omega
    have hm : i * 140737488351232 ≤ 20 * 140737488351232 := Nat.mul_le_mul_right _ (by omega)
    have e2 : wrap64 ((n : Int) + ((S ps[i]).size : Int)) = ((n + ps[i].length : Nat) : Int) := by rw [size_S, wrap64_id (by omega) (by omega)]; omega
    simp only [if_pos c1, if_pos c2, e]
    rw [rd_Ss ps i hlt, e2, List.drop_eq_getElem_cons hlt]
    refine Ev.of_eq (ih (i + 1) (n + ps[i].length) (by omega) (by rw [Nat.add_mul]; omega)) ?_
    simp only [totalL, List.map_cons, List.sum_cons]
    exact decide_eq_decide.2 (by omega)
def smallB (ps : List Bs) : Bool := decide (ps.length ≤ 20) && decide (totalL ps ≤ 400)
theorem small_ev (ps : List Bs) (b : Bool) (hl : ps.length ≤ 1125899906842624) (hx : ∀ x ∈ ps, x.length ≤ 140737488351232) : Ev (fun k => stockyardlaw03_small.f k (Ss ps) b) (smallB ps) := by
  simp only [stockyardlaw03_small.f, Ss_length]
  unfold smallB
  by_cases h : ps.length ≤ 20
  · simp only [h, decide_true, Bool.true_and]
    have := small_near ps b h hx ps.length 0 0 (by omega) (by omega)
    simpa using this
  · simp only [h, decide_false, Bool.false_and]
    exact small_far ps ps b hl h ps.length 0 0 (by omega)
theorem small_ok {ps : List Bs} (h : smallB ps = true) : ps.length ≤ 20 ∧ ∀ x ∈ ps, x.length ≤ 400 := by
  unfold smallB at h
  simp only [Bool.and_eq_true, decide_eq_true_eq] at h
  exact ⟨h.1, total_le h.2⟩
theorem arg_parts {xs : List ByteArray} (h : WfL 16 WfS xs) : ∃ ps : List Bs, xs = Ss ps ∧ ps.length ≤ 1125899906842624 ∧ ∀ x ∈ ps, x.length ≤ 140737488351232 := by
  refine ⟨xs.map L, (Ss_map_L xs).symm, ?_, ?_⟩
  · have := h.1
    rw [List.length_map]
    omega
  · intro x hx
    obtain ⟨y, hy, rfl⟩ := List.mem_map.1 hx
    have := h.2 y hy
    unfold WfS at this
    rw [← size_eq]
    exact this
theorem equal3_loop (a b : List ByteArray) (hab : a.length = b.length) (hl : a.length ≤ 4611686018427387904) : ∀ (d i : Nat), i + d = a.length →
    Ev (fun k => stockyardlaw03_equal.l0 k a b (a.length : Int) (i : Int)) (decide (a.drop i = b.drop i)) := by
  intro d
  induction d with
  | zero =>
    intro i hi
    refine Ev.succ ?_
    simp (disch := omega) only [stockyardlaw03_equal.l0, if_neg]
    rw [List.drop_of_length_le (by omega), List.drop_of_length_le (by omega), Ev.some_iff]
    simp
  | succ d ih =>
    intro i hi
    have h1 : i < a.length := by omega
    have h2 : i < b.length := by omega
    refine Ev.succ ?_
    simp (disch := omega) only [stockyardlaw03_equal.l0, if_pos, wrap64_id]
    rw [rdOf_get _ _ (by omega) (by omega), rdOf_get _ _ (by omega) (by omega), toList_eq, toList_eq]
    simp only [Int.toNat_natCast]
    rw [List.drop_eq_getElem_cons h1, List.drop_eq_getElem_cons h2]
    by_cases e : a[i] = b[i]
    · simp only [e, if_true, List.cons.injEq, true_and]
      exact ih (i + 1) (by omega)
    · have e2 : ¬ L a[i] = L b[i] := fun h => e (L_inj h)
      simp only [e2, if_false, List.cons.injEq, e, false_and, decide_false]
      exact Ev.now _
theorem equal3_ev (a b : List ByteArray) (hl : a.length ≤ 4611686018427387904) : Ev (fun k => stockyardlaw03_equal.f k a b) (decide (a = b)) := by
  simp only [stockyardlaw03_equal.f]
  by_cases h : (a.length : Int) = (b.length : Int)
  · have h2 := equal3_loop a b (by omega) hl a.length 0 (by omega)
    rw [List.drop_zero, List.drop_zero] at h2
    simp only [if_pos h]
    exact h2
  · simp only [h, if_false]
    rw [Ev.some_iff]
    symm
    rw [decide_eq_false_iff_not]
    intro e
    rw [e] at h
    exact h rfl
def matchL : List Bs → List Bs → Option (List Bs)
  | [], _ => some []
  | _ :: _, [] => none
  | p :: ps, w :: ws => match starL p with
    | none => if w = p then matchL ps ws else none
    | some s => match capR w s with
      | none => none
      | some x => (matchL ps ws).map (x :: ·)
def restL (n : Nat) (rest : Bool) (ws : List Bs) : List Bs := if rest = true then [joinL (ws.drop n)] else []
def matchW (ps : List Bs) (rest : Bool) (ws : List Bs) : Option (List Bs) := if checkI ps rest = 0 ∧ ps.length ≤ ws.length ∧ decide (ps.length < ws.length) = rest then (matchL ps ws).map (· ++ restL ps.length rest ws) else none
def matchP (ps : List Bs) (rest : Bool) (l : Bs) : Option (List Bs) := (pathL l).bind (matchW ps rest)
theorem dirR_none : dirR none = ([], false) := rfl
def roundR (acc : List Bs) (o : Option (List Bs)) (t : List Bs) : List ByteArray × Bool := dirR (o.map fun o => acc ++ o ++ t)
theorem roundR_none (acc t : List Bs) : roundR acc none t = ([], false) := rfl
theorem roundR_cons (acc : List Bs) (x : Bs) (o : Option (List Bs)) (t : List Bs) : roundR acc (o.map (x :: ·)) t = roundR (acc ++ [x]) o t := by
  cases o <;> simp [roundR]
theorem tail_ev (acc ws : List Bs) (n : Nat) (rest : Bool) (ha : acc.length ≤ 1048576) (hn : n ≤ ws.length) (hl : ws.length ≤ 1048576) (hw : ∀ x ∈ ws, x.length ≤ 1048576) :
    (if rest = true then (if 0 ≤ (n : Int) then (if (n : Int) ≤ ((Ss ws).length : Int) then ((strings_Join.f ((Ss ws).drop (n : Int).toNat) (⟨#[47]⟩ : ByteArray)).bind fun t => (if (Ss acc).length < 8796093022208 then (some ((Ss acc ++ [t]), true)) else (none))) else (none)) else (none)) else (some (Ss acc, true))) = some (roundR acc (some []) (restL n rest ws)) := by
  cases rest
  · simp [roundR, restL, dirR]
  · have c1 : (0 : Int) ≤ (n : Int) := by omega
    have c2 : (n : Int) ≤ ((Ss ws).length : Int) := by rw [Ss_length]; omega
    have c3 : (Ss acc).length < 8796093022208 := by rw [Ss_length]; omega
    simp only [if_true, if_pos c1, if_pos c2, Int.toNat_natCast]
    rw [Ss_drop, joinS_eq _ (by rw [List.length_drop]; omega) (fun x hx => hw x (List.mem_of_mem_drop hx)), Option.bind_some, if_pos c3, Ss_snoc]
    simp [roundR, restL, dirR]
theorem match_loop (ps ws : List Bs) (rest : Bool) (hl : ps.length ≤ 20) (hx : ∀ x ∈ ps, x.length ≤ 1048576) (hp : ∀ x ∈ ps, partB x = true)
    (hlw : ws.length ≤ 1048576) (hw : ∀ x ∈ ws, x.length ≤ 1048576) (hn : ps.length ≤ ws.length) : ∀ (d i : Nat) (acc : List Bs), i + d = ps.length → acc.length ≤ i →
    Ev (fun k => pattern_Match.l0 k (Ss ws) (ps.length : Int) (Ss acc) (Ss ps) (ps.length : Int) (i : Int) (Ss ps) rest) (roundR acc (matchL (ps.drop i) (ws.drop i)) (restL ps.length rest ws)) := by
  intro d
  induction d with
  | zero =>
    intro i acc hi ha
    refine Ev.succ ?_
    simp (disch := omega) only [pattern_Match.l0, if_neg]
    rw [tail_ev acc ws ps.length rest (by omega) hn hlw hw, List.drop_of_length_le (by omega), Ev.some_iff]
    simp only [matchL]
  | succ d ih =>
    intro i acc hi ha
    have hlt : i < ps.length := by omega
    have hlt2 : i < ws.length := by omega
    refine Ev.succ ?_
    simp only [pattern_Match.l0, Ss_length]
    have c1 : (i : Int) < (ps.length : Int) := by omega
    have c2 : (0 : Int) ≤ (i : Int) := by omega
    have c3 : (i : Int) < (ws.length : Int) := by omega
    have c4 : acc.length < 8796093022208 := by omega
    have e : wrap64 ((i : Int) + 1) = ((i + 1 : Nat) : Int) := by rw [wrap64_id (by omega) (by omega)]; omega
    simp only [if_pos c1, if_pos c2, if_pos c3, if_pos c4, e]
    rw [rd_Ss ps i hlt, rd_Ss ws i hlt2, Ev.bind_iff (form_ev _ (by rw [size_S]; exact hx _ (List.getElem_mem hlt))), L_S, toList_eq, toList_eq, L_S, L_S,
      List.drop_eq_getElem_cons hlt, List.drop_eq_getElem_cons hlt2]
    have hpi := hp _ (List.getElem_mem hlt)
    have hwi := hw _ (List.getElem_mem hlt2)
    simp only [matchL]
    cases hs : starL ps[i] with
    | none =>
      have hc : compL ps[i] = true := by
        unfold partB at hpi
        rw [hs] at hpi
        simpa using hpi
      have hf : formR ps[i] = (1, S []) := by simp [formR, hs, hc]
      simp only [hf, if_true]
      by_cases hq : ws[i] = ps[i]
      · simp only [hq, if_true]
        exact ih (i + 1) acc (by omega) (by omega)
      · simp only [hq, if_false, roundR_none]
        exact Ev.now _
    | some r =>
      have hf : formR ps[i] = (2, S r) := by simp [formR, hs]
      have n21 : ¬ (2 : Int) = 1 := by decide
      simp only [hf, if_neg n21]
      rw [capture_eq _ _ (by rw [size_S]; omega), L_S, L_S]
      simp only [Option.bind_some]
      cases hcap : capR ws[i] r with
      | none =>
        simp only [strR, Bool.false_eq_true, if_false, roundR_none]
        exact Ev.now _
      | some x =>
        simp only [strR, if_true, roundR_cons, Ss_snoc]
        exact ih (i + 1) (acc ++ [x]) (by omega) (by simp; omega)
theorem match_ev (ps : List Bs) (rest : Bool) (s : ByteArray) (hl : ps.length ≤ 1048576) (hx : ∀ x ∈ ps, x.length ≤ 1048576) (hs : s.size ≤ 1000000) :
    Ev (fun k => pattern_Match.f k (Ss ps) rest s) (dirR (matchP ps rest (L s))) := by
  have hsz := size_eq s
  simp only [pattern_Match.f]
  rw [Ev.bind_iff (split_path_ev s (by omega))]
  unfold matchP
  have no : ∀ (w : List ByteArray) (n : Int), Ev (fun k => pattern_Match.j0 k w n true (Ss ps) rest) ([], false) := by
    intro w n
    refine Ev.succ ?_
    simp only [pattern_Match.j0, if_true]
    exact Ev.now _
  cases hp : pathL (L s) with
  | none =>
    have n20 : ¬ (20 : Int) = 0 := by decide
    simp only [pathR, if_neg n20, Option.bind_none, dirR_none]
    exact no _ _
  | some ws =>
    simp only [pathR, if_true, Option.bind_some, Ss_length]
    rw [Ev.bind_iff (check_ev ps rest hl hx)]
    unfold matchW
    by_cases hc : checkI ps rest = 0
    · simp only [hc, if_true, true_and]
      have hcc := check_ok hc
      by_cases hlt : ws.length < ps.length
      · have c1 : (ws.length : Int) < (ps.length : Int) := by omega
        have c2 : ¬ ps.length ≤ ws.length := by omega
        simp only [if_pos c1, c2, false_and, if_false, dirR_none]
        exact no _ _
      · have c1 : ¬ (ws.length : Int) < (ps.length : Int) := by omega
        have c2 : ps.length ≤ ws.length := by omega
        have e : decide ((ws.length : Int) > (ps.length : Int)) = decide (ps.length < ws.length) := decide_eq_decide.2 (by omega)
        simp only [if_neg c1, c2, true_and, e]
        by_cases hr : decide (ps.length < ws.length) = rest
        · have hb : (decide (ps.length < ws.length) != rest) = false := by rw [hr]; simp
          rw [hb]
          simp only [if_pos hr]
          have h4 := pathL_length hp
          have hws : ∀ x ∈ ws, x.length ≤ 1048576 := fun y hy => by
            have e := h4.2.2
            unfold dirL at e
            split at e
            · injection e with e
              have := splitL_length_le ((L s).drop 2) y (by rw [e]; exact hy)
              rw [List.length_drop] at this
              omega
            · cases e
          refine Ev.succ ?_
          simp only [pattern_Match.j0, Bool.false_eq_true, if_false, Ss_length]
          have := match_loop ps ws rest (by omega) hx hcc.2.2.1 (by omega) hws c2 ps.length 0 [] (by omega) (by simp)
          refine Ev.of_eq this ?_
          simp [roundR]
        · have hb : (decide (ps.length < ws.length) != rest) = true := by rw [bne_iff_ne]; exact hr
          rw [hb]
          simp only [if_neg hr, dirR_none]
          exact no _ _
    · simp only [hc, if_false, false_and, dirR_none]
      exact no _ _
theorem matchL_length : ∀ (ps ws : List Bs) {o : List Bs}, matchL ps ws = some o → o.length ≤ ps.length
  | [], _, o, h => by
    simp only [matchL] at h
    injection h with h
    rw [← h]
    simp
  | _ :: _, [], o, h => by cases h
  | p :: ps, w :: ws, o, h => by
    simp only [matchL] at h
    cases hs : starL p with
    | none =>
      rw [hs] at h
      dsimp only at h
      by_cases hq : w = p
      · rw [if_pos hq] at h
        have := matchL_length ps ws h
        rw [List.length_cons]
        omega
      · rw [if_neg hq] at h
        cases h
    | some s =>
      rw [hs] at h
      dsimp only at h
      cases hc : capR w s with
      | none => rw [hc] at h; cases h
      | some x =>
        rw [hc] at h
        dsimp only at h
        obtain ⟨o', h1, rfl⟩ := Option.map_eq_some_iff.1 h
        have := matchL_length ps ws h1
        simp only [List.length_cons]
        omega
theorem match_length {ps : List Bs} {rest : Bool} {l : Bs} {o : List Bs} (h : matchP ps rest l = some o) : o.length ≤ ps.length + 1 := by
  unfold matchP at h
  obtain ⟨ws, h1, h2⟩ := Option.bind_eq_some_iff.1 h
  unfold matchW at h2
  by_cases hc : checkI ps rest = 0 ∧ ps.length ≤ ws.length ∧ decide (ps.length < ws.length) = rest
  · rw [if_pos hc] at h2
    obtain ⟨o', h3, rfl⟩ := Option.map_eq_some_iff.1 h2
    have := matchL_length ps ws h3
    rw [List.length_append]
    unfold restL
    split
    · simp only [List.length_cons, List.length_nil]
      omega
    · simp only [List.length_nil]
      omega
  · rw [if_neg hc] at h2
    cases h2
theorem awake03 : Ev (fun k => stockyardlaw03_awake.f k) true := by
  simp only [stockyardlaw03_awake.f]
  rw [Ev.bind_iff (parse_ev _ (by decide))]
  have e1 : parseR (L (⟨#[47, 47, 97, 47, 42, 46, 112, 115, 100, 47, 46, 46, 46]⟩ : ByteArray)) = (Ss [[97], [42, 46, 112, 115, 100]], true, 0) := by decide +kernel
  rw [e1]
  simp only
  rw [Ev.bind_iff (match_ev [[97], [42, 46, 112, 115, 100]] true _ (by decide) (by decide) (by decide))]
  have e2 : dirR (matchP [[97], [42, 46, 112, 115, 100]] true (L (⟨#[47, 47, 97, 47, 120, 46, 112, 115, 100, 47, 98, 47, 99]⟩ : ByteArray))) = (Ss [[120], [98, 47, 99]], true) := by decide +kernel
  rw [e2]
  simp only [if_true, Ss_length]
  rw [show rdOf ByteArray.empty (Ss [[120], [98, 47, 99]]) 0 = S [120] from rfl, show rdOf ByteArray.empty (Ss [[120], [98, 47, 99]]) 1 = S [98, 47, 99] from rfl, toList_eq, toList_eq, L_S, L_S]
  exact Ev.now _
theorem comp_take {w : Bs} (h : compL w = true) (n : Nat) : compL (w.take n) = decide (0 < n) := by
  cases n with
  | zero => rfl
  | succ n =>
    cases w with
    | nil => cases h
    | cons c r =>
      simp only [compL, Bool.and_eq_true, List.all_cons] at h
      simp only [List.take_succ_cons, compL, List.all_cons, Nat.zero_lt_succ, decide_true, Bool.and_eq_true]
      refine ⟨h.1, h.2.1, ?_⟩
      rw [List.all_eq_true]
      intro x hx
      exact List.all_eq_true.1 h.2.2 x (List.mem_of_mem_take hx)
theorem star_some {p s : Bs} (h : starL p = some s) : p = 42 :: s := by
  cases p with
  | nil => cases h
  | cons c r =>
    by_cases hh : c = 42 ∧ r.all okU = true
    · unfold starL at h
      simp only [if_pos hh] at h
      injection h with h
      rw [hh.1, h]
    · unfold starL at h
      simp only [if_neg hh] at h
      cases h
end Go.Proofs.YtcpnmcbgcgkieaaDoor.P

/-
  Layer 3: parsing patterns, what a path tells of a pattern, the statements' helpers. No project text.
-/
import Derived.Test.YthclkdplihchjaaDoorPat
import Derived.Test.YthclkdplihchjaaDoorArgs
import Derived.Test.YthclkdplihchjaaDoorPx1
namespace Go.Proofs.YthclkdplihchjaaDoor.P
open Go.RowKit Go.Proofs.YthclkdplihchjaaDoorW.PrintWords Go.Proofs.YthclkdplihchjaaDoor.Args
set_option linter.unusedVariables false
set_option linter.unusedSimpArgs false

theorem join_size (ps : List Bs) (hl : ps.length ≤ 1048576) (hx : ∀ x ∈ ps, x.length ≤ 1048576) : (joinL ps).length ≤ 1099512676352 := by
  have h1 := joinL_bound 1048576 ps hx
  have h2 : ps.length * (1048576 + 1) ≤ 1048576 * (1048576 + 1) := Nat.mul_le_mul_right _ hl
  omega
theorem joinS_eq (ps : List Bs) (hl : ps.length ≤ 1048576) (hx : ∀ x ∈ ps, x.length ≤ 1048576) : strings_Join.f (Ss ps) (⟨#[47]⟩ : ByteArray) = some (S (joinL ps)) := by
  have h1 := join_size ps hl hx
  rw [join_eq (Ss ps) (by rw [Ss_length]; omega) (by rw [L_Ss]; omega), L_Ss]
theorem splitL_snoc {c : Bs} (hc : (47 : UInt8) ∉ c) (b : Bs) : splitL (b ++ 47 :: c) = splitL b ++ [c] := by
  have h : joinL (splitL b ++ [c]) = b ++ 47 :: c := by rw [join_snoc _ _ (splitL_ne b), join_split]
  rw [← h]
  refine split_join (by simp) ?_
  intro x hx
  rcases List.mem_append.1 hx with hx | hx
  · exact splitL_free b x hx
  · rw [List.mem_singleton.1 hx]
    exact hc
def partsOf (body : Bs) : List Bs × Bool := if (splitL body).getLast (splitL_ne body) = [46, 46, 46] then ((splitL body).dropLast, true) else (splitL body, false)
def parseI (l : Bs) : Int := if [47, 47].isPrefixOf l = true then checkI (partsOf (l.drop 2)).1 (partsOf (l.drop 2)).2 else 30
def parseR (l : Bs) : List ByteArray × Bool × Int := if parseI l = 0 then (Ss (partsOf (l.drop 2)).1, (partsOf (l.drop 2)).2, 0) else ([], false, parseI l)
theorem splitL_len_le (l : Bs) : (splitL l).length ≤ l.length + 1 := by
  rw [splitL_count]
  have := List.count_le_length (a := (47 : UInt8)) (l := l)
  omega
theorem dots_alone {l : Bs} (h : splitL l = [[46, 46, 46]]) : checkI [[46, 46, 46]] false = 30 ∧ checkI [] true = 30 := ⟨by decide, by decide⟩
def totalL (ps : List Bs) : Nat := (ps.map List.length).sum
theorem total_le {ps : List Bs} {m : Nat} (h : totalL ps ≤ m) : ∀ x ∈ ps, x.length ≤ m := by
  induction ps with
  | nil => simp
  | cons a r ih =>
    unfold totalL at h ih
    simp only [List.map_cons, List.sum_cons] at h
    intro x hx
    rcases List.mem_cons.1 hx with rfl | hx
    · omega
    · exact ih (by omega) x hx
def smallB (ps : List Bs) : Bool := decide (ps.length ≤ 20) && decide (totalL ps ≤ 400)
theorem small_ok {ps : List Bs} (h : smallB ps = true) : ps.length ≤ 20 ∧ ∀ x ∈ ps, x.length ≤ 400 := by
  unfold smallB at h
  simp only [Bool.and_eq_true, decide_eq_true_eq] at h
  exact ⟨h.1, total_le h.2⟩
theorem arg_parts {xs : List ByteArray} (h : WfL 16 WfS xs) : ∃ ps : List Bs, xs = Ss ps ∧ ps.length ≤ 1125899906842624 ∧ ∀ x ∈ ps, x.length ≤ 140737488351232 := by
  refine ⟨xs.map L, (Ss_map_L xs).symm, ?_, ?_⟩
  · have := h.1
    rw [List.length_map]
    omega
  · intro x hx
    obtain ⟨y, hy, rfl⟩ := List.mem_map.1 hx
    have := h.2 y hy
    unfold WfS at this
    rw [← size_eq]
    exact this
def matchL : List Bs → List Bs → Option (List Bs)
  | [], _ => some []
  | _ :: _, [] => none
  | p :: ps, w :: ws => match starL p with
    | none => if w = p then matchL ps ws else none
    | some s => match capR w s with
      | none => none
      | some x => (matchL ps ws).map (x :: ·)
def restL (n : Nat) (rest : Bool) (ws : List Bs) : List Bs := if rest = true then [joinL (ws.drop n)] else []
def matchW (ps : List Bs) (rest : Bool) (ws : List Bs) : Option (List Bs) := if checkI ps rest = 0 ∧ ps.length ≤ ws.length ∧ decide (ps.length < ws.length) = rest then (matchL ps ws).map (· ++ restL ps.length rest ws) else none
def matchP (ps : List Bs) (rest : Bool) (l : Bs) : Option (List Bs) := (pathL l).bind (matchW ps rest)
theorem dirR_none : dirR none = ([], false) := rfl
def roundR (acc : List Bs) (o : Option (List Bs)) (t : List Bs) : List ByteArray × Bool := dirR (o.map fun o => acc ++ o ++ t)
theorem roundR_none (acc t : List Bs) : roundR acc none t = ([], false) := rfl
theorem roundR_cons (acc : List Bs) (x : Bs) (o : Option (List Bs)) (t : List Bs) : roundR acc (o.map (x :: ·)) t = roundR (acc ++ [x]) o t := by
  cases o <;> simp [roundR]
theorem tail_ev (acc ws : List Bs) (n : Nat) (rest : Bool) (ha : acc.length ≤ 1048576) (hn : n ≤ ws.length) (hl : ws.length ≤ 1048576) (hw : ∀ x ∈ ws, x.length ≤ 1048576) :
    (if rest = true then (if 0 ≤ (n : Int) then (if (n : Int) ≤ ((Ss ws).length : Int) then ((strings_Join.f ((Ss ws).drop (n : Int).toNat) (⟨#[47]⟩ : ByteArray)).bind fun t => (if (Ss acc).length < 8796093022208 then (some ((Ss acc ++ [t]), true)) else (none))) else (none)) else (none)) else (some (Ss acc, true))) = some (roundR acc (some []) (restL n rest ws)) := by
  cases rest
  · simp [roundR, restL, dirR]
  · have c1 : (0 : Int) ≤ (n : Int) := by omega
    have c2 : (n : Int) ≤ ((Ss ws).length : Int) := by rw [Ss_length]; omega
    have c3 : (Ss acc).length < 8796093022208 := by rw [Ss_length]; omega
    simp only [if_true, if_pos c1, if_pos c2, Int.toNat_natCast]
    rw [Ss_drop, joinS_eq _ (by rw [List.length_drop]; omega) (fun x hx => hw x (List.mem_of_mem_drop hx)), Option.bind_some, if_pos c3, Ss_snoc]
    simp [roundR, restL, dirR]
theorem match_loop (ps ws : List Bs) (rest : Bool) (hl : ps.length ≤ 20) (hx : ∀ x ∈ ps, x.length ≤ 1048576) (hp : ∀ x ∈ ps, partB x = true)
    (hlw : ws.length ≤ 1048576) (hw : ∀ x ∈ ws, x.length ≤ 1048576) (hn : ps.length ≤ ws.length) : ∀ (d i : Nat) (acc : List Bs), i + d = ps.length → acc.length ≤ i →
    Ev (fun k => pattern_Match.l0 k (Ss ws) (ps.length : Int) (Ss acc) (Ss ps) (ps.length : Int) (i : Int) (Ss ps) rest) (roundR acc (matchL (ps.drop i) (ws.drop i)) (restL ps.length rest ws)) := by
  intro d
  induction d with
  | zero =>
    intro i acc hi ha
    refine Ev.succ ?_
    simp (disch := omega) only [pattern_Match.l0, if_neg]
    rw [tail_ev acc ws ps.length rest (by omega) hn hlw hw, List.drop_of_length_le (by omega), Ev.some_iff]
    simp only [matchL]
  | succ d ih =>
    intro i acc hi ha
    have hlt : i < ps.length := by omega
    have hlt2 : i < ws.length := by omega
    refine Ev.succ ?_
    simp only [pattern_Match.l0, Ss_length]
    have c1 : (i : Int) < (ps.length : Int) := by omega
    have c2 : (0 : Int) ≤ (i : Int) := by omega
    have c3 : (i : Int) < (ws.length : Int) := by omega
    have c4 : acc.length < 8796093022208 := by omega
    have e : wrap64 ((i : Int) + 1) = ((i + 1 : Nat) : Int) := by rw [wrap64_id (by omega) (by omega)]; omega
    simp only [if_pos c1, if_pos c2, if_pos c3, if_pos c4, e]
    rw [rd_Ss ps i hlt, rd_Ss ws i hlt2, Ev.bind_iff (form_ev _ (by rw [size_S]; exact hx _ (List.getElem_mem hlt))), L_S, toList_eq, toList_eq, L_S, L_S,
      List.drop_eq_getElem_cons hlt, List.drop_eq_getElem_cons hlt2]
    have hpi := hp _ (List.getElem_mem hlt)
    have hwi := hw _ (List.getElem_mem hlt2)
    simp only [matchL]
    cases hs : starL ps[i] with
    | none =>
      have hc : compL ps[i] = true := by
        unfold partB at hpi
        rw [hs] at hpi
        simpa using hpi
      have hf : formR ps[i] = (1, S []) := by simp [formR, hs, hc]
      simp only [hf, if_true]
      by_cases hq : ws[i] = ps[i]
      · simp only [hq, if_true]
        exact ih (i + 1) acc (by omega) (by omega)
      · simp only [hq, if_false, roundR_none]
        exact Ev.now _
    | some r =>
      have hf : formR ps[i] = (2, S r) := by simp [formR, hs]
      have n21 : ¬ (2 : Int) = 1 := by decide
      simp only [hf, if_neg n21]
      rw [capture_eq _ _ (by rw [size_S]; omega), L_S, L_S]
      simp only [Option.bind_some]
      cases hcap : capR ws[i] r with
      | none =>
        simp only [strR, Bool.false_eq_true, if_false, roundR_none]
        exact Ev.now _
      | some x =>
        simp only [strR, if_true, roundR_cons, Ss_snoc]
        exact ih (i + 1) (acc ++ [x]) (by omega) (by simp; omega)
theorem match_ev (ps : List Bs) (rest : Bool) (s : ByteArray) (hl : ps.length ≤ 1048576) (hx : ∀ x ∈ ps, x.length ≤ 1048576) (hs : s.size ≤ 1000000) :
    Ev (fun k => pattern_Match.f k (Ss ps) rest s) (dirR (matchP ps rest (L s))) := by
  have hsz := size_eq s
  simp only [pattern_Match.f]
  rw [Ev.bind_iff (split_path_ev s (by omega))]
  unfold matchP
  have no : ∀ (w : List ByteArray) (n : Int), Ev (fun k => pattern_Match.j0 k w n true (Ss ps) rest) ([], false) := by
    intro w n
    refine Ev.succ ?_
    simp only [pattern_Match.j0, if_true]
    exact Ev.now _
  cases hp : pathL (L s) with
  | none =>
    have n20 : ¬ (20 : Int) = 0 := by decide
    simp only [pathR, if_neg n20, Option.bind_none, dirR_none]
    exact no _ _
  | some ws =>
    simp only [pathR, if_true, Option.bind_some, Ss_length]
    rw [Ev.bind_iff (check_ev ps rest hl hx)]
    unfold matchW
    by_cases hc : checkI ps rest = 0
    · simp only [hc, if_true, true_and]
      have hcc := check_ok hc
      by_cases hlt : ws.length < ps.length
      · have c1 : (ws.length : Int) < (ps.length : Int) := by omega
        have c2 : ¬ ps.length ≤ ws.length := by omega
        simp only [if_pos c1, c2, false_and, if_false, dirR_none]
        exact no _ _
      · have c1 : ¬ (ws.length : Int) < (ps.length : Int) := by omega
        have c2 : ps.length ≤ ws.length := by omega
        have e : decide ((ws.length : Int) > (ps.length : Int)) = decide (ps.length < ws.length) := decide_eq_decide.2 (by omega)
        simp only [if_neg c1, c2, true_and, e]
        by_cases hr : decide (ps.length < ws.length) = rest
        · have hb : (decide (ps.length < ws.length) != rest) = false := by rw [hr]; simp
          rw [hb]
          simp only [if_pos hr]
          have h4 := pathL_length hp
          have hws : ∀ x ∈ ws, x.length ≤ 1048576 := fun y hy => by
            have e := h4.2.2
            unfold dirL at e
            split at e
            · injection e with e
              have := splitL_length_le ((L s).drop 2) y (by rw [e]; exact hy)
              rw [List.length_drop] at this
              omega
            · cases e
          refine Ev.succ ?_
          simp only [pattern_Match.j0, Bool.false_eq_true, if_false, Ss_length]
          have := match_loop ps ws rest (by omega) hx hcc.2.2.1 (by omega) hws c2 ps.length 0 [] (by omega) (by simp)
          refine Ev.of_eq this ?_
          simp [roundR]
        · have hb : (decide (ps.length < ws.length) != rest) = true := by rw [bne_iff_ne]; exact hr
          rw [hb]
          simp only [if_neg hr, dirR_none]
          exact no _ _
    · simp only [hc, if_false, false_and, dirR_none]
      exact no _ _
theorem matchL_length : ∀ (ps ws : List Bs) {o : List Bs}, matchL ps ws = some o → o.length ≤ ps.length
  | [], _, o, h => by
    simp only [matchL] at h
    injection h with h
    rw [← h]
    simp
  | _ :: _, [], o, h => by cases h
  | p :: ps, w :: ws, o, h => by
    simp only [matchL] at h
    cases hs : starL p with
    | none =>
      rw [hs] at h
      dsimp only at h
      by_cases hq : w = p
      · rw [if_pos hq] at h
        have := matchL_length ps ws h
        rw [List.length_cons]
        omega
      · rw [if_neg hq] at h
        cases h
    | some s =>
      rw [hs] at h
      dsimp only at h
      cases hc : capR w s with
      | none => rw [hc] at h; cases h
      | some x =>
        rw [hc] at h
        dsimp only at h
        obtain ⟨o', h1, rfl⟩ := Option.map_eq_some_iff.1 h
        have := matchL_length ps ws h1
        simp only [List.length_cons]
        omega
theorem match_length {ps : List Bs} {rest : Bool} {l : Bs} {o : List Bs} (h : matchP ps rest l = some o) : o.length ≤ ps.length + 1 := by
  unfold matchP at h
  obtain ⟨ws, h1, h2⟩ := Option.bind_eq_some_iff.1 h
  unfold matchW at h2
  by_cases hc : checkI ps rest = 0 ∧ ps.length ≤ ws.length ∧ decide (ps.length < ws.length) = rest
  · rw [if_pos hc] at h2
    obtain ⟨o', h3, rfl⟩ := Option.map_eq_some_iff.1 h2
    have := matchL_length ps ws h3
    rw [List.length_append]
    unfold restL
    split
    · simp only [List.length_cons, List.length_nil]
      omega
    · simp only [List.length_nil]
      omega
  · rw [if_neg hc] at h2
    cases h2
theorem comp_take {w : Bs} (h : compL w = true) (n : Nat) : compL (w.take n) = decide (0 < n) := by
  cases n with
  | zero => rfl
  | succ n =>
    cases w with
    | nil => cases h
    | cons c r =>
      simp only [compL, Bool.and_eq_true, List.all_cons] at h
      simp only [List.take_succ_cons, compL, List.all_cons, Nat.zero_lt_succ, decide_true, Bool.and_eq_true]
      refine ⟨h.1, h.2.1, ?_⟩
      rw [List.all_eq_true]
      intro x hx
      exact List.all_eq_true.1 h.2.2 x (List.mem_of_mem_take hx)
theorem star_some {p s : Bs} (h : starL p = some s) : p = 42 :: s := by
  cases p with
  | nil => cases h
  | cons c r =>
    by_cases hh : c = 42 ∧ r.all okU = true
    · unfold starL at h
      simp only [if_pos hh] at h
      injection h with h
      rw [hh.1, h]
    · unfold starL at h
      simp only [if_neg hh] at h
      cases h
/-! ### bindings as plain lists -/
def mkB (l : List Bs) (r : Bool) : S28 := ⟨Ss l, r⟩
def Bnd (l : List (List Bs × Bool)) : List S28 := l.map fun x => mkB x.1 x.2
theorem Bnd_length (l : List (List Bs × Bool)) : (Bnd l).length = l.length := by simp [Bnd]
theorem Bnd_snoc (l : List (List Bs × Bool)) (x : List Bs) (r : Bool) : Bnd l ++ [(⟨Ss x, r⟩ : S28)] = Bnd (l ++ [(x, r)]) := by simp [Bnd, mkB]
/-- What the parts with a wildcard are narrowed to. -/
def bindL : List Bs → List Bs → List (List Bs × Bool)
  | [], _ => []
  | _ :: _, [] => []
  | p :: ps, q :: qs => match starL p with
    | none => bindL ps qs
    | some s => ([q.take (q.length - s.length)], false) :: bindL ps qs
def bindP (ps : List Bs) (b : Bool) (qs : List Bs) (b' : Bool) : List (List Bs × Bool) := bindL ps qs ++ if b = true then [(qs.drop ps.length, b')] else []
end Go.Proofs.YthclkdplihchjaaDoor.P

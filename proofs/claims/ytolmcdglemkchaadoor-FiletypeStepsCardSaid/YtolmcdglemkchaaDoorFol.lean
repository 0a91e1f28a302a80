/-
  Chapter 9: where a link leads: the steps of a target from a path, in the code and in the reference. No project text.
-/
import Derived.Test.YtolmcdglemkchaaDoorFty
import Derived.Test.YtolmcdglemkchaaDoorPx2
import Derived.Test.YtolmcdglemkchaaDoorPx3
import Derived.Test.YtolmcdglemkchaaDoorPx4
namespace Go.Proofs.YtolmcdglemkchaaDoor.P
open Go.RowKit Go.Proofs.YtolmcdglemkchaaDoorW.PrintWords
set_option linter.unusedVariables false
set_option linter.unusedSimpArgs false

def joinR (xs : List ByteArray) : ByteArray × Int := if 2 ≤ xs.length ∧ xs.all (fun s => compL (L s)) = true then (S (textL (xs.map L)), 0) else (S [], 21)
theorem join_loop (xs : List ByteArray) (h1 : xs.length ≤ 1048576) (hx : ∀ x ∈ xs, x.size ≤ 1048576) (h2 : (joinL (xs.map L)).length ≤ 140737488355328) : ∀ (d i : Nat), i + d = xs.length →
    Ev (fun k => path_Join.l0 k xs xs (xs.length : Int) (i : Int)) (if (xs.drop i).all (fun s => compL (L s)) = true then (S (textL (xs.map L)), 0) else (S [], 21)) := by
  intro d
  induction d with
  | zero =>
    intro i hi
    refine Ev.succ ?_
    simp (disch := omega) only [path_Join.l0, if_neg]
    rw [join_eq xs (by omega) h2, List.drop_of_length_le (by omega)]
    have hb : (2 : Int) + ((S (joinL (xs.map L))).size : Int) ≤ 9223372036854775807 := by rw [size_S]; omega
    simp only [Option.bind_some, List.all_nil, if_true]
    first
      | rw [if_pos hb]
      | simp only [if_pos hb]
      | (have hb' : 2 + (S (joinL (xs.map L))).size ≤ 9223372036854775807 := by omega
         simp only [if_pos hb'])
    rw [text_app]
    exact Ev.now _
  | succ d ih =>
    intro i hi
    have hlt : i < xs.length := by omega
    refine Ev.succ ?_
    simp (disch := omega) only [path_Join.l0, if_pos, wrap64_id]
    rw [rdOf_get _ _ (by omega) (by omega)]
    simp only [Int.toNat_natCast]
    rw [Ev.bind_iff (comp_ev _ (by have := hx _ (List.getElem_mem hlt); omega)), List.drop_eq_getElem_cons hlt, List.all_cons]
    cases hc : compL (L xs[i])
    · simp only [Bool.false_eq_true, if_false, Bool.false_and]
      exact Ev.now _
    · simp only [if_true, Bool.true_and]
      exact ih (i + 1) (by omega)
theorem path_join_ev (xs : List ByteArray) (h1 : xs.length ≤ 1048576) (hx : ∀ x ∈ xs, x.size ≤ 1048576) : Ev (fun k => path_Join.f k xs) (joinR xs) := by
  have hb := joinL_bound 1048576 (xs.map L) (fun x hx2 => by
    obtain ⟨y, hy, rfl⟩ := List.mem_map.1 hx2
    rw [← size_eq]
    exact hx y hy)
  rw [List.length_map] at hb
  have hb2 : xs.length * (1048576 + 1) ≤ 1048576 * (1048576 + 1) := Nat.mul_le_mul_right _ h1
  simp only [path_Join.f, joinR]
  by_cases hl : xs.length < 2
  · simp (disch := omega) only [if_pos]
    rw [Ev.some_iff, if_neg (by omega)]
    rfl
  · have h2 := join_loop xs h1 hx (by omega) xs.length 0 (by omega)
    rw [List.drop_zero] at h2
    simp (disch := omega) only [if_neg]
    refine Ev.of_eq h2 ?_
    have h3 : 2 ≤ xs.length := by omega
    simp [h3]
theorem refjoin_eq (xs : List ByteArray) (h1 : xs.length ≤ 1048576) (hx : ∀ x ∈ xs, x.size ≤ 1048576) : stockyardref02_Join.f xs = some (S (textL (xs.map L))) := by
  have hb := joinL_bound 1048576 (xs.map L) (fun x hx2 => by
    obtain ⟨y, hy, rfl⟩ := List.mem_map.1 hx2
    rw [← size_eq]
    exact hx y hy)
  rw [List.length_map] at hb
  have hb2 : xs.length * (1048576 + 1) ≤ 1048576 * (1048576 + 1) := Nat.mul_le_mul_right _ h1
  simp only [stockyardref02_Join.f]
  rw [join_eq xs (by omega) (by omega)]
  simp only [Option.bind_some, size_S]
  rw [if_pos (by omega), text_app]
  rfl
theorem parent_ev (s : ByteArray) (hs : s.size ≤ 1048576) : Ev (fun k => path_Parent.f k s) (match pathL (L s) with | some p => (S (textL p.dropLast), 0) | none => (S [], 20)) := by
  have hsz := size_eq s
  simp only [path_Parent.f]
  rw [Ev.bind_iff (split_path_ev s hs)]
  cases hp : pathL (L s) with
  | none => exact Ev.now _
  | some p =>
    have h1 := path_text hp
    obtain ⟨q, x, rfl, hq⟩ := snoc_of h1.2.2
    have h2 := pathL_length hp
    have e : L s = textL q ++ 47 :: x := by rw [h1.1, text_snoc q x hq]
    have hl : (L s).length = (textL q).length + (x.length + 1) := by rw [e]; simp
    simp only [pathR, if_true, Ss_length]
    have hlen : (q ++ [x]).length = q.length + 1 := by simp
    simp (disch := omega) only [hlen, if_pos, wrap64_id]
    have e1 : rdOf ByteArray.empty (Ss (q ++ [x])) (((q.length + 1 : Nat) : Int) - 1) = S x := by
      rw [rdOf_get _ _ (by omega) (by rw [Ss_length]; omega)]
      have : (((q.length + 1 : Nat) : Int) - 1).toNat = q.length := by omega
      simp [Ss, this]
    rw [e1, size_S]
    simp (disch := omega) only [if_pos, wrap64_id]
    rw [extract_to, Ev.some_iff]
    have e2 : ((s.size : Int) - (x.length : Int) - 1).toNat = (textL q).length := by omega
    rw [e2, e]
    simp
/-! ### targets -/
theorem index_neg (l : Bs) (c : UInt8) : Lib.indexByte l c < 0 ↔ c ∉ l := by
  constructor
  · intro h hm
    obtain ⟨a, b, rfl, _, e⟩ := indexByte_some hm
    rw [e] at h
    omega
  · intro h
    rw [indexByte_none.2 h]
    omega
def targetL (l : Bs) : Bool := decide (l ≠ [] ∧ l.length ≤ 200 ∧ 0 ∉ l ∧ 10 ∉ l)
theorem lib_bytes (s : ByteArray) : Lib.bytesOf (bytesOf s) = L s := by
  unfold Lib.bytesOf bytesOf L
  rw [List.map_map]
  conv => rhs; rw [← List.map_id s.data.toList]
  refine List.map_congr_left fun b _ => ?_
  simp
theorem nil_size {s : ByteArray} (h : s.size = 0) : L s = [] := List.eq_nil_of_length_eq_zero (by rw [← size_eq]; exact h)
theorem link_eq (s : ByteArray) (hs : s.size ≤ 1048576) : filetype_linkS.f s = some (targetL (L s)) := by
  have hz := size_eq s
  unfold filetype_linkS.f filetype_link.f bytes_IndexByte.f
  rw [if_pos (by omega), lib_bytes, bytesOf_length]
  by_cases h0 : (s.size : Int) > 0
  · have hne : L s ≠ [] := by
      intro e
      rw [e, List.length_nil] at hz
      omega
    rw [if_pos h0]
    by_cases h2 : (s.size : Int) ≤ 200
    · have hl : (L s).length ≤ 200 := by omega
      rw [if_pos h2, if_pos (by omega), if_pos (by omega), Option.bind_some]
      change (if Lib.indexByte (L s) 0 < 0 then (some (Lib.indexByte (L s) 10)).bind (fun t => some (decide (t < 0))) else some false) = _
      rw [Option.bind_some]
      by_cases h3 : (0 : UInt8) ∈ L s
      · rw [if_neg (by rw [index_neg]; exact fun h => h h3)]
        simp [targetL, h3]
      · rw [if_pos ((index_neg _ _).2 h3)]
        simp only [index_neg, targetL, hne, hl, h3, ne_eq, not_false_eq_true, true_and]
    · have hl : ¬ (L s).length ≤ 200 := by omega
      rw [if_neg h2]
      simp [targetL, hl]
  · rw [if_neg h0]
    have := nil_size (s := s) (by omega)
    simp [targetL, this]
theorem target_eq (s : ByteArray) (hs : s.size ≤ 1048576) : stockyardref09_Target.f s = some (targetL (L s)) := by
  have hz := size_eq s
  unfold stockyardref09_Target.f
  have e0 : strings_Contains.f s (⟨#[0]⟩ : ByteArray) = some (decide (Lib.indexByte (L s) 0 ≥ 0)) := rfl
  have e1 : strings_Contains.f s (⟨#[10]⟩ : ByteArray) = some (decide (Lib.indexByte (L s) 10 ≥ 0)) := rfl
  rw [e0, e1, toList_eq]
  have i0 := index_neg (L s) 0
  have i1 := index_neg (L s) 10
  by_cases hn : L s = []
  · rw [if_pos hn]
    simp [targetL, hn]
  · rw [if_neg hn]
    by_cases h2 : (s.size : Int) ≤ 200
    · have hl : (L s).length ≤ 200 := by omega
      rw [if_pos h2, Option.bind_some]
      by_cases h3 : (0 : UInt8) ∈ L s
      · rw [decide_eq_true (by by_cases h : Lib.indexByte (L s) 0 < 0; exact absurd h3 (i0.1 h); omega), if_pos rfl]
        simp [targetL, h3]
      · rw [decide_eq_false (by have := i0.2 h3; omega), if_neg (by decide), Option.bind_some]
        by_cases h4 : (10 : UInt8) ∈ L s
        · rw [decide_eq_true (by by_cases h : Lib.indexByte (L s) 10 < 0; exact absurd h4 (i1.1 h); omega)]
          simp [targetL, h4]
        · rw [decide_eq_false (by have := i1.2 h4; omega)]
          simp [targetL, hn, hl, h3, h4]
    · have hl : ¬ (L s).length ≤ 200 := by omega
      rw [if_neg h2]
      simp [targetL, hl]
/-! ### the steps -/
def stepsL : List Bs → List Bs → Option (List Bs)
  | acc, [] => some acc
  | acc, s :: r => if s = [] ∨ s = [46] then stepsL acc r else if s = [46, 46] then (if acc.length = 1 then none else stepsL acc.dropLast r) else if compL s = true then stepsL (acc ++ [s]) r else none
def endL (o : Option (List Bs)) : ByteArray × Int := match o with
  | none => (S [], 92)
  | some acc => if acc.length < 2 then (S [], 92) else (S (textL acc), 0)
theorem Ss_take' (p : List Bs) (n : Nat) : (Ss p).take n = Ss (p.take n) := by simp [Ss]
theorem Ss_snoc (p : List Bs) (x : Bs) : Ss p ++ [S x] = Ss (p ++ [x]) := by simp [Ss]
theorem Ss_rd (p : List Bs) (i : Nat) (h : i < p.length) : rdOf ByteArray.empty (Ss p) (i : Int) = S p[i] := by
  rw [rdOf_get _ _ (by omega) (by rw [Ss_length]; omega)]
  simp [Ss]
theorem Ss_size {p : List Bs} {B : Nat} (h : ∀ x ∈ p, x.length ≤ B) : ∀ x ∈ Ss p, x.size ≤ B := by
  intro x hx
  obtain ⟨y, hy, rfl⟩ := List.mem_map.1 hx
  rw [size_S]
  exact h y hy
theorem all_snoc {acc : List Bs} {x : Bs} (h : acc.all compL = true) (hx : compL x = true) : (acc ++ [x]).all compL = true := by
  rw [List.all_append, h]
  simp [hx]
theorem all_drop {acc : List Bs} (h : acc.all compL = true) : acc.dropLast.all compL = true := by
  rw [List.all_eq_true] at h ⊢
  exact fun x hx => h x ((List.dropLast_sublist acc).subset hx)
theorem snoc_sizes {acc : List Bs} {x : Bs} {B : Nat} (h : ∀ x ∈ acc, x.length ≤ B) (hx : x.length ≤ B) : ∀ y ∈ acc ++ [x], y.length ≤ B := by
  intro y hy
  rcases List.mem_append.1 hy with hy | hy
  · exact h y hy
  · rw [List.mem_singleton.1 hy]
    exact hx
theorem drop_sizes {acc : List Bs} {B : Nat} (h : ∀ x ∈ acc, x.length ≤ B) : ∀ y ∈ acc.dropLast, y.length ≤ B := fun y hy => h y ((List.dropLast_sublist acc).subset hy)
theorem follow_loop (ts : List Bs) (hl : ts.length ≤ 1000) (hts : ∀ x ∈ ts, x.length ≤ 1000) : ∀ (d i : Nat) (acc : List Bs), i + d = ts.length → 1 ≤ acc.length → acc.length + d ≤ 3000 → acc.all compL = true → (∀ x ∈ acc, x.length ≤ 1000) →
    Ev (fun k => filetype_Follow.l0 k (Ss acc) (Ss ts) (ts.length : Int) (i : Int)) (endL (stepsL acc (ts.drop i))) := by
  intro d
  induction d with
  | zero =>
    intro i acc hi h1 h2 h3 h4
    refine Ev.succ ?_
    simp (disch := omega) only [filetype_Follow.l0, if_neg]
    rw [List.drop_of_length_le (by omega)]
    simp only [stepsL, endL]
    rw [Ev.bind_iff (path_join_ev (Ss acc) (by rw [Ss_length]; omega) (fun x hx => Nat.le_trans (Ss_size h4 x hx) (by decide)))]
    have e : joinR (Ss acc) = if acc.length < 2 then (S [], 21) else (S (textL acc), 0) := by
      unfold joinR
      rw [Ss_all, Ss_length, L_Ss, h3]
      by_cases c : acc.length < 2
      · rw [if_neg (fun h => by have := h.1; omega), if_pos c]
      · rw [if_pos ⟨by omega, rfl⟩, if_neg c]
    rw [e]
    by_cases c : acc.length < 2
    · simp only [if_pos c]
      exact Ev.now _
    · simp only [if_neg c]
      exact Ev.now _
  | succ d ih =>
    intro i acc hi h1 h2 h3 h4
    have hlt : i < ts.length := by omega
    have hx := hts _ (List.getElem_mem hlt)
    have J : Ev (fun k => filetype_Follow.j1 k (Ss acc) (S ts[i]) (Ss ts) (ts.length : Int) (i : Int) (decide (ts[i] = [] ∨ ts[i] = [46]))) (endL (stepsL acc (ts[i] :: ts.drop (i + 1)))) := by
      generalize ts[i] = x at hx ⊢
      refine Ev.succ ?_
      simp only [filetype_Follow.j1, toList_eq, L_S]
      rw [stepsL]
      by_cases c1 : x = [] ∨ x = [46]
      · simp (disch := omega) only [c1, decide_true, if_true, wrap64_id]
        exact ih (i + 1) acc (by omega) h1 (by omega) h3 h4
      · simp only [c1, decide_false, Bool.false_eq_true, if_false]
        by_cases c2 : x = [46, 46]
        · simp only [if_pos c2, Ss_length]
          by_cases c3 : acc.length = 1
          · simp (disch := omega) only [if_pos]
            exact Ev.now _
          · simp (disch := omega) only [if_neg, if_pos, wrap64_id]
            rw [Ss_take', show ((acc.length : Int) - 1).toNat = acc.length - 1 by omega, ← List.dropLast_eq_take]
            exact ih (i + 1) acc.dropLast (by omega) (by rw [List.length_dropLast]; omega) (by rw [List.length_dropLast]; omega) (all_drop h3) (drop_sizes h4)
        · simp only [if_neg c2]
          rw [Ev.bind_iff (comp_ev (S x) (by rw [size_S]; omega)), L_S]
          cases hc : compL x
          · simp only [Bool.false_eq_true, if_false]
            exact Ev.now _
          · simp only [if_true, Ss_length]
            simp (disch := omega) only [if_pos, wrap64_id]
            rw [Ss_snoc]
            exact ih (i + 1) (acc ++ [x]) (by omega) (by rw [List.length_append]; omega) (by rw [List.length_append, List.length_singleton]; omega) (all_snoc h3 hc) (snoc_sizes h4 hx)
    rw [List.drop_eq_getElem_cons hlt]
    refine Ev.succ ?_
    have hss : (i : Int) < ((Ss ts).length : Int) := by rw [Ss_length]; omega
    simp (disch := omega) only [filetype_Follow.l0, if_pos]
    rw [Ss_rd ts i hlt, toList_eq, L_S]
    generalize ts[i] = x at J hx ⊢
    by_cases c1 : x = [46]
    · simp only [if_pos c1]
      rw [decide_eq_true (by simp [c1])] at J
      exact J
    · simp only [if_neg c1]
      have e : (x == ([] : List UInt8)) = decide (x = [] ∨ x = [46]) := by
        by_cases c2 : x = []
        · simp [c2]
        · simp [c1, c2]
      rw [e]
      exact J
theorem reffollow_loop (ts : List Bs) (hl : ts.length ≤ 1000) (hts : ∀ x ∈ ts, x.length ≤ 1000) : ∀ (d i : Nat) (acc : List Bs), i + d = ts.length → 1 ≤ acc.length → acc.length + d ≤ 3000 → acc.all compL = true → (∀ x ∈ acc, x.length ≤ 1000) →
    Ev (fun k => stockyardref09_Follow.l0 k (Ss acc) (Ss ts) (ts.length : Int) (i : Int)) (endL (stepsL acc (ts.drop i))) := by
  intro d
  induction d with
  | zero =>
    intro i acc hi h1 h2 h3 h4
    refine Ev.succ ?_
    simp (disch := omega) only [stockyardref09_Follow.l0, if_neg]
    rw [List.drop_of_length_le (by omega)]
    simp only [stepsL, endL]
    simp only [Ss_length]
    by_cases c : acc.length < 2
    · simp (disch := omega) only [if_pos]
      exact Ev.now _
    · simp (disch := omega) only [if_neg]
      rw [refjoin_eq (Ss acc) (by rw [Ss_length]; omega) (fun x hx => Nat.le_trans (Ss_size h4 x hx) (by decide)), L_Ss]
      exact Ev.now _
  | succ d ih =>
    intro i acc hi h1 h2 h3 h4
    have hlt : i < ts.length := by omega
    have hx := hts _ (List.getElem_mem hlt)
    have J : Ev (fun k => stockyardref09_Follow.j1 k (Ss acc) (S ts[i]) (Ss ts) (ts.length : Int) (i : Int) (decide (ts[i] = [] ∨ ts[i] = [46]))) (endL (stepsL acc (ts[i] :: ts.drop (i + 1)))) := by
      generalize ts[i] = x at hx ⊢
      refine Ev.succ ?_
      simp only [stockyardref09_Follow.j1, toList_eq, L_S]
      rw [stepsL]
      by_cases c1 : x = [] ∨ x = [46]
      · simp (disch := omega) only [c1, decide_true, if_true, wrap64_id]
        exact ih (i + 1) acc (by omega) h1 (by omega) h3 h4
      · simp only [c1, decide_false, Bool.false_eq_true, if_false]
        by_cases c2 : x = [46, 46]
        · simp only [if_pos c2, Ss_length]
          by_cases c3 : acc.length = 1
          · simp (disch := omega) only [if_pos]
            exact Ev.now _
          · simp (disch := omega) only [if_neg, if_pos, wrap64_id]
            rw [Ss_take', show ((acc.length : Int) - 1).toNat = acc.length - 1 by omega, ← List.dropLast_eq_take]
            exact ih (i + 1) acc.dropLast (by omega) (by rw [List.length_dropLast]; omega) (by rw [List.length_dropLast]; omega) (all_drop h3) (drop_sizes h4)
        · simp only [if_neg c2]
          rw [Ev.bind_iff (refcomp_ev (S x) (by rw [size_S]; omega)), L_S]
          cases hc : compL x
          · simp only [Bool.false_eq_true, if_false]
            exact Ev.now _
          · simp only [if_true, Ss_length]
            have et : (Ss acc).take ((acc.length : Int)).toNat = Ss acc := List.take_of_length_le (by rw [Ss_length]; omega)
            simp (disch := omega) only [if_pos, wrap64_id, et, Option.bind_some, Ss_length]
            rw [Ss_snoc]
            exact ih (i + 1) (acc ++ [x]) (by omega) (by rw [List.length_append]; omega) (by rw [List.length_append, List.length_singleton]; omega) (all_snoc h3 hc) (snoc_sizes h4 hx)
    rw [List.drop_eq_getElem_cons hlt]
    refine Ev.succ ?_
    have hss : (i : Int) < ((Ss ts).length : Int) := by rw [Ss_length]; omega
    simp (disch := omega) only [stockyardref09_Follow.l0, if_pos]
    rw [Ss_rd ts i hlt, toList_eq, L_S]
    generalize ts[i] = x at J hx ⊢
    by_cases c1 : x = []
    · simp only [if_pos c1]
      rw [decide_eq_true (by simp [c1])] at J
      exact J
    · simp only [if_neg c1]
      have e : (x == ([46] : List UInt8)) = decide (x = [] ∨ x = [46]) := by
        by_cases c2 : x = [46]
        · simp [c2]
        · simp [c1, c2]
      rw [e]
      exact J
def followL (l t : Bs) : ByteArray × Int := match pathL l with
  | none => (S [], 20)
  | some p => if targetL t = true then (if t.head? = some 47 then (S [], 92) else endL (stepsL p.dropLast (splitL t))) else (S [], 91)
theorem target_ne {t : Bs} (h : targetL t = true) : t ≠ [] := (of_decide_eq_true h).1
theorem head_bt {s : ByteArray} (h : L s ≠ []) : bt s 0 = 47 ↔ (L s).head? = some 47 := by
  have hl : 0 < (L s).length := List.length_pos_iff.2 h
  have e : bt s 0 = (((L s).getD 0 0).toNat : Int) := by
    have := bt_get s (i := 0) (by omega) (by omega)
    exact this
  rw [e]
  generalize L s = l at h
  cases l with
  | nil => exact absurd rfl h
  | cons c r =>
    simp only [List.getD_cons_zero, List.head?_cons, Option.some.injEq]
    constructor
    · intro h
      apply UInt8.toNat_inj.1
      have h2 : c.toNat = 47 := by omega
      rw [h2]
      rfl
    · intro h
      rw [h]
      rfl
theorem follow_ev (s t : ByteArray) (hs : s.size ≤ 400) (ht : t.size ≤ 400) : Ev (fun k => filetype_Follow.f k s t) (followL (L s) (L t)) := by
  have zs := size_eq s
  have zt := size_eq t
  simp only [filetype_Follow.f]
  rw [Ev.bind_iff (split_path_ev s (by omega))]
  unfold followL
  cases hp : pathL (L s) with
  | none => exact Ev.now _
  | some p =>
    have hpt := path_text hp
    have hpl := pathL_length hp
    have hps : ∀ x ∈ p, x.length ≤ 1000 := by
      intro x hx
      have hd := hpl.2.2
      unfold dirL at hd
      split at hd
      · injection hd with hd
        subst hd
        have := splitL_length_le _ x hx
        rw [List.length_drop] at this
        omega
      · cases hd
    simp only [pathR, if_true]
    simp only [link_eq t (by omega : t.size ≤ 1048576), Option.bind_some]
    by_cases h1 : targetL (L t) = true
    · have hne := target_ne h1
      have hpos : 0 < (L t).length := List.length_pos_iff.2 hne
      simp (disch := omega) only [h1, if_true, if_pos]
      by_cases h2 : bt t 0 = 47
      · rw [if_pos ((head_bt hne).1 h2)]
        simp only [if_pos h2]
        exact Ev.now _
      · rw [if_neg (fun h => h2 ((head_bt hne).2 h))]
        simp (disch := omega) only [if_neg h2, Ss_length, if_pos, wrap64_id]
        simp only [split_eq t (by omega : t.size < 4294967281), Option.bind_some, Ss_length]
        rw [Ss_take', show ((p.length : Int) - 1).toNat = p.length - 1 by omega, ← List.dropLast_eq_take]
        have hc := splitL_count (L t)
        have hcl : (L t).count 47 ≤ (L t).length := List.count_le_length
        have := follow_loop (splitL (L t)) (by omega) (fun x hx => by have := splitL_length_le _ x hx; omega) (splitL (L t)).length 0 p.dropLast (by omega) (by rw [List.length_dropLast]; omega) (by rw [List.length_dropLast]; omega) (all_drop hpt.2.1) (drop_sizes hps)
        rw [List.drop_zero] at this
        exact this
    · simp only [h1, Bool.false_eq_true, if_false]
      exact Ev.now _
theorem reffollow_ev (s t : ByteArray) (hs : s.size ≤ 400) (ht : t.size ≤ 400) : Ev (fun k => stockyardref09_Follow.f k s t) (followL (L s) (L t)) := by
  have zs := size_eq s
  have zt := size_eq t
  simp only [stockyardref09_Follow.f]
  rw [Ev.bind_iff (refpath_ev s (by omega))]
  unfold followL
  cases hp : pathL (L s) with
  | none => exact Ev.now _
  | some p =>
    have hpt := path_text hp
    have hpl := pathL_length hp
    have hps : ∀ x ∈ p, x.length ≤ 1000 := by
      intro x hx
      have hd := hpl.2.2
      unfold dirL at hd
      split at hd
      · injection hd with hd
        subst hd
        have := splitL_length_le _ x hx
        rw [List.length_drop] at this
        omega
      · cases hd
    simp only [dirR, if_true]
    simp only [target_eq t (by omega : t.size ≤ 1048576), Option.bind_some]
    by_cases h1 : targetL (L t) = true
    · have hne := target_ne h1
      have hpos : 0 < (L t).length := List.length_pos_iff.2 hne
      simp (disch := omega) only [h1, if_true, if_pos]
      by_cases h2 : bt t 0 = 47
      · rw [if_pos ((head_bt hne).1 h2)]
        simp only [if_pos h2]
        exact Ev.now _
      · rw [if_neg (fun h => h2 ((head_bt hne).2 h))]
        simp (disch := omega) only [if_neg h2, Ss_length, if_pos, wrap64_id]
        simp only [split_eq t (by omega : t.size < 4294967281), Option.bind_some, Ss_length]
        rw [Ss_take', show ((p.length : Int) - 1).toNat = p.length - 1 by omega, ← List.dropLast_eq_take]
        have hc := splitL_count (L t)
        have hcl : (L t).count 47 ≤ (L t).length := List.count_le_length
        have := reffollow_loop (splitL (L t)) (by omega) (fun x hx => by have := splitL_length_le _ x hx; omega) (splitL (L t)).length 0 p.dropLast (by omega) (by rw [List.length_dropLast]; omega) (by rw [List.length_dropLast]; omega) (all_drop hpt.2.1) (drop_sizes hps)
        rw [List.drop_zero] at this
        exact this
    · simp only [h1, Bool.false_eq_true, if_false]
      exact Ev.now _
end Go.Proofs.YtolmcdglemkchaaDoor.P

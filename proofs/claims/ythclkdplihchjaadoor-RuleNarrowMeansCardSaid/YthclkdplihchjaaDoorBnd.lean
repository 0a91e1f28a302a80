/-
  Layer 3: to what the wildcards of a pattern are narrowed: what Bind comes to, in the program. No project text.
-/
import Derived.Test.YthclkdplihchjaaDoorWth
import Derived.Test.YthclkdplihchjaaDoorPatB
import Derived.Test.YthclkdplihchjaaDoorPx6
namespace Go.Proofs.YthclkdplihchjaaDoor.P
open Go.RowKit Go.Proofs.YthclkdplihchjaaDoorW.PrintWords Go.Proofs.YthclkdplihchjaaDoor.Args
set_option linter.unusedVariables false
set_option linter.unusedSimpArgs false

theorem inB_star_len {x y s : Bs} (h : inB x y = true) (hy : starL y = some s) : s.length ≤ x.length := by
  unfold inB at h
  rw [hy] at h
  dsimp only at h
  cases hx : starL x with
  | none =>
    rw [hx] at h
    have := (cap_iff.1 h).1
    omega
  | some t =>
    rw [hx] at h
    dsimp only at h
    have h1 := suffix_len h
    have h2 := star_some hx
    rw [h2, List.length_cons]
    omega
theorem inP_parts {ps qs : List Bs} {b b' : Bool} (h : inP ps b qs b' = true) : checkI ps b = 0 ∧ checkI qs b' = 0 ∧ qs.length ≤ ps.length ∧ ∀ i (h : i < qs.length) (h' : i < ps.length), inB ps[i] qs[i] = true := by
  have h := inP_iff.1 h
  exact ⟨h.1, h.2.1, h.2.2.1, h.2.2.2.2.2⟩
theorem cut_suffix (q s : Bs) (hs : s.length ≤ q.length) (hq : q.length ≤ 1048576) : wrap64 (((S q).size : Int) - ((S s).size : Int)) = ((q.length - s.length : Nat) : Int) := by
  rw [size_S, size_S, wrap64_id (by omega) (by omega)]
  omega
theorem bind_loop (ps qs : List Bs) (b b' : Bool) (h1 : ps.length ≤ 20) (h2 : qs.length ≤ 1048576) (hx : ∀ x ∈ ps, x.length ≤ 1048576) (hy : ∀ x ∈ qs, x.length ≤ 1048576)
    (hp : ∀ x ∈ ps, partB x = true) (hl : ps.length ≤ qs.length) (hin : ∀ i (h : i < ps.length) (h' : i < qs.length), inB qs[i] ps[i] = true) : ∀ (d i : Nat) (acc : List (List Bs × Bool)), i + d = ps.length → acc.length ≤ i →
    Ev (fun k => pattern_Bind.l0 k (Bnd acc) (Ss ps) (ps.length : Int) (i : Int) (Ss ps) b (Ss qs) b') (Bnd (acc ++ (bindL (ps.drop i) (qs.drop i) ++ if b = true then [(qs.drop ps.length, b')] else [])), true) := by
  intro d
  induction d with
  | zero =>
    intro i acc hi ha
    refine Ev.succ ?_
    have c1 : ¬ ((i : Int) < (ps.length : Int)) := by omega
    have c2 : (0 : Int) ≤ ((Ss ps).length : Int) := by omega
    have c3 : ((Ss ps).length : Int) ≤ ((Ss qs).length : Int) := by rw [Ss_length, Ss_length]; omega
    have c4 : ([] : List ByteArray).length + (Ss (qs.drop ps.length)).length < 8796093022208 := by rw [Ss_length, List.length_drop, List.length_nil]; omega
    have c5 : (Bnd acc).length < 4398046511104 := by rw [Bnd_length]; omega
    have e1 : ((Ss ps).length : Int).toNat = ps.length := by rw [Ss_length]; omega
    simp only [pattern_Bind.l0, if_neg c1, Option.bind_some, if_pos c2, if_pos c3, e1, Ss_drop, if_pos c4, if_pos c5, List.nil_append, Bnd_snoc]
    rw [List.drop_of_length_le (by omega : ps.length ≤ i)]
    cases b
    · simp only [Bool.false_eq_true, if_false, bindL, List.append_nil]
      exact Ev.now _
    · simp only [if_true, bindL, List.nil_append]
      exact Ev.now _
  | succ d ih =>
    intro i acc hi ha
    have hlt : i < ps.length := by omega
    have hlt2 : i < qs.length := by omega
    have c1 : (i : Int) < (ps.length : Int) := by omega
    have c2 : (0 : Int) ≤ (i : Int) := by omega
    have c3 : (i : Int) < ((Ss ps).length : Int) := by rw [Ss_length]; omega
    have c4 : (i : Int) < ((Ss qs).length : Int) := by rw [Ss_length]; omega
    have c5 : (Bnd acc).length < 4398046511104 := by rw [Bnd_length]; omega
    have e : wrap64 ((i : Int) + 1) = ((i + 1 : Nat) : Int) := by rw [wrap64_id (by omega) (by omega)]; omega
    have lx := hx _ (List.getElem_mem hlt)
    have ly := hy _ (List.getElem_mem hlt2)
    refine Ev.succ ?_
    simp only [pattern_Bind.l0, if_pos c1, if_pos c2, if_pos c3, if_pos c4, if_pos c5, e]
    rw [rd_Ss ps i hlt, rd_Ss qs i hlt2, Ev.bind_iff (form_ev _ (by rw [size_S]; exact lx)), L_S, form_of (hp _ (List.getElem_mem hlt)), List.drop_eq_getElem_cons hlt, List.drop_eq_getElem_cons hlt2]
    simp only [bindL]
    cases hs : starL ps[i] with
    | none =>
      have n12 : ¬ (1 : Int) = 2 := by decide
      simp only [if_neg n12]
      exact ih (i + 1) acc (by omega) (by omega)
    | some s =>
      have hsl := inB_star_len (hin i hlt hlt2) hs
      have c6 : (0 : Int) ≤ ((qs[i].length - s.length : Nat) : Int) := by omega
      have c7 : ((qs[i].length - s.length : Nat) : Int) ≤ ((S qs[i]).size : Int) := by rw [size_S]; omega
      simp only [if_true, cut_suffix _ _ hsl ly, if_pos c6, if_pos c7, Int.toNat_natCast, extract_to, L_S]
      rw [show ([S (qs[i].take (qs[i].length - s.length))] : List ByteArray) = Ss [qs[i].take (qs[i].length - s.length)] from rfl, Bnd_snoc]
      refine Ev.of_eq (ih (i + 1) (acc ++ [([qs[i].take (qs[i].length - s.length)], false)]) (by omega) (by simp; omega)) ?_
      simp
def bindV (ps : List Bs) (b : Bool) (qs : List Bs) (b' : Bool) : List S28 × Bool := if inP qs b' ps b = true then (Bnd (bindP ps b qs b'), true) else ([], false)
theorem bind_ev (ps qs : List Bs) (b b' : Bool) (h1 : ps.length ≤ 1048576) (h2 : qs.length ≤ 1048576) (hx : ∀ x ∈ ps, x.length ≤ 1048576) (hy : ∀ x ∈ qs, x.length ≤ 1048576) :
    Ev (fun k => pattern_Bind.f k (Ss ps) b (Ss qs) b') (bindV ps b qs b') := by
  simp only [pattern_Bind.f]
  rw [Ev.bind_iff (within_ev qs ps b' b h2 h1 hy hx)]
  unfold bindV
  by_cases h : inP qs b' ps b = true
  · have hh := inP_parts h
    have hc := check_ok hh.2.1
    simp only [h, if_true, Ss_length]
    have := bind_loop ps qs b b' (by have := hc.2.1; omega) h2 hx hy hc.2.2.1 hh.2.2.1 (fun i g1 g2 => hh.2.2.2 i g1 g2) ps.length 0 [] (by omega) (by simp)
    exact this
  · simp only [h, if_false, Bool.false_eq_true]
    exact Ev.now _
end Go.Proofs.YthclkdplihchjaaDoor.P

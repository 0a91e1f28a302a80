/-
  Layer 3: the texts of patterns. No project text.
-/
import Derived.Test.YtkakemojljeffaaDoorPatB
import Derived.Test.YtkakemojljeffaaDoorPx12
namespace Go.Proofs.YtkakemojljeffaaDoor.P
open Go.RowKit Go.Proofs.YtkakemojljeffaaDoorW.PrintWords Go.Proofs.YtkakemojljeffaaDoor.Args
set_option linter.unusedVariables false
set_option linter.unusedSimpArgs false

def patText (ps : List Bs) (rest : Bool) : Bs := textL ps ++ (if rest = true then [47, 46, 46, 46] else [])
def formatR (ps : List Bs) (b : Bool) : ByteArray × Int := if checkI ps b = 0 then (S (patText ps b), 0) else (S [], checkI ps b)
theorem text_rest (ps : List Bs) : S (47 :: 47 :: joinL ps) ++ (⟨#[47, 46, 46, 46]⟩ : ByteArray) = S (patText ps true) := by
  rw [append_S, L_S]
  rfl
theorem text_norest (ps : List Bs) : S (47 :: 47 :: joinL ps) = S (patText ps false) := by
  unfold patText textL
  simp
theorem format_ev (ps : List Bs) (b : Bool) (hl : ps.length ≤ 1048576) (hx : ∀ x ∈ ps, x.length ≤ 1048576) : Ev (fun k => pattern_Format.f k (Ss ps) b) (formatR ps b) := by
  have h1 := join_size ps hl hx
  simp only [pattern_Format.f]
  rw [Ev.bind_iff (check_ev ps b hl hx), joinS_eq ps hl hx]
  unfold formatR
  by_cases h : checkI ps b = 0
  · simp only [h, if_true, Option.bind_some, text_app]
    have c1 : 2 + (S (joinL ps)).size ≤ 9223372036854775807 := by rw [size_S]; omega
    have c2 : (S (47 :: 47 :: joinL ps)).size + 4 ≤ 9223372036854775807 := by rw [size_S]; simp only [List.length_cons]; omega
    simp only [if_pos c1, if_pos c2]
    cases b
    · simp only [Bool.false_eq_true, if_false, text_norest]
      exact Ev.now _
    · simp only [if_true, text_rest]
      exact Ev.now _
  · simp only [h, if_false]
    exact Ev.now _
theorem reftext_eq (ps : List Bs) (b : Bool) (hl : ps.length ≤ 1048576) (hx : ∀ x ∈ ps, x.length ≤ 1048576) : stockyardref03_Text.f (Ss ps) b = some (S (patText ps b)) := by
  have h1 := join_size ps hl hx
  simp only [stockyardref03_Text.f]
  rw [joinS_eq ps hl hx]
  simp only [Option.bind_some, text_app]
  have c1 : 2 + (S (joinL ps)).size ≤ 9223372036854775807 := by rw [size_S]; omega
  have c2 : (S (47 :: 47 :: joinL ps)).size + 4 ≤ 9223372036854775807 := by rw [size_S]; simp only [List.length_cons]; omega
  simp only [if_pos c1, if_pos c2]
  cases b
  · simp only [Bool.false_eq_true, if_false, text_norest]
  · simp only [if_true, text_rest]
theorem part_free {x : Bs} (h : partB x = true) : (47 : UInt8) ∉ x := by
  unfold partB at h
  cases hs : starL x with
  | none =>
    rw [hs] at h
    simp only [Option.isSome_none, Bool.false_or] at h
    exact comp_free h
  | some r =>
    cases x with
    | nil => simp
    | cons c t =>
      by_cases hh : c = 42 ∧ t.all okU = true
      · obtain ⟨rfl, ha⟩ := hh
        intro hm
        rcases List.mem_cons.1 hm with e | hm
        · exact absurd e (by decide)
        · exact absurd (List.all_eq_true.1 ha 47 hm) (by decide)
      · unfold starL at hs
        simp only [if_neg hh] at hs
        cases hs
theorem dots_part : partB [46, 46, 46] = false := by decide
theorem parts_text {ps : List Bs} {b : Bool} (h : checkI ps b = 0) : partsOf ((patText ps b).drop 2) = (ps, b) := by
  obtain ⟨_, _, hp, hne⟩ := check_ok h
  have hfree : ∀ x ∈ ps, (47 : UInt8) ∉ x := fun x hx => part_free (hp x hx)
  have e : splitL (joinL ps) = ps := split_join hne hfree
  cases b
  · have e2 : (patText ps false).drop 2 = joinL ps := by simp [patText, textL]
    rw [e2]
    unfold partsOf
    rw [if_neg]
    · rw [e]
    · intro hl
      have hm : ([46, 46, 46] : Bs) ∈ ps := by rw [← e, ← hl]; exact List.getLast_mem _
      have := hp _ hm
      rw [dots_part] at this
      cases this
  · have e2 : (patText ps true).drop 2 = joinL ps ++ 47 :: [46, 46, 46] := by simp [patText, textL]
    rw [e2]
    unfold partsOf
    have e3 : splitL (joinL ps ++ 47 :: [46, 46, 46]) = ps ++ [[46, 46, 46]] := by rw [splitL_snoc (by decide), e]
    simp [e3]
theorem parse_text {ps : List Bs} {b : Bool} (h : checkI ps b = 0) : parseR (patText ps b) = (Ss ps, b, 0) := by
  have e : [47, 47].isPrefixOf (patText ps b) = true := by simp [patText, textL, List.isPrefixOf]
  unfold parseR parseI
  simp only [e, if_true, parts_text h, h]
theorem text_parse {l : Bs} (h : parseI l = 0) : patText (partsOf (l.drop 2)).1 (partsOf (l.drop 2)).2 = l := by
  unfold parseI at h
  split at h
  · rename_i hp
    obtain ⟨body, rfl⟩ := List.isPrefixOf_iff_prefix.1 hp
    have e : ([47, 47] ++ body).drop 2 = body := rfl
    rw [e] at h ⊢
    have hs := join_split body
    unfold partsOf at h ⊢
    split
    · rename_i hd
      rw [if_pos hd] at h
      have hne := (check_ok h).2.2.2
      have h1 : (splitL body).dropLast ++ [[46, 46, 46]] = splitL body := by rw [← hd]; exact List.dropLast_concat_getLast (splitL_ne body)
      have h2 := join_snoc _ [46, 46, 46] hne
      rw [h1, hs] at h2
      unfold patText textL
      simp only [if_true]
      exact congrArg (fun z => 47 :: 47 :: z) h2.symm
    · unfold patText textL
      simp [hs]
  · cases h
end Go.Proofs.YtkakemojljeffaaDoor.P

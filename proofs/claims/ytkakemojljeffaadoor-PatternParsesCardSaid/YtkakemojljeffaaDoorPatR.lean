/-
  Layer 3: the reference's parsing. No project text.
-/
import Derived.Test.YtkakemojljeffaaDoorPatB
import Derived.Test.YtkakemojljeffaaDoorPx5
import Derived.Test.YtkakemojljeffaaDoorPx7
namespace Go.Proofs.YtkakemojljeffaaDoor.P
open Go.RowKit Go.Proofs.YtkakemojljeffaaDoorW.PrintWords Go.Proofs.YtkakemojljeffaaDoor.Args
set_option linter.unusedVariables false
set_option linter.unusedSimpArgs false

theorem refparse_ev (s : ByteArray) (hs : s.size ≤ 1000000) : Ev (fun k => stockyardref03_Parse.f k s) (parseR (L s)) := by
  have hsz := size_eq s
  simp only [stockyardref03_Parse.f, strings_HasPrefix.f, hasPrefix_eq, Option.bind_some]
  rw [L_lit]
  unfold parseR parseI
  by_cases h : [47, 47].isPrefixOf (L s) = true
  · have hl := (List.isPrefixOf_iff_prefix.1 h).length_le
    simp only [List.length_cons, List.length_nil] at hl
    have h2s : (2 : Int) ≤ (s.size : Int) := by omega
    simp only [h, if_true, if_pos h2s]
    rw [extract_from, split_eq _ (by rw [size_S, List.length_drop]; omega)]
    simp only [Option.bind_some, L_S, Ss_length]
    have hbody : ((L s).drop 2).length ≤ 1000000 := by rw [List.length_drop]; omega
    revert hbody
    generalize (L s).drop 2 = body
    intro hbody
    have hlen := splitL_len_le body
    have hne := splitL_ne body
    have hsz2 := splitL_length_le body
    have hpos : 0 < (splitL body).length := List.length_pos_iff.2 hne
    have ei : wrap64 (((splitL body).length : Int) - 1) = (((splitL body).length - 1 : Nat) : Int) := by rw [wrap64_id (by omega) (by omega)]; omega
    rw [ei]
    have c1 : (0 : Int) ≤ (((splitL body).length - 1 : Nat) : Int) := by omega
    have c2 : (((splitL body).length - 1 : Nat) : Int) < ((splitL body).length : Int) := by omega
    have c3 : (((splitL body).length - 1 : Nat) : Int) ≤ ((splitL body).length : Int) := by omega
    simp only [if_pos c1, if_pos c2, if_pos c3]
    rw [rd_Ss _ _ (by omega), toList_eq, L_S, ← List.getLast_eq_getElem hne]
    unfold partsOf
    by_cases hd : (splitL body).getLast hne = [46, 46, 46]
    · simp only [hd, if_true, Option.bind_some]
      have et : (Ss (splitL body)).take ((((splitL body).length - 1 : Nat) : Int)).toNat = Ss (splitL body).dropLast := by
        rw [Int.toNat_natCast, List.dropLast_eq_take]
        simp [Ss]
      rw [et, Ev.bind_iff (refcheck_ev _ true (by rw [List.length_dropLast]; omega) (fun x hx => by rw [List.dropLast_eq_take] at hx; have := hsz2 x (List.mem_of_mem_take hx); omega))]
      by_cases hc : checkI (splitL body).dropLast true = 0
      · simp only [hc, if_true]
        exact Ev.now _
      · simp only [hc, if_false]
        exact Ev.now _
    · simp only [hd, if_false]
      rw [Ev.bind_iff (refcheck_ev _ false (by omega) (fun x hx => by have := hsz2 x hx; omega))]
      by_cases hc : checkI (splitL body) false = 0
      · simp only [hc, if_true]
        exact Ev.now _
      · simp only [hc, if_false]
        exact Ev.now _
  · have h' : ¬ ([47, 47].isPrefixOf (L s) = true) := h
    have n30 : ¬ (30 : Int) = 0 := by decide
    simp only [h', Bool.false_eq_true, if_false, n30]
    exact Ev.now _
end Go.Proofs.YtkakemojljeffaaDoor.P

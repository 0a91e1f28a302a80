/-
  Chapter 9, the types: fourteen, each with a text of its own; Parse answers as the reference. No project text.
-/
import Derived.Test.YtolmcdglemkchaaDoorText
import Derived.Test.YtolmcdglemkchaaDoorPx2
import Derived.Test.YtolmcdglemkchaaDoorPx3
namespace Go.Proofs.YtolmcdglemkchaaDoor.P
open Go.RowKit Go.Proofs.YtolmcdglemkchaaDoorW.PrintWords
set_option linter.unusedVariables false
set_option linter.unusedSimpArgs false
set_option maxRecDepth 100000

theorem Ev.of_mono {α : Type} {g : Nat → Option α} {r : α} (hm : ∀ k, LeO (g k) (g (k + 1))) (n : Nat) (h : g n = some r) : Ev g r := by
  refine ⟨n, fun m hnm => ?_⟩
  induction hnm with
  | refl => exact h
  | step _ ih => exact hm _ _ ih
theorem awake09 : Ev (fun k => stockyardlaw09_awake.f k) true := Ev.of_mono (fun k => stockyardlaw09_awake.mono k) 30 (by kernel_rfl)
def allT : List S23 := (stockyardref09_All.f 60).getD []
def txtT (t : S23) : ByteArray := fmtT t.f0 t.f1 t.f2 t.f3
theorem all_ev : Ev (fun k => stockyardref09_All.f k) allT := Ev.of_mono (fun k => stockyardref09_All.mono k) 60 (by kernel_rfl)
theorem allT_length : allT.length = 14 := by kernel_rfl
theorem text_ev {t : S23} (h : t ∈ allT) : Ev (fun k => stockyardref09_Text.f k t.f0 t.f1 t.f2 t.f3) (txtT t) := by
  have e : allT.all (fun t => decide (stockyardref09_Text.f 10 t.f0 t.f1 t.f2 t.f3 = some (txtT t))) = true := by kernel_rfl
  exact Ev.of_mono (fun k => stockyardref09_Text.mono t.f0 t.f1 t.f2 t.f3 k) 10 (of_decide_eq_true (List.all_eq_true.1 e t h))
theorem parses_own {t : S23} (h : t ∈ allT) : filetype_Parse.f (txtT t) = some (t.f0, t.f1, t.f2, t.f3, 0) := by
  have e : allT.all (fun t => decide (filetype_Parse.f (txtT t) = some (t.f0, t.f1, t.f2, t.f3, 0))) = true := by kernel_rfl
  exact of_decide_eq_true (List.all_eq_true.1 e t h)
theorem refparses_own {t : S23} (h : t ∈ allT) : Ev (fun k => stockyardref09_Parse.f k (txtT t)) (t.f0, t.f1, t.f2, t.f3, 0) := by
  have e : allT.all (fun t => decide (stockyardref09_Parse.f 60 (txtT t) = some (t.f0, t.f1, t.f2, t.f3, 0))) = true := by kernel_rfl
  exact Ev.of_mono (fun k => stockyardref09_Parse.mono (txtT t) k) 60 (of_decide_eq_true (List.all_eq_true.1 e t h))
theorem refparse_loop (s : ByteArray) (hn : ∀ t ∈ allT, L (txtT t) ≠ L s) : ∀ (d i : Nat), i + d = 14 → Ev (fun k => stockyardref09_Parse.l0 k s allT (14 : Int) (i : Int)) (0, false, false, false, 90) := by
  have hl := allT_length
  intro d
  induction d with
  | zero =>
    intro i hi
    refine Ev.succ ?_
    simp (disch := omega) only [stockyardref09_Parse.l0, if_neg]
    exact Ev.now _
  | succ d ih =>
    intro i hi
    refine Ev.succ ?_
    simp (disch := omega) only [stockyardref09_Parse.l0, if_pos, wrap64_id]
    have hm : rd_T23 allT (i : Int) ∈ allT := by
      have hlt : i < allT.length := by omega
      have e : rd_T23 allT (i : Int) = allT[i] := by
        unfold rd_T23
        simp [hlt]
      rw [e]
      exact List.getElem_mem hlt
    rw [Ev.bind_iff (text_ev hm), toList_eq, toList_eq]
    simp only [if_neg (hn _ hm)]
    exact ih (i + 1) (by omega)
theorem refparse_none (s : ByteArray) (hn : ∀ t ∈ allT, L (txtT t) ≠ L s) : Ev (fun k => stockyardref09_Parse.f k s) (0, false, false, false, 90) := by
  simp only [stockyardref09_Parse.f]
  rw [Ev.bind_iff all_ev]
  have e : (allT.length : Int) = 14 := by rw [allT_length]; rfl
  rw [e]
  exact refparse_loop s hn 14 0 rfl
theorem index_bounds (l : Bs) (c : UInt8) : -1 ≤ Lib.indexByte l c ∧ Lib.indexByte l c < (l.length : Int) := by
  by_cases h : c ∈ l
  · obtain ⟨a, b, rfl, _, e⟩ := indexByte_some h
    rw [e]
    simp
    omega
  · rw [indexByte_none.2 h]
    omega
theorem cut_total (s : ByteArray) (hs : s.size ≤ 140737488351232) : ∃ c, strings_Cut.f s (⟨#[43]⟩ : ByteArray) = some c := by
  obtain ⟨h1, h2⟩ := index_bounds (L s) 43
  have hz := size_eq s
  have e : stringslite_Index.f s (⟨#[43]⟩ : ByteArray) = some (Lib.indexByte (L s) 43) := rfl
  have e1 : ((⟨#[43]⟩ : ByteArray).size : Int) = 1 := rfl
  unfold strings_Cut.f stringslite_Cut.f
  rw [e]
  simp only [Option.bind_some, e1]
  generalize Lib.indexByte (L s) 43 = i at *
  by_cases hi : i ≥ 0
  · rw [wrap64_id (by omega) (by omega)]
    simp (disch := omega) only [if_pos, Option.bind_some]
    exact ⟨_, rfl⟩
  · simp only [if_neg hi, Option.bind_some]
    exact ⟨_, rfl⟩
theorem base_of (s : ByteArray) : baseOf s = 0 ∨ baseOf s = 1 ∨ baseOf s = 2 ∨ baseOf s = 3 := by
  unfold baseOf
  split
  · simp
  · split
    · simp
    · split <;> simp
/-- What Format says of a base and marks: an error, or the text of one of the fourteen. -/
theorem format_of (b : Int) (hb : b = 0 ∨ b = 1 ∨ b = 2 ∨ b = 3) (k l x : Bool) : ∃ r, filetype_Format.f b k l x = some r ∧ (r.2 = 0 → ∃ t ∈ allT, txtT t = r.1) := by
  have e : [0, 1, 2, 3].all (fun b : Int => [true, false].all fun k => [true, false].all fun l => [true, false].all fun x => match filetype_Format.f b k l x with | some r => decide (r.2 ≠ 0) || allT.any (fun t => decide (txtT t = r.1)) | none => false) = true := by kernel_rfl
  have e1 := List.all_eq_true.1 e b (by simpa using hb)
  have e2 := List.all_eq_true.1 e1 k (by cases k <;> simp)
  have e3 := List.all_eq_true.1 e2 l (by cases l <;> simp)
  have e4 := List.all_eq_true.1 e3 x (by cases x <;> simp)
  cases hf : filetype_Format.f b k l x with
  | none => rw [hf] at e4; cases e4
  | some r =>
    rw [hf] at e4
    dsimp only at e4
    refine ⟨r, rfl, fun h0 => ?_⟩
    rw [h0] at e4
    simp only [ne_eq, not_true_eq_false, decide_false, Bool.false_or, List.any_eq_true, decide_eq_true_eq] at e4
    exact e4
theorem parse_none (s : ByteArray) (hs : s.size ≤ 140737488351232) (hn : ∀ t ∈ allT, L (txtT t) ≠ L s) : filetype_Parse.f s = some (0, false, false, false, 90) := by
  obtain ⟨c, hc⟩ := cut_total s hs
  unfold filetype_Parse.f
  rw [hc]
  simp only [Option.bind_some, strings_IndexByte.f]
  obtain ⟨r, hr, ht⟩ := format_of (baseOf c.1) (base_of c.1) (decide (0 ≤ Lib.indexByte c.2.1.data.toList (Int.toNat 107).toUInt8)) (decide (0 ≤ Lib.indexByte c.2.1.data.toList (Int.toNat 108).toUInt8)) (decide (0 ≤ Lib.indexByte c.2.1.data.toList (Int.toNat 120).toUInt8))
  rw [hr]
  simp only [Option.bind_some, parseV]
  rw [if_neg]
  intro h
  obtain ⟨t, htm, hte⟩ := ht h.1
  refine hn t htm ?_
  rw [hte, ← toList_eq, ← toList_eq]
  exact h.2
end Go.Proofs.YtolmcdglemkchaaDoor.P

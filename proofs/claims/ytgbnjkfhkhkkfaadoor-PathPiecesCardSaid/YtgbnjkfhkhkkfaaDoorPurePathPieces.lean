/-
  The pure statement of PathPieces: Parent, Name and Extension answer as the reference does.
-/
import Derived.Test.YtgbnjkfhkhkkfaaDoorStPathPieces
import Derived.Test.YtgbnjkfhkhkkfaaDoorPath3
import Derived.Test.YtgbnjkfhkhkkfaaDoorPx2
import Derived.Test.YtgbnjkfhkhkkfaaDoorPx7
import Derived.Test.YtgbnjkfhkhkkfaaDoorPx8
namespace Go.Proofs.YtgbnjkfhkhkkfaaDoor.P
open Go.RowKit Go.Proofs.YtgbnjkfhkhkkfaaDoorW.PrintWords Go.Proofs.YtgbnjkfhkhkkfaaDoor.Args
set_option linter.unusedVariables false
set_option linter.unusedSimpArgs false

theorem ext_ev (s : ByteArray) (hs : s.size ≤ 1048576) : ∃ e : ByteArray, Ev (fun k => stockyardref02_Extension.f k s) e ∧
    Ev (fun k => (strings_LastIndexByte.f k s 46).bind fun t => (if t ≥ 0 then (if 0 ≤ t then (if t ≤ (s.size : Int) then (some (s.extract (t : Int).toNat s.size, (0 : Int))) else none) else none) else some (S [], 0))) (e, 0) := by
  obtain ⟨r, h1, h2, h3⟩ := lastindex_ev s 46 hs
  by_cases h : 0 ≤ r
  · refine ⟨s.extract r.toNat s.size, ?_, ?_⟩
    · simp only [stockyardref02_Extension.f]
      rw [Ev.bind_iff h3]
      simp (disch := omega) only [if_pos, if_neg]
      exact Ev.now _
    · rw [Ev.bind_iff h3]
      simp (disch := omega) only [if_pos]
      exact Ev.now _
  · refine ⟨S [], ?_, ?_⟩
    · simp only [stockyardref02_Extension.f]
      rw [Ev.bind_iff h3]
      simp (disch := omega) only [if_pos]
      exact Ev.now _
    · rw [Ev.bind_iff h3]
      simp (disch := omega) only [if_neg]
      exact Ev.now _
theorem Pure.PathPieces : St.PathPieces := by
  intro s hs
  refine Ev.rounds ?_
  have none_ : Ev (fun k => (stockyardlaw02_awake.f k).bind fun t => some t) true := by rw [Ev.bind_some]; exact awake02
  simp only [stockyardlaw02_PathPieces.f, long_eq, Option.bind_some]
  by_cases hl : (s.size : Int) > 400
  · simp only [hl, decide_true, if_true]
    exact none_
  · have h1 : s.size ≤ 1048576 := by omega
    have hsz := size_eq s
    simp only [hl, decide_false, Bool.false_eq_true, if_false]
    rw [Ev.bind_iff (parent_ev s h1), Ev.bind_iff (name_ev s h1)]
    cases hp : pathL (L s) with
    | none =>
      have hn := name_ev s h1
      rw [hp] at hn
      have n20 : ¬ ((20 : Int) = 0) := by decide
      have he : Ev (fun k => path_Extension.f k s) (S [], 20) := by
        simp only [path_Extension.f]
        rw [Ev.bind_iff hn]
        simp only [n20, if_false]
        exact Ev.now _
      rw [Ev.bind_iff he, Ev.bind_iff (refpath_ev s h1), hp]
      simp only [dirR, Bool.false_eq_true, if_false, toList_eq, L_S, if_true]
      exact none_
    | some p =>
      have hn := name_ev s h1
      rw [hp] at hn
      have h2 := path_text hp
      have h4 := pathL_length hp
      obtain ⟨q, x, rfl, hq⟩ := snoc_of h2.2.2
      have hlast : (q ++ [x]).getLastD [] = x := by simp
      have hinit : (q ++ [x]).dropLast = q := by simp
      simp only [hlast, hinit] at hn ⊢
      have hxl : x.length ≤ 1048576 := by
        have e := h2.1
        rw [text_snoc q x hq] at e
        have := congrArg List.length e
        simp at this
        omega
      obtain ⟨e, he1, he2⟩ := ext_ev (S x) (by rw [size_S]; exact hxl)
      have he : Ev (fun k => path_Extension.f k s) (e, 0) := by
        simp only [path_Extension.f]
        rw [Ev.bind_iff hn]
        simp only [if_true]
        exact he2
      rw [Ev.bind_iff he, Ev.bind_iff (refpath_ev s h1), hp]
      have hlen : (q ++ [x]).length = q.length + 1 := by simp
      rw [hlen] at h4
      simp only [dirR, if_true, Ss_length]
      simp (disch := omega) only [hlen, wrap64_id, if_pos]
      have et : (Ss (q ++ [x])).take (((q.length + 1 : Nat) : Int) - 1).toNat = Ss q := by
        have : (((q.length + 1 : Nat) : Int) - 1).toNat = q.length := by omega
        rw [this, Ss_take]
        simp
      have er : rdOf ByteArray.empty (Ss (q ++ [x])) (((q.length + 1 : Nat) : Int) - 1) = S x := by
        rw [rdOf_get _ _ (by omega) (by rw [Ss_length]; omega)]
        have : (((q.length + 1 : Nat) : Int) - 1).toNat = q.length := by omega
        simp [Ss, this]
      rw [et, er, refjoin_eq (Ss q) (by rw [Ss_length]; omega) (fun y hy => by
        obtain ⟨z, hz, rfl⟩ := List.mem_map.1 hy
        have e := (pathL_length hp).2.2
        unfold dirL at e
        split at e
        · injection e with e
          have := splitL_length_le ((L s).drop 2) z (by rw [e]; exact List.mem_append_left _ hz)
          rw [List.length_drop] at this
          rw [size_S]
          omega
        · cases e), L_Ss]
      simp only [Option.bind_some, if_true]
      rw [Ev.bind_iff he1]
      simp only [if_true]
      exact none_
end Go.Proofs.YtgbnjkfhkhkkfaaDoor.P

/-
  The pure statement of PathBack: a path is joined of its components, and of its directory and its name.
-/
import Derived.Test.YtgbnjkfhkhkkfaaDoorStPathBack
import Derived.Test.YtgbnjkfhkhkkfaaDoorPath3
import Derived.Test.YtgbnjkfhkhkkfaaDoorPx2
import Derived.Test.YtgbnjkfhkhkkfaaDoorPx8
namespace Go.Proofs.YtgbnjkfhkhkkfaaDoor.P
open Go.RowKit Go.Proofs.YtgbnjkfhkhkkfaaDoorW.PrintWords Go.Proofs.YtgbnjkfhkhkkfaaDoor.Args
set_option linter.unusedVariables false
set_option linter.unusedSimpArgs false

theorem Pure.PathBack : St.PathBack := by
  intro s hs
  refine Ev.rounds ?_
  have none_ : Ev (fun k => (stockyardlaw02_awake.f k).bind fun t => some t) true := by rw [Ev.bind_some]; exact awake02
  have long : Ev (fun k => stockyardlaw02_PathBack.j0 k s true) true := by
    refine Ev.succ ?_
    simp only [stockyardlaw02_PathBack.j0, if_true]
    exact none_
  simp only [stockyardlaw02_PathBack.f, long_eq, Option.bind_some]
  by_cases hl : (s.size : Int) > 400
  · simp only [hl, decide_true, if_true]
    exact long
  · have h1 : s.size ≤ 1048576 := by omega
    have hsz := size_eq s
    simp only [hl, decide_false, Bool.false_eq_true, if_false]
    rw [Ev.bind_iff (valid_ev s h1)]
    cases hp : pathL (L s) with
    | none => simpa using long
    | some p =>
      have h2 := path_text hp
      have h4 := pathL_length hp
      simp only [Option.isSome_some, Bool.not_true]
      have hsizes : ∀ y ∈ Ss p, y.size ≤ 1048576 := fun y hy => by
        obtain ⟨z, hz, rfl⟩ := List.mem_map.1 hy
        have e := (pathL_length hp).2.2
        unfold dirL at e
        split at e
        · injection e with e
          have := splitL_length_le ((L s).drop 2) z (by rw [e]; exact hz)
          rw [List.length_drop] at this
          rw [size_S]
          omega
        · cases e
      refine Ev.succ ?_
      simp only [stockyardlaw02_PathBack.j0, Bool.false_eq_true, if_false]
      rw [Ev.bind_iff (split_path_ev s h1), hp]
      simp only [pathR]
      rw [Ev.bind_iff (path_join_ev (Ss p) (by rw [Ss_length]; omega) hsizes)]
      have hj : joinR (Ss p) = (S (textL p), 0) := by
        unfold joinR
        rw [if_pos ⟨by rw [Ss_length]; exact h2.2.2, by rw [Ss_all]; exact h2.2.1⟩, L_Ss]
      have hb : ((S (textL p)).toList != s.toList) = false := by
        rw [toList_eq, toList_eq, L_S, ← h2.1]
        simp
      simp only [hj, if_true, hb]
      refine Ev.succ ?_
      simp only [stockyardlaw02_PathBack.j1, Bool.false_eq_true, if_false]
      rw [Ev.bind_iff (parent_ev s h1), Ev.bind_iff (name_ev s h1), hp]
      obtain ⟨q, x, rfl, hq⟩ := snoc_of h2.2.2
      have hlast : (q ++ [x]).getLastD [] = x := by simp
      have hinit : (q ++ [x]).dropLast = q := by simp
      simp only [hlast, hinit]
      have hall : q.all compL = true ∧ compL x = true := by
        have := h2.2.1
        rw [List.all_append] at this
        simpa using this
      have e : L s = textL q ++ 47 :: x := by rw [h2.1, text_snoc q x hq]
      have hlen : (L s).length = (textL q).length + (x.length + 1) := by rw [e]; simp
      have hd : (S (textL q)).size ≤ 1048576 := by rw [size_S]; omega
      rw [Ev.bind_iff (path_under_ev (S (textL q)) s hd h1), L_S, text_dir hall.1 hq, hp]
      have hu : underL q (q ++ [x]) = true := by
        unfold underL
        rw [decide_eq_true_iff]
        exact ⟨by simp, by simp⟩
      simp only [underR, hu, if_true, append_S, L_S]
      have c1 : (S (textL q)).size + 1 ≤ 9223372036854775807 := by rw [size_S]; omega
      have c2 : (S (textL q ++ L (⟨#[47]⟩ : ByteArray))).size + (S x).size ≤ 9223372036854775807 := by
        rw [size_S, size_S, List.length_append, show (L (⟨#[47]⟩ : ByteArray)).length = 1 from rfl]
        omega
      have c3 : (S (textL q ++ L (⟨#[47]⟩ : ByteArray) ++ x)).toList = s.toList := by
        rw [toList_eq, toList_eq, L_S, e]
        simp [L]
      simp only [if_pos c1, if_pos c2, if_pos c3]
      rw [Ev.bind_iff (comp_ev (S x) (by rw [size_S]; omega)), L_S, hall.2]
      simp only [if_true]
      exact none_
end Go.Proofs.YtgbnjkfhkhkkfaaDoor.P

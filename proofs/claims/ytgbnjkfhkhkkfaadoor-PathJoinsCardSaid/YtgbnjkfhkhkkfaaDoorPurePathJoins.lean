/-
  The pure statement of PathJoins: Join gives the reference's path, or the error.
-/
import Derived.Test.YtgbnjkfhkhkkfaaDoorStPathJoins
import Derived.Test.YtgbnjkfhkhkkfaaDoorPath3
import Derived.Test.YtgbnjkfhkhkkfaaDoorPx2
import Derived.Test.YtgbnjkfhkhkkfaaDoorPx7
namespace Go.Proofs.YtgbnjkfhkhkkfaaDoor.P
open Go.RowKit Go.Proofs.YtgbnjkfhkhkkfaaDoorW.PrintWords Go.Proofs.YtgbnjkfhkhkkfaaDoor.Args
set_option linter.unusedVariables false
set_option linter.unusedSimpArgs false

theorem joins_loop (xs : List ByteArray) (h20 : xs.length ≤ 20) : ∀ (d i : Nat), i + d = xs.length → (∀ x ∈ xs.take i, x.size ≤ 400) →
    Ev (fun k => stockyardlaw02_PathJoins.l0 k xs (decide (2 ≤ xs.length) && (xs.take i).all (fun s => compL (L s))) xs (xs.length : Int) (i : Int)) true := by
  have none_ : Ev (fun k => (stockyardlaw02_awake.f k).bind fun t => some t) true := by rw [Ev.bind_some]; exact awake02
  intro d
  induction d with
  | zero =>
    intro i hi hx
    have e : xs.take i = xs := List.take_of_length_le (by omega)
    rw [e] at hx ⊢
    have hx' : ∀ x ∈ xs, x.size ≤ 1048576 := fun x h => by have := hx x h; omega
    refine Ev.succ ?_
    simp (disch := omega) only [stockyardlaw02_PathJoins.l0, if_neg, List.length_nil, if_pos, List.nil_append]
    rw [Ev.bind_iff (path_join_ev xs (by omega) hx'), Ev.bind_iff (same_ev xs xs (by omega) (by omega)), refjoin_eq xs (by omega) hx']
    simp only [decide_true, if_true, Option.bind_some]
    by_cases h : 2 ≤ xs.length ∧ xs.all (fun s => compL (L s)) = true
    · have h' : (decide (2 ≤ xs.length) && xs.all (fun s => compL (L s))) = true := by rw [h.2, decide_eq_true h.1]; rfl
      have hj : joinR xs = (S (textL (xs.map L)), 0) := by unfold joinR; rw [if_pos h]
      simp only [h', hj, if_true]
      exact none_
    · have h' : ¬ ((decide (2 ≤ xs.length) && xs.all (fun s => compL (L s))) = true) := by
        intro e
        rw [Bool.and_eq_true, decide_eq_true_eq] at e
        exact h e
      have hj : joinR xs = (S [], 21) := by unfold joinR; rw [if_neg h]
      simp only [h', hj, if_false, toList_eq, L_S, if_true]
      exact none_
  | succ d ih =>
    intro i hi hx
    have hlt : i < xs.length := by omega
    refine Ev.succ ?_
    simp (disch := omega) only [stockyardlaw02_PathJoins.l0, if_pos, wrap64_id]
    rw [rdOf_get _ _ (by omega) (by omega), long_eq]
    simp only [Int.toNat_natCast, Option.bind_some]
    by_cases hl : (xs[i].size : Int) > 400
    · simp only [hl, decide_true, if_true]
      exact none_
    · simp only [hl, decide_false, Bool.false_eq_true, if_false]
      have ht : xs.take (i + 1) = xs.take i ++ [xs[i]] := List.take_succ_eq_append_getElem hlt
      have h2 := ih (i + 1) (by omega) (fun x hm => by
        rw [ht] at hm
        rcases List.mem_append.1 hm with hm | hm
        · exact hx x hm
        · rw [List.mem_singleton.1 hm]; omega)
      rw [ht, List.all_append] at h2
      simp only [List.all_cons, List.all_nil, Bool.and_true] at h2
      cases hb : (decide (2 ≤ xs.length) && (xs.take i).all (fun s => compL (L s)))
      · rw [← Bool.and_assoc, hb, Bool.false_and] at h2
        simp only [Bool.false_eq_true, if_false]
        exact h2
      · rw [← Bool.and_assoc, hb, Bool.true_and] at h2
        simp only [if_true]
        rw [Ev.bind_iff (refcomp_ev _ (by omega))]
        exact h2
theorem Pure.PathJoins : St.PathJoins := by
  intro xs hw
  refine Ev.rounds ?_
  simp only [stockyardlaw02_PathJoins.f]
  by_cases hl : (xs.length : Int) > 20
  · simp only [hl, if_true]
    rw [Ev.bind_some]
    exact awake02
  · simp only [hl, if_false]
    have h := joins_loop xs (by omega) xs.length 0 (by omega) (by simp)
    have e : decide ((xs.length : Int) ≥ 2) = decide (2 ≤ xs.length) := by rw [decide_eq_decide]; omega
    rw [e]
    simpa using h
end Go.Proofs.YtgbnjkfhkhkkfaaDoor.P

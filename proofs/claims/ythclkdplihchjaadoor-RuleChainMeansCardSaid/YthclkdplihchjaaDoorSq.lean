/-
  Short names for steps that the printed walks take over and over (each a plain theorem; what it asks is found where it is used). No project text.
-/
import Derived.Test.YthclkdplihchjaaDoorWMore
namespace Go.Proofs.YthclkdplihchjaaDoor.P
open Go.RowKit Go.Proofs.YthclkdplihchjaaDoorW.PrintWords Go.Proofs.YthclkdplihchjaaDoorW.PrintLast Go.Proofs.YthclkdplihchjaaDoorW.PrintMore
set_option linter.unusedVariables false
variable {w W w0 w1 w2 : World} {g g' : Nat} {o : Obj}
/-- A variable's block, at the world ahead of a call, and behind it. -/
theorem bb_ (h : Aside0 (w0.heap[g]? = some o)) (hb : Below w1.heap.size w1 w2) (p : w1.heap[g]? = some o := by (repeat (first | (with_reducible first | refine blk_drewN ?_ _ | refine blk_drew ?_ | refine blk_alloc ?_ _) | refine blk_far ?_ (Aside0.out (by first | (with_reducible assumption) | assumption)) _)); exact Aside0.out (by first | (with_reducible assumption) | assumption)) : Aside0 (w2.heap[g]? = some o) := ⟨blk_below p hb⟩
theorem hs_ (h : Aside0 (Below w.heap.size w W)) (hb : Below w1.heap.size w1 w2) (p : Below w.heap.size w w1 := by repeat (first | (with_reducible first | exact HB.out | apply below_alloc | apply pw_below_drewN | apply below_drew1 | refine below_set ?_ (Aside0.out (by first | (with_reducible assumption) | assumption))) | exact HB.out)) : Aside0 (Below w.heap.size w w2) := ⟨below_step p hb⟩
theorem gw_ (h : Aside0 (Below w.heap.size w W)) (hg : g = w1.heap.size) (p : Below w.heap.size w w1 := by repeat (first | (with_reducible first | exact HB.out | apply below_alloc | apply pw_below_drewN | apply below_drew1 | refine below_set ?_ (Aside0.out (by first | (with_reducible assumption) | assumption))) | exact HB.out)) : Aside0 (w.heap.size ≤ g) := ⟨by rw [hg]; exact below_size p⟩
theorem nl_ (h : Aside0 (w0.heap[g]? = some o)) (hg : g' = w1.heap.size) (p : w1.heap[g]? = some o := by (repeat (first | (with_reducible first | refine blk_drewN ?_ _ | refine blk_drew ?_ | refine blk_alloc ?_ _) | refine blk_far ?_ (Aside0.out (by first | (with_reducible assumption) | assumption)) _)); exact Aside0.out (by first | (with_reducible assumption) | assumption)) : Aside0 (g ≠ g') := ⟨by rw [hg]; exact Nat.ne_of_lt (blk_lt p)⟩
theorem nr_ (h : Aside0 (w0.heap[g]? = some o)) (hg : g' = w1.heap.size) (p : w1.heap[g]? = some o := by (repeat (first | (with_reducible first | refine blk_drewN ?_ _ | refine blk_drew ?_ | refine blk_alloc ?_ _) | refine blk_far ?_ (Aside0.out (by first | (with_reducible assumption) | assumption)) _)); exact Aside0.out (by first | (with_reducible assumption) | assumption)) : Aside0 (g' ≠ g) := ⟨by rw [hg]; exact Nat.ne_of_gt (blk_lt p)⟩
/-- A row of the call's own, behind a call. -/
theorem rb_ {α : Type} {d : Kd α} {e base : Nat} {ok : Nat → Prop} {v : Value} {xs : List α} (h : Aside0 (d.R e w0 base ok v xs)) (hb : Below w1.heap.size w1 w2) (p : d.R e w1 base ok v xs := by (with_reducible repeat (first | apply Kd.R_alloc | apply Kd.R_drewN | apply Kd.R_drew)); exact Aside0.out (by first | (with_reducible assumption) | assumption)) : Aside0 (d.R e w2 base ok v xs) := ⟨Kd.R_below p hb⟩
/-- The cells of a variable. -/
theorem c2_ {t : TypeId} {a b : Value} (h : Aside0 (w.heap[g]? = some (.cells #[a, b] t (0, 0)))) : w.cell? ⟨g, 0, none⟩ = some a ∧ w.cell? ⟨g, 1, none⟩ = some b ∧ w.frozen? ⟨g, 0, none⟩ = false ∧ w.frozen? ⟨g, 1, none⟩ = false :=
  ⟨blk_cell h.out 0, blk_cell h.out 1, blk_frozen h.out 0, blk_frozen h.out 1⟩
theorem c5_ {t : TypeId} {a b c d e : Value} (h : Aside0 (w.heap[g]? = some (.cells #[a, b, c, d, e] t (0, 0)))) : w.cell? ⟨g, 0, none⟩ = some a ∧ w.cell? ⟨g, 1, none⟩ = some b ∧ w.cell? ⟨g, 2, none⟩ = some c ∧ w.cell? ⟨g, 3, none⟩ = some d ∧ w.cell? ⟨g, 4, none⟩ = some e ∧ w.frozen? ⟨g, 0, none⟩ = false ∧ w.frozen? ⟨g, 1, none⟩ = false ∧ w.frozen? ⟨g, 2, none⟩ = false ∧ w.frozen? ⟨g, 3, none⟩ = false ∧ w.frozen? ⟨g, 4, none⟩ = false :=
  ⟨blk_cell h.out 0, blk_cell h.out 1, blk_cell h.out 2, blk_cell h.out 3, blk_cell h.out 4, blk_frozen h.out 0, blk_frozen h.out 1, blk_frozen h.out 2, blk_frozen h.out 3, blk_frozen h.out 4⟩
/-- What is found where it is asked for. -/
theorem gl_ {Q : Prop} (p : Q := by (try simp only [List.map_toArray, List.map_cons, List.map_nil]); first | done | rfl | (simp only [List.length_drop, List.length_take]; rfl)) : Q := p
theorem hb_ {Q : Prop} (p : Q := by repeat (first | (with_reducible first | exact HB.out | apply below_alloc | apply pw_below_drewN | apply below_drew1 | refine below_set ?_ (Aside0.out (by first | (with_reducible assumption) | assumption))) | exact HB.out)) : Q := p
theorem bk_ {Q : Prop} (p : Q := by (with_reducible repeat (first | refine blk_drewN ?_ _ | refine blk_drew ?_ | refine blk_alloc ?_ _)); exact Aside0.out (by first | (with_reducible assumption) | assumption)) : Q := p
theorem bz_ {Q : Prop} (p : Q := by (repeat (first | (with_reducible first | refine blk_drewN ?_ _ | refine blk_drew ?_ | refine blk_alloc ?_ _) | (apply blk_far; rotate_left; exact Aside0.out (by first | (with_reducible assumption) | assumption); rotate_right) | apply blk_put)); exact Aside0.out (by first | (with_reducible assumption) | assumption); all_goals rfl) : Q := p
theorem rp_ {α : Type} {d : Kd α} {e base : Nat} {ok : Nat → Prop} {v : Value} {xs : List α} (h : Aside0 (d.R e w0 base ok v xs)) {W : World} (p : d.R e W base ok v xs := by (with_reducible repeat (first | apply Kd.R_alloc | apply Kd.R_drewN | apply Kd.R_drew)); exact Aside0.out (by first | (with_reducible assumption) | assumption)) : d.R e W base ok v xs := p
/-- A row that came in, at a later world. -/
theorem sd_ {Q : Prop} (p : Q := by repeat (first | exact Kd.C_below (Aside0.out (by first | (with_reducible assumption) | assumption)) HB.out | (with_reducible refine Kd.C_alloc ?_ _) | (with_reducible refine Kd.C_drewN ?_ _) | (with_reducible refine Kd.C_drew ?_))) : Q := p
/-- What a walk hands back. -/
theorem rt_ {Q : Prop} (p : Q := by first | rfl | (simp [errW_none, errW_some] <;> rfl) | (simp [*, errW_none, errW_some] <;> rfl)) : Q := p
theorem rn_ {Q : Prop} (p : Q := by first | exact Kd.R_nil _ _ _ _ _ | exact Kd.N_nil _ _ _ _ _ | exact Kd.V_nil _ _ _ _ _ | exact Kd.Q_nil _ _ _ _ _ | exact Kd.S_nil _ _ _ _ _) : Q := p
end Go.Proofs.YthclkdplihchjaaDoor.P

/-
  Short names for steps that the printed walks take over and over (each a plain theorem; what it asks is found where it is used). No project text.
-/
import Derived.Test.YthclkdplihchjaaDoorWMore
import Derived.Test.YthclkdplihchjaaDoorWTab
import Derived.KernelRfl
namespace Go.Proofs.YthclkdplihchjaaDoor.P
open Go.RowKit Go.Proofs.YthclkdplihchjaaDoorW.PrintWords Go.Proofs.YthclkdplihchjaaDoorW.PrintLast Go.Proofs.YthclkdplihchjaaDoorW.PrintMore
set_option linter.unusedVariables false
variable {w W w0 w1 w2 : World} {g g' : Nat} {o : Obj}
/-- A variable's block, at the world ahead of a call, and behind it. -/
theorem bb_ (h : Aside0 (w0.heap[g]? = some o)) (hb : Below w1.heap.size w1 w2) (p : w1.heap[g]? = some o := by (repeat (first | (with_reducible first | refine blk_drewN ?_ _ | refine blk_drew ?_ | refine blk_alloc ?_ _) | refine blk_far ?_ (Aside0.out (by first | (with_reducible assumption) | assumption)) _)); exact Aside0.out (by first | (with_reducible assumption) | assumption)) : Aside0 (w2.heap[g]? = some o) := ⟨blk_below p hb⟩
theorem hs_ (h : Aside0 (Below w.heap.size w W)) (hb : Below w1.heap.size w1 w2) (p : Below w.heap.size w w1 := by repeat (first | (with_reducible first | exact HB.out | apply below_alloc | apply pw_below_drewN | apply below_drew1 | refine below_set ?_ (Aside0.out (by first | (with_reducible assumption) | assumption))) | exact HB.out)) : Aside0 (Below w.heap.size w w2) := ⟨below_step p hb⟩
theorem gw_ (h : Aside0 (Below w.heap.size w W)) (hg : g = w1.heap.size) (p : Below w.heap.size w w1 := by repeat (first | (with_reducible first | exact HB.out | apply below_alloc | apply pw_below_drewN | apply below_drew1 | refine below_set ?_ (Aside0.out (by first | (with_reducible assumption) | assumption))) | exact HB.out)) : Aside0 (w.heap.size ≤ g) := ⟨by rw [hg]; exact below_size p⟩
theorem nl_ (h : Aside0 (w0.heap[g]? = some o)) (hg : g' = w1.heap.size) (p : w1.heap[g]? = some o := by (repeat (first | (with_reducible first | refine blk_drewN ?_ _ | refine blk_drew ?_ | refine blk_alloc ?_ _) | refine blk_far ?_ (Aside0.out (by first | (with_reducible assumption) | assumption)) _)); exact Aside0.out (by first | (with_reducible assumption) | assumption)) : Aside0 (g ≠ g') := ⟨by rw [hg]; exact Nat.ne_of_lt (blk_lt p)⟩
theorem nr_ (h : Aside0 (w0.heap[g]? = some o)) (hg : g' = w1.heap.size) (p : w1.heap[g]? = some o := by (repeat (first | (with_reducible first | refine blk_drewN ?_ _ | refine blk_drew ?_ | refine blk_alloc ?_ _) | refine blk_far ?_ (Aside0.out (by first | (with_reducible assumption) | assumption)) _)); exact Aside0.out (by first | (with_reducible assumption) | assumption)) : Aside0 (g' ≠ g) := ⟨by rw [hg]; exact Nat.ne_of_gt (blk_lt p)⟩
/-- A row of the call's own, behind a call. -/
theorem rb_ {α : Type} {d : Kd α} {e base : Nat} {ok : Nat → Prop} {v : Value} {xs : List α} (h : Aside0 (d.R e w0 base ok v xs)) (hb : Below w1.heap.size w1 w2) (p : d.R e w1 base ok v xs := by (with_reducible repeat (first | apply Kd.R_alloc | apply Kd.R_drewN | apply Kd.R_drew)); exact Aside0.out (by first | (with_reducible assumption) | assumption)) : Aside0 (d.R e w2 base ok v xs) := ⟨Kd.R_below p hb⟩
/-- The cells of a variable. -/
theorem c2_ {t : TypeId} {a b : Value} (h : Aside0 (w.heap[g]? = some (.cells #[a, b] t (0, 0)))) : w.cell? ⟨g, 0, none⟩ = some a ∧ w.cell? ⟨g, 1, none⟩ = some b ∧ w.frozen? ⟨g, 0, none⟩ = false ∧ w.frozen? ⟨g, 1, none⟩ = false :=
  ⟨blk_cell h.out 0, blk_cell h.out 1, blk_frozen h.out 0, blk_frozen h.out 1⟩
theorem c5_ {t : TypeId} {a b c d e : Value} (h : Aside0 (w.heap[g]? = some (.cells #[a, b, c, d, e] t (0, 0)))) : w.cell? ⟨g, 0, none⟩ = some a ∧ w.cell? ⟨g, 1, none⟩ = some b ∧ w.cell? ⟨g, 2, none⟩ = some c ∧ w.cell? ⟨g, 3, none⟩ = some d ∧ w.cell? ⟨g, 4, none⟩ = some e ∧ w.frozen? ⟨g, 0, none⟩ = false ∧ w.frozen? ⟨g, 1, none⟩ = false ∧ w.frozen? ⟨g, 2, none⟩ = false ∧ w.frozen? ⟨g, 3, none⟩ = false ∧ w.frozen? ⟨g, 4, none⟩ = false :=
  ⟨blk_cell h.out 0, blk_cell h.out 1, blk_cell h.out 2, blk_cell h.out 3, blk_cell h.out 4, blk_frozen h.out 0, blk_frozen h.out 1, blk_frozen h.out 2, blk_frozen h.out 3, blk_frozen h.out 4⟩
/-- What is found where it is asked for. -/
theorem gl_ {Q : Prop} (p : Q := by (try simp only [List.map_toArray, List.map_cons, List.map_nil]); first | done | rfl | (simp only [List.length_drop, List.length_take]; rfl)) : Q := p
theorem hb_ {Q : Prop} (p : Q := by repeat (first | (with_reducible first | exact HB.out | apply below_alloc | apply pw_below_drewN | apply below_drew1 | refine below_set ?_ (Aside0.out (by first | (with_reducible assumption) | assumption))) | exact HB.out)) : Q := p
theorem bk_ {Q : Prop} (p : Q := by (with_reducible repeat (first | refine blk_drewN ?_ _ | refine blk_drew ?_ | refine blk_alloc ?_ _)); exact Aside0.out (by first | (with_reducible assumption) | assumption)) : Q := p
theorem bz_ {Q : Prop} (p : Q := by (repeat (first | (with_reducible first | refine blk_drewN ?_ _ | refine blk_drew ?_ | refine blk_alloc ?_ _) | (apply blk_far; rotate_left; exact Aside0.out (by first | (with_reducible assumption) | assumption); rotate_right) | apply blk_put)); exact Aside0.out (by first | (with_reducible assumption) | assumption); all_goals rfl) : Q := p
theorem rp_ {α : Type} {d : Kd α} {e base : Nat} {ok : Nat → Prop} {v : Value} {xs : List α} (h : Aside0 (d.R e w0 base ok v xs)) {W : World} (p : d.R e W base ok v xs := by (with_reducible repeat (first | apply Kd.R_alloc | apply Kd.R_drewN | apply Kd.R_drew)); exact Aside0.out (by first | (with_reducible assumption) | assumption)) : d.R e W base ok v xs := p
/-- A row that came in, at a later world. -/
theorem sd_ {Q : Prop} (p : Q := by repeat (first | exact Kd.C_below (Aside0.out (by first | (with_reducible assumption) | assumption)) HB.out | (with_reducible refine Kd.C_alloc ?_ _) | (with_reducible refine Kd.C_drewN ?_ _) | (with_reducible refine Kd.C_drew ?_))) : Q := p
/-- What a walk hands back. -/
theorem rt_ {Q : Prop} (p : Q := by first | rfl | (simp [errW_none, errW_some] <;> rfl) | (simp [*, errW_none, errW_some] <;> rfl)) : Q := p
theorem rn_ {Q : Prop} (p : Q := by first | exact Kd.R_nil _ _ _ _ _ | exact Kd.N_nil _ _ _ _ _ | exact Kd.V_nil _ _ _ _ _ | exact Kd.Q_nil _ _ _ _ _ | exact Kd.S_nil _ _ _ _ _) : Q := p
theorem ip_ {c : Prop} {h : Decidable c} {α : Type} {t e r : α} (H : (if c then t else e) = r) (hc : c := by rfl) : t = r := by
  rw [if_pos hc] at H
  exact H
theorem in_ {c : Prop} {h : Decidable c} {α : Type} {t e r : α} (H : (if c then t else e) = r) (hc : ¬ c := by decide) : e = r := by
  rw [if_neg hc] at H
  exact H
theorem as_ {Q : Prop} (p : Q := by first | (with_reducible assumption) | assumption) : Q := p
theorem rs_ {Q : Prop} (p : Q := by first | rfl | (simp; done) | (simp [*]; done)) : Q := p
theorem om_ {Q : Prop} (p : Q := by first | omega | exact Nat.le_refl _) : Q := p
theorem dr_ {Q : Prop} (p : Q := by repeat (first | exact Drawn0.refl _ | apply Drawn0.step)) : Q := p
theorem nb_ {Q : Prop} (p : Q := by first | assumption | (rw [add_block]; assumption) | (show (Addr.add _ _).block ≠ _; rw [add_block]; assumption) | (dsimp only; assumption)) : Q := p
section
variable {P : Program} {ops : Array Oper} {Q : Exit → Act → World → Prop} {md : Region.Mode} {S : World → Prop} {ds : List Nat} {oi : Oper} {v : Value} {fuel : Nat} {l : Array Bool} {a a' : Act} {T : Bool × List (List Nat × List Nat)} {B : List Nat}
/-- An operation of a region that yields in every world. -/
theorem pu_ (i : Nat) (N : Option Tmp) (l' : Array Bool) (hT : Aside0 (rtab md ops = T)) (hi : ops[i]? = some oi) (hN : oi.dst = N) (h : wpAnyLast P md ops Q S ds fuel l' a' w)
    (hc : anyT T l.toList l'.toList i = true := by kernel_rfl) (hw : Region.wanted oi (yielded ops a.tmps) = true := by rfl) (hy : ∀ w, (execOp a.eval oi).run P w = .ok (.value v) w := by intro w'; go_simp; with_reducible rfl)
    (ha : a.put N v = a' := by simp only [Act.put, List.setIfInBounds_toArray, List.set_cons_zero, List.set_cons_succ, i64_w, i32_w]; rfl) (hQ : ∀ c a w, Q (.panic c) (a.put oi.dst v) w → Q (.panic c) a w := by exact fun _ _ _ h => h) : wpAnyLast P md ops Q S ds (fuel + 1) l a w :=
  pure_ l' hi hN (any_of hT.out hc) hQ (Or.inl ⟨hw, hy⟩) ha h
/-- An operation of a region that reads what is held. -/
theorem tk_ (i : Nat) (N : Option Tmp) (l' : Array Bool) (hT : Aside0 (rtab md ops = T)) (hB : Aside0 (waitsOk T.2 B = true)) (hi : ops[i]? = some oi) (hN : oi.dst = N) (hS : S w) (h : wpAnyLast P md ops Q S ds fuel l' a' w)
    (hc : takeW T B ds l.toList l'.toList i = true := by kernel_rfl) (hw : Region.wanted oi (yielded ops a.tmps) = true := by rfl) (hy : ∀ w, S w → (execOp a.eval oi).run P w = .ok (.value v) w := by intro w' hS_; (try dsimp only at hS_); (repeat (have h_ := hS_.1; replace hS_ := hS_.2)); go_simp; with_reducible rfl)
    (ha : a.put N v = a' := by simp only [Act.put, List.setIfInBounds_toArray, List.set_cons_zero, List.set_cons_succ, i64_w, i32_w]; rfl) (hQ : ∀ c a w, Q (.panic c) (a.put oi.dst v) w → Q (.panic c) a w := by exact fun _ _ _ h => h) : wpAnyLast P md ops Q S ds (fuel + 1) l a w :=
  take_ l' hi hN (take_ofW hT.out hB.out hc) hQ (Or.inl ⟨hw, hy⟩) hS ha h
end
end Go.Proofs.YthclkdplihchjaaDoor.P

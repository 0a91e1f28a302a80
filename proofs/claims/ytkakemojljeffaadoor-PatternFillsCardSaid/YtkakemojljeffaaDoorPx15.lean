-- Written by a program of this session (wip/gen.py) over the kit's print: each Go function as a plain Lean function, and the proof that the Go code comes to it. Nothing here is trusted: Lean checks it.
import Derived.Test.YtkakemojljeffaaDoorPx0
import Derived.Test.YtkakemojljeffaaDoorPx1
import Derived.Test.YtkakemojljeffaaDoorPx2
namespace Go.Proofs.YtkakemojljeffaaDoor.P
open Go.RowKit Go.Proofs.YtkakemojljeffaaDoorW.PrintWords Go.Proofs.YtkakemojljeffaaDoorW.PrintLast Go.Proofs.YtkakemojljeffaaDoorW.PrintMore
attribute [local go_sem] str_gtr str_leq str_geq max2_int min2_int max_two min_two max_three min_three max_four min_four   -- for this text's walks alone
set_option linter.unusedVariables false
set_option linter.unusedSimpArgs false

/-! ### pattern_Kinds: function 31 -/
def pattern_Kinds.l0 : Nat → Int → List ByteArray → Int → Int → List ByteArray → Bool → Option (Int × Bool × Int)
  | 0, _, _, _, _, _, _ => none
  | k + 1, x2, x16, x17, x18, x328000, x328001 => if x18 < x17 then (if 0 ≤ x18 then (if x18 < (x16.length : Int) then ((pattern_formOf.f k (rdOf ByteArray.empty x16 x18)).bind fun bt330 => (if bt330.1 = 2 then (pattern_Kinds.l0 k (wrap64 (x2 + 1)) x16 x17 (wrap64 (x18 + 1)) x328000 x328001) else (pattern_Kinds.l0 k x2 x16 x17 (wrap64 (x18 + 1)) x328000 x328001))) else (none)) else (none)) else (some (x2, x328001, 0))
def pattern_Kinds.f (k : Nat) (l0_0 : List ByteArray) (a0_1 : Bool) : Option (Int × Bool × Int) := (pattern_Check.f k l0_0 a0_1).bind fun t328 => (if t328 = 0 then (pattern_Kinds.l0 k 0 l0_0 (l0_0.length : Int) 0 l0_0 a0_1) else (some (0, false, t328)))
theorem pattern_Kinds.mono_l : ∀ k, (∀ y0 y1 y2 y3 y4 y5, LeO (pattern_Kinds.l0 k y0 y1 y2 y3 y4 y5) (pattern_Kinds.l0 (k + 1) y0 y1 y2 y3 y4 y5))
  | 0 => fun _ _ _ _ _ _ r h => by simp [pattern_Kinds.l0] at h
  | k + 1 => by
    have ih0 := pattern_Kinds.mono_l k
    · intro y0 y1 y2 y3 y4 y5
      unfold pattern_Kinds.l0
      repeat' first
      | (with_reducible exact ih0 _ _ _ _ _ _)
      | (with_reducible exact pattern_Check.mono _ _ _)
      | (with_reducible exact pattern_formOf.mono _ _)
      | (with_reducible exact LeO.refl _)
      | (with_reducible exact LeO.none _)
      | (with_reducible refine LeO.ite ?_ ?_)
      | (with_reducible refine LeO.bind ?_ (fun _ => ?_))
      | exact ih0 _ _ _ _ _ _
      | exact pattern_Check.mono _ _ _
      | exact pattern_formOf.mono _ _
      | exact LeO.none _
      | refine LeO.ite ?_ ?_
      | refine LeO.bind ?_ (fun _ => ?_)
theorem pattern_Kinds.mono : ∀ a0 a1 k, LeO (pattern_Kinds.f k a0 a1) (pattern_Kinds.f (k + 1) a0 a1) := by
  intro a0 a1 k
  have ih0 := pattern_Kinds.mono_l k
  unfold pattern_Kinds.f
  repeat' first
      | (with_reducible exact ih0 _ _ _ _ _ _)
      | (with_reducible exact pattern_Check.mono _ _ _)
      | (with_reducible exact pattern_formOf.mono _ _)
      | (with_reducible exact LeO.refl _)
      | (with_reducible exact LeO.none _)
      | (with_reducible refine LeO.ite ?_ ?_)
      | (with_reducible refine LeO.bind ?_ (fun _ => ?_))
      | exact ih0 _ _ _ _ _ _
      | exact pattern_Check.mono _ _ _
      | exact pattern_formOf.mono _ _
      | exact LeO.none _
      | refine LeO.ite ?_ ?_
      | refine LeO.bind ?_ (fun _ => ?_)
set_option maxHeartbeats 8000000 in
set_option maxRecDepth 100000 in
theorem pattern_Kinds.calls (k : Nat) (A0_0 : Option Addr) (c0_0 : Nat) (l0_0 : List ByteArray) (a0_1 : Bool) (r1 : Int) (r2 : Bool) (r3 : Int) (w : World) (hr0_0 : Kd.C Kd.string w A0_0 l0_0.length l0_0) (hc0_0 : l0_0.length ≤ c0_0) (h : pattern_Kinds.f k l0_0 a0_1 = some (r1, r2, r3)) :
    Calls Tryd.prog 31 #[.agg #[.slice A0_0 l0_0.length c0_0, .bool a0_1]] w fun e w' => e = .returned (.tuple #[.int .i64 r1, .bool r2, .int .i64 r3]) ∧ Below w.heap.size w w' := by
  have hu25 := Tryd.underlying25
  have HR0_0 := Aside0.mk hr0_0
  have HC0_0 := Aside0.mk hc0_0
  clear hr0_0 hc0_0
  have HB := Aside0.mk (Below.refl w.heap.size w)
  have H : ((pattern_Check.f k l0_0 a0_1).bind fun t328 => (if t328 = 0 then (pattern_Kinds.l0 k 0 l0_0 (l0_0.length : Int) 0 l0_0 a0_1) else (some (0, false, t328)))) = some (r1, r2, r3) := h
  clear h
  replace H := Option.bind_eq_some_iff.mp H
  obtain ⟨t328, A20, H⟩ := H
  replace H : (if t328 = 0 then (pattern_Kinds.l0 k 0 l0_0 (l0_0.length : Int) 0 l0_0 a0_1) else (some (0, false, t328))) = some (r1, r2, r3) := H
  have A2 := Aside0.mk A20
  clear A20
  by_cases c3 : t328 = 0
  · rw [if_pos c3] at H
    have c3b0 : (t328 == 0) = true := beq_iff_eq.mpr c3
    have c3b1 : (t328 != 0) = false := bne_eq_false_iff_eq.mpr c3
    clear c3
    have H' := Aside0.mk H
    clear H
    go_enter Tryd.func31, Tryd.ntmps31
    go_wp2_with (first | ((with_reducible refine gate_dst (N := 1) rfl ?_); refine box_event ?hg (N := 1) ?hd (cs := #[.slice A0_0 l0_0.length c0_0, .bool a0_1]) (t := 25) ?hr ?_; (case hd => rfl); (case hg => rfl); (case hr => first | (go_simp; done) | (go_simp; rfl)); intro gb327 hg w4 hbox hb; have n0_ := Aside0.mk (below_step (by repeat (first | (with_reducible first | exact HB.out | apply below_alloc | apply pw_below_drewN | apply below_drew1) | exact HB.out)) hb); have n1_ := Aside0.mk (hbox); have n2_ := Aside0.mk ((by rw [hg]; exact (below_size (by repeat (first | (with_reducible first | exact HB.out | apply below_alloc | apply pw_below_drewN | apply below_drew1) | exact HB.out))) : w.heap.size ≤ gb327)); have n3_ := Aside0.mk ((by rw [hg]; exact (below_size (by repeat (first | (with_reducible first | exact HB.out | apply below_alloc | apply pw_below_drewN | apply below_drew1) | exact HB.out))) : w.heap.size ≤ gb327)); clear HB; have HB := n0_; have BK327 := n1_; have GW327 := n2_; have GE327 := n3_; clear n0_ n1_ n2_ n3_; clear hb hbox hg; have hcz5_0 : w4.cell? ⟨gb327, 0, none⟩ = some (.slice A0_0 l0_0.length c0_0) := (blk_cell BK327.out 0).trans rfl; have hcz5_1 : w4.cell? ⟨gb327, 1, none⟩ = some (.bool a0_1) := (blk_cell BK327.out 1).trans rfl; have hfz5_0 := blk_frozen BK327.out 0; have hfz5_1 := blk_frozen BK327.out 1) | (go_at_call 29; (with_reducible refine (pattern_Check.calls k _ _ l0_0 a0_1 t328 _ ?side1 ?side2 A2.out).mono ?_); (case side1 => repeat (first | exact (Kd.C_below HR0_0.out HB.out) | (with_reducible refine Kd.C_alloc ?_ _) | (with_reducible refine Kd.C_drewN ?_ _) | (with_reducible refine Kd.C_drew ?_))); (case side2 => exact HC0_0.out); rintro e w6 ⟨rfl, hb⟩; have n0_ := Aside0.mk (blk_below (g := gb327) (o := .cells #[.slice A0_0 l0_0.length c0_0, .bool a0_1] 25 (0, 0)) (by (with_reducible repeat (first | refine blk_drewN ?_ _ | refine blk_drew ?_ | refine blk_alloc ?_ _)); exact BK327.out) hb); have n1_ := Aside0.mk (below_step (by repeat (first | (with_reducible first | exact HB.out | apply below_alloc | apply pw_below_drewN | apply below_drew1 | refine below_set ?_ GE327.out) | exact HB.out)) hb); clear BK327; clear HB; have BK327 := n0_; have HB := n1_; clear n0_ n1_; (try clear hb); (try clear hb2); (try clear hk); (try clear hi); have hcz7_0 : w6.cell? ⟨gb327, 0, none⟩ = some (.slice A0_0 l0_0.length c0_0) := (blk_cell BK327.out 0).trans rfl; have hcz7_1 : w6.cell? ⟨gb327, 1, none⟩ = some (.bool a0_1) := (blk_cell BK327.out 1).trans rfl; have hfz7_0 := blk_frozen BK327.out 0; have hfz7_1 := blk_frozen BK327.out 1))
    repeat (go_quiet (first | ((with_reducible refine gate_dst (N := 1) rfl ?_); refine box_event ?hg (N := 1) ?hd (cs := #[.slice A0_0 l0_0.length c0_0, .bool a0_1]) (t := 25) ?hr ?_; (case hd => rfl); (case hg => rfl); (case hr => first | (go_simp; done) | (go_simp; rfl)); intro gb327 hg w4 hbox hb; have n0_ := Aside0.mk (below_step (by repeat (first | (with_reducible first | exact HB.out | apply below_alloc | apply pw_below_drewN | apply below_drew1) | exact HB.out)) hb); have n1_ := Aside0.mk (hbox); have n2_ := Aside0.mk ((by rw [hg]; exact (below_size (by repeat (first | (with_reducible first | exact HB.out | apply below_alloc | apply pw_below_drewN | apply below_drew1) | exact HB.out))) : w.heap.size ≤ gb327)); have n3_ := Aside0.mk ((by rw [hg]; exact (below_size (by repeat (first | (with_reducible first | exact HB.out | apply below_alloc | apply pw_below_drewN | apply below_drew1) | exact HB.out))) : w.heap.size ≤ gb327)); clear HB; have HB := n0_; have BK327 := n1_; have GW327 := n2_; have GE327 := n3_; clear n0_ n1_ n2_ n3_; clear hb hbox hg; have hcz5_0 : w4.cell? ⟨gb327, 0, none⟩ = some (.slice A0_0 l0_0.length c0_0) := (blk_cell BK327.out 0).trans rfl; have hcz5_1 : w4.cell? ⟨gb327, 1, none⟩ = some (.bool a0_1) := (blk_cell BK327.out 1).trans rfl; have hfz5_0 := blk_frozen BK327.out 0; have hfz5_1 := blk_frozen BK327.out 1) | (go_at_call 29; (with_reducible refine (pattern_Check.calls k _ _ l0_0 a0_1 t328 _ ?side1 ?side2 A2.out).mono ?_); (case side1 => repeat (first | exact (Kd.C_below HR0_0.out HB.out) | (with_reducible refine Kd.C_alloc ?_ _) | (with_reducible refine Kd.C_drewN ?_ _) | (with_reducible refine Kd.C_drew ?_))); (case side2 => exact HC0_0.out); rintro e w6 ⟨rfl, hb⟩; have n0_ := Aside0.mk (blk_below (g := gb327) (o := .cells #[.slice A0_0 l0_0.length c0_0, .bool a0_1] 25 (0, 0)) (by (with_reducible repeat (first | refine blk_drewN ?_ _ | refine blk_drew ?_ | refine blk_alloc ?_ _)); exact BK327.out) hb); have n1_ := Aside0.mk (below_step (by repeat (first | (with_reducible first | exact HB.out | apply below_alloc | apply pw_below_drewN | apply below_drew1 | refine below_set ?_ GE327.out) | exact HB.out)) hb); clear BK327; clear HB; have BK327 := n0_; have HB := n1_; clear n0_ n1_; (try clear hb); (try clear hb2); (try clear hk); (try clear hi); have hcz7_0 : w6.cell? ⟨gb327, 0, none⟩ = some (.slice A0_0 l0_0.length c0_0) := (blk_cell BK327.out 0).trans rfl; have hcz7_1 : w6.cell? ⟨gb327, 1, none⟩ = some (.bool a0_1) := (blk_cell BK327.out 1).trans rfl; have hfz7_0 := blk_frozen BK327.out 0; have hfz7_1 := blk_frozen BK327.out 1)); try go_wp2_with (first | ((with_reducible refine gate_dst (N := 1) rfl ?_); refine box_event ?hg (N := 1) ?hd (cs := #[.slice A0_0 l0_0.length c0_0, .bool a0_1]) (t := 25) ?hr ?_; (case hd => rfl); (case hg => rfl); (case hr => first | (go_simp; done) | (go_simp; rfl)); intro gb327 hg w4 hbox hb; have n0_ := Aside0.mk (below_step (by repeat (first | (with_reducible first | exact HB.out | apply below_alloc | apply pw_below_drewN | apply below_drew1) | exact HB.out)) hb); have n1_ := Aside0.mk (hbox); have n2_ := Aside0.mk ((by rw [hg]; exact (below_size (by repeat (first | (with_reducible first | exact HB.out | apply below_alloc | apply pw_below_drewN | apply below_drew1) | exact HB.out))) : w.heap.size ≤ gb327)); have n3_ := Aside0.mk ((by rw [hg]; exact (below_size (by repeat (first | (with_reducible first | exact HB.out | apply below_alloc | apply pw_below_drewN | apply below_drew1) | exact HB.out))) : w.heap.size ≤ gb327)); clear HB; have HB := n0_; have BK327 := n1_; have GW327 := n2_; have GE327 := n3_; clear n0_ n1_ n2_ n3_; clear hb hbox hg; have hcz5_0 : w4.cell? ⟨gb327, 0, none⟩ = some (.slice A0_0 l0_0.length c0_0) := (blk_cell BK327.out 0).trans rfl; have hcz5_1 : w4.cell? ⟨gb327, 1, none⟩ = some (.bool a0_1) := (blk_cell BK327.out 1).trans rfl; have hfz5_0 := blk_frozen BK327.out 0; have hfz5_1 := blk_frozen BK327.out 1) | (go_at_call 29; (with_reducible refine (pattern_Check.calls k _ _ l0_0 a0_1 t328 _ ?side1 ?side2 A2.out).mono ?_); (case side1 => repeat (first | exact (Kd.C_below HR0_0.out HB.out) | (with_reducible refine Kd.C_alloc ?_ _) | (with_reducible refine Kd.C_drewN ?_ _) | (with_reducible refine Kd.C_drew ?_))); (case side2 => exact HC0_0.out); rintro e w6 ⟨rfl, hb⟩; have n0_ := Aside0.mk (blk_below (g := gb327) (o := .cells #[.slice A0_0 l0_0.length c0_0, .bool a0_1] 25 (0, 0)) (by (with_reducible repeat (first | refine blk_drewN ?_ _ | refine blk_drew ?_ | refine blk_alloc ?_ _)); exact BK327.out) hb); have n1_ := Aside0.mk (below_step (by repeat (first | (with_reducible first | exact HB.out | apply below_alloc | apply pw_below_drewN | apply below_drew1 | refine below_set ?_ GE327.out) | exact HB.out)) hb); clear BK327; clear HB; have BK327 := n0_; have HB := n1_; clear n0_ n1_; (try clear hb); (try clear hb2); (try clear hk); (try clear hi); have hcz7_0 : w6.cell? ⟨gb327, 0, none⟩ = some (.slice A0_0 l0_0.length c0_0) := (blk_cell BK327.out 0).trans rfl; have hcz7_1 : w6.cell? ⟨gb327, 1, none⟩ = some (.bool a0_1) := (blk_cell BK327.out 1).trans rfl; have hfz7_0 := blk_frozen BK327.out 0; have hfz7_1 := blk_frozen BK327.out 1)))
    go_loopg [2, 18] k (fun kq v2 v18 w' => ∃ (x2_1 : Int) (x18_1 : Int), v2 = .int .i64 x2_1 ∧ v18 = .int .i64 x18_1 ∧ Aside0 (pattern_Kinds.l0 kq x2_1 l0_0 (l0_0.length : Int) x18_1 l0_0 a0_1 = some (r1, r2, r3)) ∧ Aside0 (kq ≤ k) ∧ Aside0 (w'.heap[gb327]? = some (.cells #[(.slice A0_0 l0_0.length c0_0), .bool a0_1] 25 (0, 0))) ∧ Aside0 (Below w.heap.size w w'))
    case atStart => exact ⟨(0), (0), (by first | rfl | (simp; done) | (simp [*]; done)), (by first | rfl | (simp; done) | (simp [*]; done)), H', ⟨Nat.le_refl _⟩, ⟨by (with_reducible repeat (first | refine blk_drewN ?_ _ | refine blk_drew ?_ | refine blk_alloc ?_ _)); exact BK327.out⟩, ⟨by repeat (first | (with_reducible first | exact HB.out | apply below_alloc | apply pw_below_drewN | apply below_drew1 | refine below_set ?_ GE327.out) | exact HB.out)⟩⟩
    case round =>
      clear H'
      try clear p2
      try clear c3
      try clear c3b0
      try clear c3b1
      try clear hcz5_0
      try clear hcz5_1
      try clear hcz7_0
      try clear hcz7_1
      try clear hfz5_0
      try clear hfz5_1
      try clear hfz7_0
      try clear hfz7_1
      obtain ⟨x2_1, x18_1, rfl, rfl, HA, HK1, BK327, HB⟩ := hrel
      cases gk with
      | zero => exact absurd HA.out (by simp [pattern_Kinds.l0])
      | succ k1 =>
        have H := HA.out
        clear HA
        simp only [pattern_Kinds.l0] at H
        by_cases c8 : x18_1 < (l0_0.length : Int)
        · rw [if_pos c8] at H
          have c8b0 : decide (x18_1 < (l0_0.length : Int)) = true := decide_eq_true c8
          clear c8
          by_cases c9 : 0 ≤ x18_1
          · rw [if_pos c9] at H
            have c9b0 : decide (0 ≤ x18_1) = true := decide_eq_true c9
            clear c9
            by_cases c10 : x18_1 < (l0_0.length : Int)
            · rw [if_pos c10] at H
              have c10b0 : decide (x18_1 < (l0_0.length : Int)) = true := decide_eq_true c10
              clear c10
              replace H := Option.bind_eq_some_iff.mp H
              obtain ⟨⟨t330, t331⟩, A110, H⟩ := H
              replace H : (if t330 = 2 then (pattern_Kinds.l0 k1 (wrap64 (x2_1 + 1)) l0_0 (l0_0.length : Int) (wrap64 (x18_1 + 1)) l0_0 a0_1) else (pattern_Kinds.l0 k1 x2_1 l0_0 (l0_0.length : Int) (wrap64 (x18_1 + 1)) l0_0 a0_1)) = some (r1, r2, r3) := H
              have A11 := Aside0.mk A110
              clear A110
              by_cases c12 : t330 = 2
              · rw [if_pos c12] at H
                have c12b0 : (t330 == 2) = true := beq_iff_eq.mpr c12
                have c12b1 : (t330 != 2) = false := bne_eq_false_iff_eq.mpr c12
                clear c12
                have H' := Aside0.mk H
                clear H
                have p329 : 0 ≤ (x18_1 : Int) := of_decide_eq_true (by first | (with_reducible assumption) | assumption)
                have q329 : x18_1 < (l0_0.length : Int) := of_decide_eq_true (by first | (with_reducible assumption) | assumption)
                obtain ⟨ad329, e329, hx329_0⟩ := Kd.at_string HR0_0.out x18_1 p329 q329
                cases e329
                replace hx329_0 := (HB.out.cell (World.block_lt_of_cell? w _ hx329_0)).trans hx329_0
                replace p329 := eq_true p329
                replace q329 := eq_true q329
                go_wp2_with (first | (go_at_call 50; (with_reducible refine (pattern_formOf.calls k1 (rdOf ByteArray.empty l0_0 x18_1) t330 t331 _ A11.out).mono ?_); rintro e w' ⟨rfl, ⟨nd, rfl⟩⟩; (try first | exact ⟨rfl, _, World.drewN_drewN _ _ _⟩ | exact ⟨rfl, _, Eq.trans (World.drewN_drewN _ _ _) (congrArg (World.drewN _) (Nat.add_assoc _ _ _))⟩)))
                repeat (go_quiet (first | (go_at_call 50; (with_reducible refine (pattern_formOf.calls k1 (rdOf ByteArray.empty l0_0 x18_1) t330 t331 _ A11.out).mono ?_); rintro e w' ⟨rfl, ⟨nd, rfl⟩⟩; (try first | exact ⟨rfl, _, World.drewN_drewN _ _ _⟩ | exact ⟨rfl, _, Eq.trans (World.drewN_drewN _ _ _) (congrArg (World.drewN _) (Nat.add_assoc _ _ _))⟩))); try go_wp2_with (first | (go_at_call 50; (with_reducible refine (pattern_formOf.calls k1 (rdOf ByteArray.empty l0_0 x18_1) t330 t331 _ A11.out).mono ?_); rintro e w' ⟨rfl, ⟨nd, rfl⟩⟩; (try first | exact ⟨rfl, _, World.drewN_drewN _ _ _⟩ | exact ⟨rfl, _, Eq.trans (World.drewN_drewN _ _ _) (congrArg (World.drewN _) (Nat.add_assoc _ _ _))⟩))))
                go_roundg k1
                case measure => have := HK1.out; omega
                case rel => exact ⟨(wrap64 (x2_1 + 1)), (wrap64 (x18_1 + 1)), (by first | rfl | (simp; done) | (simp [*]; done)), (by first | rfl | (simp; done) | (simp [*]; done)), H', ⟨by have := HK1.out; omega⟩, ⟨by (with_reducible repeat (first | refine blk_drewN ?_ _ | refine blk_drew ?_ | refine blk_alloc ?_ _)); exact BK327.out⟩, ⟨by repeat (first | (with_reducible first | exact HB.out | apply below_alloc | apply pw_below_drewN | apply below_drew1 | refine below_set ?_ GE327.out) | exact HB.out)⟩⟩
              · rw [if_neg c12] at H
                have c12b0 : (t330 == 2) = false := beq_eq_false_iff_ne.mpr c12
                have c12b1 : (t330 != 2) = true := bne_iff_ne.mpr c12
                have H' := Aside0.mk H
                clear H
                have p329 : 0 ≤ (x18_1 : Int) := of_decide_eq_true (by first | (with_reducible assumption) | assumption)
                have q329 : x18_1 < (l0_0.length : Int) := of_decide_eq_true (by first | (with_reducible assumption) | assumption)
                obtain ⟨ad329, e329, hx329_0⟩ := Kd.at_string HR0_0.out x18_1 p329 q329
                cases e329
                replace hx329_0 := (HB.out.cell (World.block_lt_of_cell? w _ hx329_0)).trans hx329_0
                replace p329 := eq_true p329
                replace q329 := eq_true q329
                go_wp2_with (first | (go_at_call 50; (with_reducible refine (pattern_formOf.calls k1 (rdOf ByteArray.empty l0_0 x18_1) t330 t331 _ A11.out).mono ?_); rintro e w' ⟨rfl, ⟨nd, rfl⟩⟩; (try first | exact ⟨rfl, _, World.drewN_drewN _ _ _⟩ | exact ⟨rfl, _, Eq.trans (World.drewN_drewN _ _ _) (congrArg (World.drewN _) (Nat.add_assoc _ _ _))⟩)))
                repeat (go_quiet (first | (go_at_call 50; (with_reducible refine (pattern_formOf.calls k1 (rdOf ByteArray.empty l0_0 x18_1) t330 t331 _ A11.out).mono ?_); rintro e w' ⟨rfl, ⟨nd, rfl⟩⟩; (try first | exact ⟨rfl, _, World.drewN_drewN _ _ _⟩ | exact ⟨rfl, _, Eq.trans (World.drewN_drewN _ _ _) (congrArg (World.drewN _) (Nat.add_assoc _ _ _))⟩))); try go_wp2_with (first | (go_at_call 50; (with_reducible refine (pattern_formOf.calls k1 (rdOf ByteArray.empty l0_0 x18_1) t330 t331 _ A11.out).mono ?_); rintro e w' ⟨rfl, ⟨nd, rfl⟩⟩; (try first | exact ⟨rfl, _, World.drewN_drewN _ _ _⟩ | exact ⟨rfl, _, Eq.trans (World.drewN_drewN _ _ _) (congrArg (World.drewN _) (Nat.add_assoc _ _ _))⟩))))
                go_roundg k1
                case measure => have := HK1.out; omega
                case rel => exact ⟨(x2_1), (wrap64 (x18_1 + 1)), (by first | rfl | (simp; done) | (simp [*]; done)), (by first | rfl | (simp; done) | (simp [*]; done)), H', ⟨by have := HK1.out; omega⟩, ⟨by (with_reducible repeat (first | refine blk_drewN ?_ _ | refine blk_drew ?_ | refine blk_alloc ?_ _)); exact BK327.out⟩, ⟨by repeat (first | (with_reducible first | exact HB.out | apply below_alloc | apply pw_below_drewN | apply below_drew1 | refine below_set ?_ GE327.out) | exact HB.out)⟩⟩
            · rw [if_neg c10] at H
              exact absurd H (by simp)
          · rw [if_neg c9] at H
            exact absurd H (by simp)
        · rw [if_neg c8] at H
          have c8b0 : decide (x18_1 < (l0_0.length : Int)) = false := decide_eq_false c8
          clear c8
          simp only [Option.some.injEq, Prod.mk.injEq] at H
          obtain ⟨rfl, rfl, rfl⟩ := H
          have hcz13_0 : wr.cell? ⟨gb327, 0, none⟩ = some (.slice A0_0 l0_0.length c0_0) := (blk_cell BK327.out 0).trans rfl
          have hcz13_1 : wr.cell? ⟨gb327, 1, none⟩ = some (.bool a0_1) := (blk_cell BK327.out 1).trans rfl
          have hfz13_0 := blk_frozen BK327.out 0
          have hfz13_1 := blk_frozen BK327.out 1
          go_wp2
          repeat (go_quiet (fail); try go_wp2)
          go_ret3
          exact ⟨by first | rfl | (simp [errW_none, errW_some] <;> rfl) | (simp [*, errW_none, errW_some] <;> rfl), by repeat (first | (with_reducible first | exact HB.out | apply below_alloc | apply pw_below_drewN | apply below_drew1 | refine below_set ?_ GE327.out) | exact HB.out)⟩
  · rw [if_neg c3] at H
    have c3b0 : (t328 == 0) = false := beq_eq_false_iff_ne.mpr c3
    have c3b1 : (t328 != 0) = true := bne_iff_ne.mpr c3
    simp only [Option.some.injEq, Prod.mk.injEq] at H
    obtain ⟨rfl, rfl, rfl⟩ := H
    go_enter Tryd.func31, Tryd.ntmps31
    go_wp2_with (first | ((with_reducible refine gate_dst (N := 1) rfl ?_); refine box_event ?hg (N := 1) ?hd (cs := #[.slice A0_0 l0_0.length c0_0, .bool a0_1]) (t := 25) ?hr ?_; (case hd => rfl); (case hg => rfl); (case hr => first | (go_simp; done) | (go_simp; rfl)); intro gb327 hg w14 hbox hb; have n0_ := Aside0.mk (below_step (by repeat (first | (with_reducible first | exact HB.out | apply below_alloc | apply pw_below_drewN | apply below_drew1) | exact HB.out)) hb); have n1_ := Aside0.mk (hbox); have n2_ := Aside0.mk ((by rw [hg]; exact (below_size (by repeat (first | (with_reducible first | exact HB.out | apply below_alloc | apply pw_below_drewN | apply below_drew1) | exact HB.out))) : w.heap.size ≤ gb327)); have n3_ := Aside0.mk ((by rw [hg]; exact (below_size (by repeat (first | (with_reducible first | exact HB.out | apply below_alloc | apply pw_below_drewN | apply below_drew1) | exact HB.out))) : w.heap.size ≤ gb327)); clear HB; have HB := n0_; have BK327 := n1_; have GW327 := n2_; have GE327 := n3_; clear n0_ n1_ n2_ n3_; clear hb hbox hg; have hcz15_0 : w14.cell? ⟨gb327, 0, none⟩ = some (.slice A0_0 l0_0.length c0_0) := (blk_cell BK327.out 0).trans rfl; have hcz15_1 : w14.cell? ⟨gb327, 1, none⟩ = some (.bool a0_1) := (blk_cell BK327.out 1).trans rfl; have hfz15_0 := blk_frozen BK327.out 0; have hfz15_1 := blk_frozen BK327.out 1) | (go_at_call 29; (with_reducible refine (pattern_Check.calls k _ _ l0_0 a0_1 t328 _ ?side1 ?side2 A2.out).mono ?_); (case side1 => repeat (first | exact (Kd.C_below HR0_0.out HB.out) | (with_reducible refine Kd.C_alloc ?_ _) | (with_reducible refine Kd.C_drewN ?_ _) | (with_reducible refine Kd.C_drew ?_))); (case side2 => exact HC0_0.out); rintro e w16 ⟨rfl, hb⟩; have n0_ := Aside0.mk (blk_below (g := gb327) (o := .cells #[.slice A0_0 l0_0.length c0_0, .bool a0_1] 25 (0, 0)) (by (with_reducible repeat (first | refine blk_drewN ?_ _ | refine blk_drew ?_ | refine blk_alloc ?_ _)); exact BK327.out) hb); have n1_ := Aside0.mk (below_step (by repeat (first | (with_reducible first | exact HB.out | apply below_alloc | apply pw_below_drewN | apply below_drew1 | refine below_set ?_ GE327.out) | exact HB.out)) hb); clear BK327; clear HB; have BK327 := n0_; have HB := n1_; clear n0_ n1_; (try clear hb); (try clear hb2); (try clear hk); (try clear hi)))
    repeat (go_quiet (first | ((with_reducible refine gate_dst (N := 1) rfl ?_); refine box_event ?hg (N := 1) ?hd (cs := #[.slice A0_0 l0_0.length c0_0, .bool a0_1]) (t := 25) ?hr ?_; (case hd => rfl); (case hg => rfl); (case hr => first | (go_simp; done) | (go_simp; rfl)); intro gb327 hg w14 hbox hb; have n0_ := Aside0.mk (below_step (by repeat (first | (with_reducible first | exact HB.out | apply below_alloc | apply pw_below_drewN | apply below_drew1) | exact HB.out)) hb); have n1_ := Aside0.mk (hbox); have n2_ := Aside0.mk ((by rw [hg]; exact (below_size (by repeat (first | (with_reducible first | exact HB.out | apply below_alloc | apply pw_below_drewN | apply below_drew1) | exact HB.out))) : w.heap.size ≤ gb327)); have n3_ := Aside0.mk ((by rw [hg]; exact (below_size (by repeat (first | (with_reducible first | exact HB.out | apply below_alloc | apply pw_below_drewN | apply below_drew1) | exact HB.out))) : w.heap.size ≤ gb327)); clear HB; have HB := n0_; have BK327 := n1_; have GW327 := n2_; have GE327 := n3_; clear n0_ n1_ n2_ n3_; clear hb hbox hg; have hcz15_0 : w14.cell? ⟨gb327, 0, none⟩ = some (.slice A0_0 l0_0.length c0_0) := (blk_cell BK327.out 0).trans rfl; have hcz15_1 : w14.cell? ⟨gb327, 1, none⟩ = some (.bool a0_1) := (blk_cell BK327.out 1).trans rfl; have hfz15_0 := blk_frozen BK327.out 0; have hfz15_1 := blk_frozen BK327.out 1) | (go_at_call 29; (with_reducible refine (pattern_Check.calls k _ _ l0_0 a0_1 t328 _ ?side1 ?side2 A2.out).mono ?_); (case side1 => repeat (first | exact (Kd.C_below HR0_0.out HB.out) | (with_reducible refine Kd.C_alloc ?_ _) | (with_reducible refine Kd.C_drewN ?_ _) | (with_reducible refine Kd.C_drew ?_))); (case side2 => exact HC0_0.out); rintro e w16 ⟨rfl, hb⟩; have n0_ := Aside0.mk (blk_below (g := gb327) (o := .cells #[.slice A0_0 l0_0.length c0_0, .bool a0_1] 25 (0, 0)) (by (with_reducible repeat (first | refine blk_drewN ?_ _ | refine blk_drew ?_ | refine blk_alloc ?_ _)); exact BK327.out) hb); have n1_ := Aside0.mk (below_step (by repeat (first | (with_reducible first | exact HB.out | apply below_alloc | apply pw_below_drewN | apply below_drew1 | refine below_set ?_ GE327.out) | exact HB.out)) hb); clear BK327; clear HB; have BK327 := n0_; have HB := n1_; clear n0_ n1_; (try clear hb); (try clear hb2); (try clear hk); (try clear hi))); try go_wp2_with (first | ((with_reducible refine gate_dst (N := 1) rfl ?_); refine box_event ?hg (N := 1) ?hd (cs := #[.slice A0_0 l0_0.length c0_0, .bool a0_1]) (t := 25) ?hr ?_; (case hd => rfl); (case hg => rfl); (case hr => first | (go_simp; done) | (go_simp; rfl)); intro gb327 hg w14 hbox hb; have n0_ := Aside0.mk (below_step (by repeat (first | (with_reducible first | exact HB.out | apply below_alloc | apply pw_below_drewN | apply below_drew1) | exact HB.out)) hb); have n1_ := Aside0.mk (hbox); have n2_ := Aside0.mk ((by rw [hg]; exact (below_size (by repeat (first | (with_reducible first | exact HB.out | apply below_alloc | apply pw_below_drewN | apply below_drew1) | exact HB.out))) : w.heap.size ≤ gb327)); have n3_ := Aside0.mk ((by rw [hg]; exact (below_size (by repeat (first | (with_reducible first | exact HB.out | apply below_alloc | apply pw_below_drewN | apply below_drew1) | exact HB.out))) : w.heap.size ≤ gb327)); clear HB; have HB := n0_; have BK327 := n1_; have GW327 := n2_; have GE327 := n3_; clear n0_ n1_ n2_ n3_; clear hb hbox hg; have hcz15_0 : w14.cell? ⟨gb327, 0, none⟩ = some (.slice A0_0 l0_0.length c0_0) := (blk_cell BK327.out 0).trans rfl; have hcz15_1 : w14.cell? ⟨gb327, 1, none⟩ = some (.bool a0_1) := (blk_cell BK327.out 1).trans rfl; have hfz15_0 := blk_frozen BK327.out 0; have hfz15_1 := blk_frozen BK327.out 1) | (go_at_call 29; (with_reducible refine (pattern_Check.calls k _ _ l0_0 a0_1 t328 _ ?side1 ?side2 A2.out).mono ?_); (case side1 => repeat (first | exact (Kd.C_below HR0_0.out HB.out) | (with_reducible refine Kd.C_alloc ?_ _) | (with_reducible refine Kd.C_drewN ?_ _) | (with_reducible refine Kd.C_drew ?_))); (case side2 => exact HC0_0.out); rintro e w16 ⟨rfl, hb⟩; have n0_ := Aside0.mk (blk_below (g := gb327) (o := .cells #[.slice A0_0 l0_0.length c0_0, .bool a0_1] 25 (0, 0)) (by (with_reducible repeat (first | refine blk_drewN ?_ _ | refine blk_drew ?_ | refine blk_alloc ?_ _)); exact BK327.out) hb); have n1_ := Aside0.mk (below_step (by repeat (first | (with_reducible first | exact HB.out | apply below_alloc | apply pw_below_drewN | apply below_drew1 | refine below_set ?_ GE327.out) | exact HB.out)) hb); clear BK327; clear HB; have BK327 := n0_; have HB := n1_; clear n0_ n1_; (try clear hb); (try clear hb2); (try clear hk); (try clear hi))))
    go_ret3
    exact ⟨by first | rfl | (simp [errW_none, errW_some] <;> rfl) | (simp [*, errW_none, errW_some] <;> rfl), by repeat (first | (with_reducible first | exact HB.out | apply below_alloc | apply pw_below_drewN | apply below_drew1 | refine below_set ?_ GE327.out) | exact HB.out)⟩

end Go.Proofs.YtkakemojljeffaaDoor.P

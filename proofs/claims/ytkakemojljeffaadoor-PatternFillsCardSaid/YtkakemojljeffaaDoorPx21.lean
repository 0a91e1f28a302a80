-- Written by a program of this session (wip/gen.py) over the kit's print: each Go function as a plain Lean function, and the proof that the Go code comes to it. Nothing here is trusted: Lean checks it.
import Derived.Test.YtkakemojljeffaaDoorPx0
import Derived.Test.YtkakemojljeffaaDoorPx3
import Derived.Test.YtkakemojljeffaaDoorPx5
import Derived.Test.YtkakemojljeffaaDoorPx18
import Derived.Test.YtkakemojljeffaaDoorPx20
namespace Go.Proofs.YtkakemojljeffaaDoor.P
open Go.RowKit Go.Proofs.YtkakemojljeffaaDoorW.PrintWords Go.Proofs.YtkakemojljeffaaDoorW.PrintLast Go.Proofs.YtkakemojljeffaaDoorW.PrintMore
attribute [local go_sem] str_gtr str_leq str_geq max2_int min2_int max_two min_two max_three min_three max_four min_four   -- for this text's walks alone
set_option linter.unusedVariables false
set_option linter.unusedSimpArgs false

/-! ### stockyardlaw03_PatternFills: function 12 -/
mutual
def stockyardlaw03_PatternFills.j0 : Nat → List ByteArray → Bool → List ByteArray → Bool → Option (Bool)
  | 0, _, _, _, _ => none
  | k + 1, x1, x19, x446000, x446001 => if x19 = true then ((stockyardlaw03_awake.f k).bind fun t447 => (some t447)) else (stockyardlaw03_PatternFills.l0 k x1 x1 (x1.length : Int) 0 x446000 x446001)
def stockyardlaw03_PatternFills.l0 : Nat → List ByteArray → List ByteArray → Int → Int → List ByteArray → Bool → Option (Bool)
  | 0, _, _, _, _, _, _ => none
  | k + 1, x1, x21, x22, x23, x446000, x446001 => if x23 < x22 then (if 0 ≤ x23 then (if x23 < (x21.length : Int) then (if ((rdOf ByteArray.empty x21 x23).size : Int) > 100 then ((stockyardlaw03_awake.f k).bind fun t449 => (some t449)) else (stockyardlaw03_PatternFills.l0 k x1 x21 x22 (wrap64 (x23 + 1)) x446000 x446001)) else (none)) else (none)) else (if ([] : List ByteArray).length + x1.length < 8796093022208 then ((pattern_Fill.f k x446000 x446001 x1).bind fun bt453 => ((stockyardref03_Fill.f k x446000 x446001 x1).bind fun bt455 => (if bt453.1.toList = bt455.1.toList then (if bt453.2 = bt455.2 then ((stockyardlaw03_equal.f k x1 (([] : List ByteArray) ++ x1)).bind fun t457 => (if t457 = true then ((stockyardlaw03_awake.f k).bind fun t458 => (some t458)) else (some false))) else (some false)) else (some false)))) else (none))
end
def stockyardlaw03_PatternFills.f (k : Nat) (l0_0 : List ByteArray) (a0_1 : Bool) (l1 : List ByteArray) : Option (Bool) := (stockyardlaw03_small.f k l0_0 a0_1).bind fun t446 => (if t446 = true then (stockyardlaw03_PatternFills.j0 k l1 (decide ((l1.length : Int) > 20)) l0_0 a0_1) else (stockyardlaw03_PatternFills.j0 k l1 true l0_0 a0_1))
theorem stockyardlaw03_PatternFills.mono_l : ∀ k, (∀ y0 y1 y2 y3, LeO (stockyardlaw03_PatternFills.j0 k y0 y1 y2 y3) (stockyardlaw03_PatternFills.j0 (k + 1) y0 y1 y2 y3)) ∧ (∀ y0 y1 y2 y3 y4 y5, LeO (stockyardlaw03_PatternFills.l0 k y0 y1 y2 y3 y4 y5) (stockyardlaw03_PatternFills.l0 (k + 1) y0 y1 y2 y3 y4 y5))
  | 0 => ⟨fun _ _ _ _ r h => by simp [stockyardlaw03_PatternFills.j0] at h, fun _ _ _ _ _ _ r h => by simp [stockyardlaw03_PatternFills.l0] at h⟩
  | k + 1 => by
    obtain ⟨ih0, ih1⟩ := stockyardlaw03_PatternFills.mono_l k
    refine ⟨?_, ?_⟩
    · intro y0 y1 y2 y3
      unfold stockyardlaw03_PatternFills.j0
      repeat' first
      | (with_reducible exact ih0 _ _ _ _)
      | (with_reducible exact ih1 _ _ _ _ _ _)
      | (with_reducible exact pattern_Fill.mono _ _ _ _)
      | (with_reducible exact stockyardlaw03_awake.mono _)
      | (with_reducible exact stockyardlaw03_equal.mono _ _ _)
      | (with_reducible exact stockyardlaw03_small.mono _ _ _)
      | (with_reducible exact stockyardref03_Fill.mono _ _ _ _)
      | (with_reducible exact LeO.refl _)
      | (with_reducible exact LeO.none _)
      | (with_reducible refine LeO.ite ?_ ?_)
      | (with_reducible refine LeO.bind ?_ (fun _ => ?_))
      | exact ih0 _ _ _ _
      | exact ih1 _ _ _ _ _ _
      | exact pattern_Fill.mono _ _ _ _
      | exact stockyardlaw03_awake.mono _
      | exact stockyardlaw03_equal.mono _ _ _
      | exact stockyardlaw03_small.mono _ _ _
      | exact stockyardref03_Fill.mono _ _ _ _
      | exact LeO.none _
      | refine LeO.ite ?_ ?_
      | refine LeO.bind ?_ (fun _ => ?_)
    · intro y0 y1 y2 y3 y4 y5
      unfold stockyardlaw03_PatternFills.l0
      repeat' first
      | (with_reducible exact ih0 _ _ _ _)
      | (with_reducible exact ih1 _ _ _ _ _ _)
      | (with_reducible exact pattern_Fill.mono _ _ _ _)
      | (with_reducible exact stockyardlaw03_awake.mono _)
      | (with_reducible exact stockyardlaw03_equal.mono _ _ _)
      | (with_reducible exact stockyardlaw03_small.mono _ _ _)
      | (with_reducible exact stockyardref03_Fill.mono _ _ _ _)
      | (with_reducible exact LeO.refl _)
      | (with_reducible exact LeO.none _)
      | (with_reducible refine LeO.ite ?_ ?_)
      | (with_reducible refine LeO.bind ?_ (fun _ => ?_))
      | exact ih0 _ _ _ _
      | exact ih1 _ _ _ _ _ _
      | exact pattern_Fill.mono _ _ _ _
      | exact stockyardlaw03_awake.mono _
      | exact stockyardlaw03_equal.mono _ _ _
      | exact stockyardlaw03_small.mono _ _ _
      | exact stockyardref03_Fill.mono _ _ _ _
      | exact LeO.none _
      | refine LeO.ite ?_ ?_
      | refine LeO.bind ?_ (fun _ => ?_)
theorem stockyardlaw03_PatternFills.mono : ∀ a0 a1 a2 k, LeO (stockyardlaw03_PatternFills.f k a0 a1 a2) (stockyardlaw03_PatternFills.f (k + 1) a0 a1 a2) := by
  intro a0 a1 a2 k
  obtain ⟨ih0, ih1⟩ := stockyardlaw03_PatternFills.mono_l k
  unfold stockyardlaw03_PatternFills.f
  repeat' first
      | (with_reducible exact ih0 _ _ _ _)
      | (with_reducible exact ih1 _ _ _ _ _ _)
      | (with_reducible exact pattern_Fill.mono _ _ _ _)
      | (with_reducible exact stockyardlaw03_awake.mono _)
      | (with_reducible exact stockyardlaw03_equal.mono _ _ _)
      | (with_reducible exact stockyardlaw03_small.mono _ _ _)
      | (with_reducible exact stockyardref03_Fill.mono _ _ _ _)
      | (with_reducible exact LeO.refl _)
      | (with_reducible exact LeO.none _)
      | (with_reducible refine LeO.ite ?_ ?_)
      | (with_reducible refine LeO.bind ?_ (fun _ => ?_))
      | exact ih0 _ _ _ _
      | exact ih1 _ _ _ _ _ _
      | exact pattern_Fill.mono _ _ _ _
      | exact stockyardlaw03_awake.mono _
      | exact stockyardlaw03_equal.mono _ _ _
      | exact stockyardlaw03_small.mono _ _ _
      | exact stockyardref03_Fill.mono _ _ _ _
      | exact LeO.none _
      | refine LeO.ite ?_ ?_
      | refine LeO.bind ?_ (fun _ => ?_)
set_option maxHeartbeats 8000000 in
set_option maxRecDepth 100000 in
theorem stockyardlaw03_PatternFills.calls (k : Nat) (A0_0 : Option Addr) (c0_0 : Nat) (l0_0 : List ByteArray) (a0_1 : Bool) (A1 : Option Addr) (c1 : Nat) (l1 : List ByteArray) (r : Bool) (w : World) (hr0_0 : Kd.C Kd.string w A0_0 l0_0.length l0_0) (hc0_0 : l0_0.length ≤ c0_0) (hr1 : Kd.C Kd.string w A1 l1.length l1) (hc1 : l1.length ≤ c1) (h : stockyardlaw03_PatternFills.f k l0_0 a0_1 l1 = some r) :
    Calls Tryd.prog 12 #[.agg #[.slice A0_0 l0_0.length c0_0, .bool a0_1], .slice A1 l1.length c1] w fun e w' => e = .returned (.bool r) ∧ Below w.heap.size w w' := by
  have hu25 := Tryd.underlying25
  have HR0_0 := Aside0.mk hr0_0
  have HC0_0 := Aside0.mk hc0_0
  clear hr0_0 hc0_0
  have HR1 := Aside0.mk hr1
  have HC1 := Aside0.mk hc1
  clear hr1 hc1
  have HB := Aside0.mk (Below.refl w.heap.size w)
  have H : ((stockyardlaw03_small.f k l0_0 a0_1).bind fun t446 => (if t446 = true then (stockyardlaw03_PatternFills.j0 k l1 (decide ((l1.length : Int) > 20)) l0_0 a0_1) else (stockyardlaw03_PatternFills.j0 k l1 true l0_0 a0_1))) = some r := h
  clear h
  have HC3 := Aside0.mk H
  clear H
  go_enter Tryd.func12, Tryd.ntmps12
  go_upto_region 1 with (first | ((with_reducible refine gate_dst (N := 2) rfl ?_); (try (refine gate_guard (by rfl) ?_; dsimp only)); refine box_event ?hg (N := 2) ?hd (cs := #[.slice A0_0 l0_0.length c0_0, .bool a0_1]) (t := 25) ?hr ?_; (case hd => rfl); (case hg => rfl); (case hr => first | (go_simp; done) | (go_simp; rfl)); intro gb445 hg w4 hbox hb; have n0_ := Aside0.mk (below_step (by repeat (first | (with_reducible first | exact HB.out | apply below_alloc | apply pw_below_drewN | apply below_drew1) | exact HB.out)) hb); have n1_ := Aside0.mk (hbox); have n2_ := Aside0.mk ((by rw [hg]; exact (below_size (by repeat (first | (with_reducible first | exact HB.out | apply below_alloc | apply pw_below_drewN | apply below_drew1) | exact HB.out))) : w.heap.size ≤ gb445)); have n3_ := Aside0.mk ((by rw [hg]; exact (below_size (by repeat (first | (with_reducible first | exact HB.out | apply below_alloc | apply pw_below_drewN | apply below_drew1) | exact HB.out))) : w.heap.size ≤ gb445)); clear HB; have HB := n0_; have BK445 := n1_; have GW445 := n2_; have GE445 := n3_; clear n0_ n1_ n2_ n3_; clear hb hbox hg))
  (try simp only [Act.put, List.setIfInBounds_toArray, List.set_cons_zero, List.set_cons_succ])
  go_cut [19] (fun v19 wc => ∃ (kq : Nat) (x19_2 : Bool), v19 = .bool x19_2 ∧ Aside0 (stockyardlaw03_PatternFills.j0 kq l1 x19_2 l0_0 a0_1 = some r) ∧ Aside0 (kq ≤ k) ∧ Aside0 (wc.heap[gb445]? = some (.cells #[(.slice A0_0 l0_0.length c0_0), .bool a0_1] 25 (0, 0))) ∧ Aside0 (Below w.heap.size w wc))
  case first =>
    have H := HC3.out
    clear HC3
    replace H := Option.bind_eq_some_iff.mp H
    obtain ⟨t446, A50, H⟩ := H
    replace H : (if t446 = true then (stockyardlaw03_PatternFills.j0 k l1 (decide ((l1.length : Int) > 20)) l0_0 a0_1) else (stockyardlaw03_PatternFills.j0 k l1 true l0_0 a0_1)) = some r := H
    have A5 := Aside0.mk A50
    clear A50
    by_cases c6 : t446 = true
    · subst c6
      have H1 : (stockyardlaw03_PatternFills.j0 k l1 (decide ((l1.length : Int) > 20)) l0_0 a0_1) = some r := by rw [if_pos rfl] at H; exact H
      clear H
      have H := H1
      clear H1
      have H' := Aside0.mk H
      clear H
      have hcz7_0 : w4.cell? ⟨gb445, 0, none⟩ = some (.slice A0_0 l0_0.length c0_0) := (blk_cell BK445.out 0).trans rfl
      have hcz7_1 : w4.cell? ⟨gb445, 1, none⟩ = some (.bool a0_1) := (blk_cell BK445.out 1).trans rfl
      have hfz7_0 := blk_frozen BK445.out 0
      have hfz7_1 := blk_frozen BK445.out 1
      go_wp2_with (first | ((with_reducible refine gate_callee (f := 22) rfl ?_); refine goesL_ (some 13) rfl rfl Tryd.func22 (by kernel_rfl) rfl #[.agg #[.slice A0_0 l0_0.length c0_0, .bool a0_1]] rfl (by (try simp only [List.map_toArray, List.map_cons, List.map_nil]); first | done | rfl | (simp only [List.length_drop, List.length_take]; rfl)) ?_; (with_reducible refine (stockyardlaw03_small.calls k _ _ l0_0 a0_1 true _ ?side1 ?side2 A5.out).mono ?_); (case side1 => repeat (first | exact (Kd.C_below HR0_0.out HB.out) | (with_reducible refine Kd.C_alloc ?_ _) | (with_reducible refine Kd.C_drewN ?_ _) | (with_reducible refine Kd.C_drew ?_))); (case side2 => exact HC0_0.out); rintro e w8 ⟨rfl, hb⟩; refine ⟨_, rfl, ?_⟩; have n0_ := Aside0.mk (blk_below (g := gb445) (o := .cells #[.slice A0_0 l0_0.length c0_0, .bool a0_1] 25 (0, 0)) (by (with_reducible repeat (first | refine blk_drewN ?_ _ | refine blk_drew ?_ | refine blk_alloc ?_ _)); exact BK445.out) hb); have n1_ := Aside0.mk (below_step (by repeat (first | (with_reducible first | exact HB.out | apply below_alloc | apply pw_below_drewN | apply below_drew1 | refine below_set ?_ GE445.out) | exact HB.out)) hb); clear BK445; clear HB; have BK445 := n0_; have HB := n1_; clear n0_ n1_; (try clear hb); (try clear hb2); (try clear hk); (try clear hi)))
      go_meet
      case rel => exact ⟨_, (decide ((l1.length : Int) > 20)), (by first | rfl | (simp; done) | (simp [*]; done)), H', ⟨by first | omega | exact Nat.le_refl _⟩, ⟨by (with_reducible repeat (first | refine blk_drewN ?_ _ | refine blk_drew ?_ | refine blk_alloc ?_ _)); exact BK445.out⟩, ⟨by repeat (first | (with_reducible first | exact HB.out | apply below_alloc | apply pw_below_drewN | apply below_drew1 | refine below_set ?_ GE445.out) | exact HB.out)⟩⟩
    · replace c6 := Bool.eq_false_iff.mpr c6
      subst c6
      have H1 : (stockyardlaw03_PatternFills.j0 k l1 true l0_0 a0_1) = some r := by rw [if_neg (show ¬ (false = true) by decide)] at H; exact H
      clear H
      have H := H1
      clear H1
      have H' := Aside0.mk H
      clear H
      have hcz9_0 : w4.cell? ⟨gb445, 0, none⟩ = some (.slice A0_0 l0_0.length c0_0) := (blk_cell BK445.out 0).trans rfl
      have hcz9_1 : w4.cell? ⟨gb445, 1, none⟩ = some (.bool a0_1) := (blk_cell BK445.out 1).trans rfl
      have hfz9_0 := blk_frozen BK445.out 0
      have hfz9_1 := blk_frozen BK445.out 1
      go_wp2_with (first | ((with_reducible refine gate_callee (f := 22) rfl ?_); refine goesL_ (some 13) rfl rfl Tryd.func22 (by kernel_rfl) rfl #[.agg #[.slice A0_0 l0_0.length c0_0, .bool a0_1]] rfl (by (try simp only [List.map_toArray, List.map_cons, List.map_nil]); first | done | rfl | (simp only [List.length_drop, List.length_take]; rfl)) ?_; (with_reducible refine (stockyardlaw03_small.calls k _ _ l0_0 a0_1 false _ ?side1 ?side2 A5.out).mono ?_); (case side1 => repeat (first | exact (Kd.C_below HR0_0.out HB.out) | (with_reducible refine Kd.C_alloc ?_ _) | (with_reducible refine Kd.C_drewN ?_ _) | (with_reducible refine Kd.C_drew ?_))); (case side2 => exact HC0_0.out); rintro e w10 ⟨rfl, hb⟩; refine ⟨_, rfl, ?_⟩; have n0_ := Aside0.mk (blk_below (g := gb445) (o := .cells #[.slice A0_0 l0_0.length c0_0, .bool a0_1] 25 (0, 0)) (by (with_reducible repeat (first | refine blk_drewN ?_ _ | refine blk_drew ?_ | refine blk_alloc ?_ _)); exact BK445.out) hb); have n1_ := Aside0.mk (below_step (by repeat (first | (with_reducible first | exact HB.out | apply below_alloc | apply pw_below_drewN | apply below_drew1 | refine below_set ?_ GE445.out) | exact HB.out)) hb); clear BK445; clear HB; have BK445 := n0_; have HB := n1_; clear n0_ n1_; (try clear hb); (try clear hb2); (try clear hk); (try clear hi)))
      go_meet
      case rel => exact ⟨_, (true), (by first | rfl | (simp; done) | (simp [*]; done)), H', ⟨by first | omega | exact Nat.le_refl _⟩, ⟨by (with_reducible repeat (first | refine blk_drewN ?_ _ | refine blk_drew ?_ | refine blk_alloc ?_ _)); exact BK445.out⟩, ⟨by repeat (first | (with_reducible first | exact HB.out | apply below_alloc | apply pw_below_drewN | apply below_drew1 | refine below_set ?_ GE445.out) | exact HB.out)⟩⟩
  case rest =>
    clear HC3
    try clear c1
    try clear c2
    try clear p2
    try clear c6
    try clear hcz7_0
    try clear hcz7_1
    try clear hcz9_0
    try clear hcz9_1
    try clear hfz7_0
    try clear hfz7_1
    try clear hfz9_0
    try clear hfz9_1
    obtain ⟨kq, x19_2, rfl, HA, HJ2, BK445, HB⟩ := hcut
    cases kq with
    | zero => exact absurd HA.out (by simp [stockyardlaw03_PatternFills.j0])
    | succ kj2 =>
      have H := HA.out
      clear HA
      simp only [stockyardlaw03_PatternFills.j0] at H
      by_cases c11 : x19_2 = true
      · subst c11
        have H1 : ((stockyardlaw03_awake.f kj2).bind fun t447 => (some t447)) = some r := by rw [if_pos rfl] at H; exact H
        clear H
        have H := H1
        clear H1
        replace H := Option.bind_eq_some_iff.mp H
        obtain ⟨t447, A120, H⟩ := H
        replace H : (some t447) = some r := H
        have A12 := Aside0.mk A120
        clear A120
        obtain rfl := Option.some.inj H
        go_wp2_with (first | ((with_reducible refine gate_callee (f := 18) rfl ?_); refine goesL_ (some 20) rfl rfl Tryd.func18 (by kernel_rfl) rfl #[] rfl (by (try simp only [List.map_toArray, List.map_cons, List.map_nil]); first | done | rfl | (simp only [List.length_drop, List.length_take]; rfl)) ?_; (with_reducible refine (stockyardlaw03_awake.calls kj2  t447 _ A12.out).mono ?_); rintro e w13 ⟨rfl, hb⟩; refine ⟨_, rfl, ?_⟩; have n0_ := Aside0.mk (blk_below (g := gb445) (o := .cells #[.slice A0_0 l0_0.length c0_0, .bool a0_1] 25 (0, 0)) (by (with_reducible repeat (first | refine blk_drewN ?_ _ | refine blk_drew ?_ | refine blk_alloc ?_ _)); exact BK445.out) hb); have n1_ := Aside0.mk (below_step (by repeat (first | (with_reducible first | exact HB.out | apply below_alloc | apply pw_below_drewN | apply below_drew1 | refine below_set ?_ GE445.out) | exact HB.out)) hb); clear BK445; clear HB; have BK445 := n0_; have HB := n1_; clear n0_ n1_; (try clear hb); (try clear hb2); (try clear hk); (try clear hi)))
        go_ret
        exact ⟨by first | rfl | (simp [errW_none, errW_some] <;> rfl) | (simp [*, errW_none, errW_some] <;> rfl), by repeat (first | (with_reducible first | exact HB.out | apply below_alloc | apply pw_below_drewN | apply below_drew1 | refine below_set ?_ GE445.out) | exact HB.out)⟩
      · replace c11 := Bool.eq_false_iff.mpr c11
        subst c11
        have H1 : (stockyardlaw03_PatternFills.l0 kj2 l1 l1 (l1.length : Int) 0 l0_0 a0_1) = some r := by rw [if_neg (show ¬ (false = true) by decide)] at H; exact H
        clear H
        have H := H1
        clear H1
        have H' := Aside0.mk H
        clear H
        go_wp2
        go_loopg [23] kj2 (fun kq v23 w' => ∃ (x23_2 : Int), v23 = .int .i64 x23_2 ∧ Aside0 (stockyardlaw03_PatternFills.l0 kq l1 l1 (l1.length : Int) x23_2 l0_0 a0_1 = some r) ∧ Aside0 (kq ≤ kj2) ∧ Aside0 (w'.heap[gb445]? = some (.cells #[(.slice A0_0 l0_0.length c0_0), .bool a0_1] 25 (0, 0))) ∧ Aside0 (Below w.heap.size w w'))
        case atStart => exact ⟨(0), (by first | rfl | (simp; done) | (simp [*]; done)), H', ⟨Nat.le_refl _⟩, ⟨by (with_reducible repeat (first | refine blk_drewN ?_ _ | refine blk_drew ?_ | refine blk_alloc ?_ _)); exact BK445.out⟩, ⟨by repeat (first | (with_reducible first | exact HB.out | apply below_alloc | apply pw_below_drewN | apply below_drew1 | refine below_set ?_ GE445.out) | exact HB.out)⟩⟩
        case round =>
          clear H'
          try clear c1
          try clear c2
          try clear p2
          try clear c6
          try clear c11
          try clear c12
          try clear hcz7_0
          try clear hcz7_1
          try clear hcz9_0
          try clear hcz9_1
          try clear hfz7_0
          try clear hfz7_1
          try clear hfz9_0
          try clear hfz9_1
          try clear p2
          obtain ⟨x23_2, rfl, HA, HK2, BK445, HB⟩ := hrel
          cases gk with
          | zero => exact absurd HA.out (by simp [stockyardlaw03_PatternFills.l0])
          | succ k2 =>
            have H := HA.out
            clear HA
            simp only [stockyardlaw03_PatternFills.l0] at H
            by_cases c14 : x23_2 < (l1.length : Int)
            · rw [if_pos c14] at H
              have c14b0 : decide (x23_2 < (l1.length : Int)) = true := decide_eq_true c14
              clear c14
              by_cases c15 : 0 ≤ x23_2
              · rw [if_pos c15] at H
                have c15b0 : decide (0 ≤ x23_2) = true := decide_eq_true c15
                clear c15
                by_cases c16 : x23_2 < (l1.length : Int)
                · rw [if_pos c16] at H
                  have c16b0 : decide (x23_2 < (l1.length : Int)) = true := decide_eq_true c16
                  clear c16
                  by_cases c17 : ((rdOf ByteArray.empty l1 x23_2).size : Int) > 100
                  · rw [if_pos c17] at H
                    have c17b0 : decide (100 < ((rdOf ByteArray.empty l1 x23_2).size : Int)) = true := decide_eq_true c17
                    have c17b1 : decide (100 < (rdOf ByteArray.empty l1 x23_2).size) = true := decide_eq_true (by omega)
                    clear c17
                    replace H := Option.bind_eq_some_iff.mp H
                    obtain ⟨t449, A180, H⟩ := H
                    replace H : (some t449) = some r := H
                    have A18 := Aside0.mk A180
                    clear A180
                    obtain rfl := Option.some.inj H
                    have p448 : 0 ≤ (x23_2 : Int) := of_decide_eq_true (by first | (with_reducible assumption) | assumption)
                    have q448 : x23_2 < (l1.length : Int) := of_decide_eq_true (by first | (with_reducible assumption) | assumption)
                    obtain ⟨ad448, e448, hx448_0⟩ := Kd.at_string HR1.out x23_2 p448 q448
                    cases e448
                    replace hx448_0 := (HB.out.cell (World.block_lt_of_cell? w _ hx448_0)).trans hx448_0
                    replace p448 := eq_true p448
                    replace q448 := eq_true q448
                    go_wp2_with (first | ((with_reducible refine gate_callee (f := 18) rfl ?_); refine goesL_ (some 30) rfl rfl Tryd.func18 (by kernel_rfl) rfl #[] rfl (by (try simp only [List.map_toArray, List.map_cons, List.map_nil]); first | done | rfl | (simp only [List.length_drop, List.length_take]; rfl)) ?_; (with_reducible refine (stockyardlaw03_awake.calls k2  t449 _ A18.out).mono ?_); rintro e w19 ⟨rfl, hb⟩; refine ⟨_, rfl, ?_⟩; have n0_ := Aside0.mk (blk_below (g := gb445) (o := .cells #[.slice A0_0 l0_0.length c0_0, .bool a0_1] 25 (0, 0)) (by (with_reducible repeat (first | refine blk_drewN ?_ _ | refine blk_drew ?_ | refine blk_alloc ?_ _)); exact BK445.out) hb); have n1_ := Aside0.mk (below_step (by repeat (first | (with_reducible first | exact HB.out | apply below_alloc | apply pw_below_drewN | apply below_drew1 | refine below_set ?_ GE445.out) | exact HB.out)) hb); clear BK445; clear HB; have BK445 := n0_; have HB := n1_; clear n0_ n1_; (try clear hb); (try clear hb2); (try clear hk); (try clear hi)))
                    go_ret
                    exact ⟨by first | rfl | (simp [errW_none, errW_some] <;> rfl) | (simp [*, errW_none, errW_some] <;> rfl), by repeat (first | (with_reducible first | exact HB.out | apply below_alloc | apply pw_below_drewN | apply below_drew1 | refine below_set ?_ GE445.out) | exact HB.out)⟩
                  · rw [if_neg c17] at H
                    have c17b0 : decide (100 < ((rdOf ByteArray.empty l1 x23_2).size : Int)) = false := decide_eq_false c17
                    have c17b1 : decide (100 < (rdOf ByteArray.empty l1 x23_2).size) = false := decide_eq_false (by omega)
                    clear c17
                    have H' := Aside0.mk H
                    clear H
                    have p448 : 0 ≤ (x23_2 : Int) := of_decide_eq_true (by first | (with_reducible assumption) | assumption)
                    have q448 : x23_2 < (l1.length : Int) := of_decide_eq_true (by first | (with_reducible assumption) | assumption)
                    obtain ⟨ad448, e448, hx448_0⟩ := Kd.at_string HR1.out x23_2 p448 q448
                    cases e448
                    replace hx448_0 := (HB.out.cell (World.block_lt_of_cell? w _ hx448_0)).trans hx448_0
                    replace p448 := eq_true p448
                    replace q448 := eq_true q448
                    go_wp2
                    go_roundg k2
                    case measure => have := HJ2.out; have := HK2.out; omega
                    case rel => exact ⟨(wrap64 (x23_2 + 1)), (by first | rfl | (simp; done) | (simp [*]; done)), H', ⟨by have := HJ2.out; have := HK2.out; omega⟩, ⟨by (with_reducible repeat (first | refine blk_drewN ?_ _ | refine blk_drew ?_ | refine blk_alloc ?_ _)); exact BK445.out⟩, ⟨by repeat (first | (with_reducible first | exact HB.out | apply below_alloc | apply pw_below_drewN | apply below_drew1 | refine below_set ?_ GE445.out) | exact HB.out)⟩⟩
                · rw [if_neg c16] at H
                  exact absurd H (by simp)
              · rw [if_neg c15] at H
                exact absurd H (by simp)
            · rw [if_neg c14] at H
              have c14b0 : decide (x23_2 < (l1.length : Int)) = false := decide_eq_false c14
              clear c14
              by_cases c20 : ([] : List ByteArray).length + l1.length < 8796093022208
              · rw [if_pos c20] at H
                have LMc20 := Aside0.mk c20
                clear c20
                obtain ⟨y450, hy450⟩ : ∃ y_ : List ByteArray, y_ = (([] : List ByteArray) ++ l1) := ⟨_, rfl⟩
                replace H : ((pattern_Fill.f k2 l0_0 a0_1 l1).bind fun bt453 => ((stockyardref03_Fill.f k2 l0_0 a0_1 l1).bind fun bt455 => (if bt453.1.toList = bt455.1.toList then (if bt453.2 = bt455.2 then ((stockyardlaw03_equal.f k2 l1 y450).bind fun t457 => (if t457 = true then ((stockyardlaw03_awake.f k2).bind fun t458 => (some t458)) else (some false))) else (some false)) else (some false)))) = some r := by first | (rw [hy450]; with_reducible exact H) | (have H2_ := (Option.bind_some _ _).symm.trans H; rw [hy450]; with_reducible exact H2_) | (have H2_ := (Option.bind_some _ _).symm.trans H; with_reducible exact H2_) | with_reducible exact H | (rw [hy450]; exact H) | exact H
                have Ny450 := Aside0.mk hy450
                clear hy450
                replace H := Option.bind_eq_some_iff.mp H
                obtain ⟨⟨t453, t454⟩, A210, H⟩ := H
                replace H : ((stockyardref03_Fill.f k2 l0_0 a0_1 l1).bind fun bt455 => (if t453.toList = bt455.1.toList then (if t454 = bt455.2 then ((stockyardlaw03_equal.f k2 l1 y450).bind fun t457 => (if t457 = true then ((stockyardlaw03_awake.f k2).bind fun t458 => (some t458)) else (some false))) else (some false)) else (some false))) = some r := H
                have A21 := Aside0.mk A210
                clear A210
                replace H := Option.bind_eq_some_iff.mp H
                obtain ⟨⟨t455, t456⟩, A220, H⟩ := H
                replace H : (if t453.toList = t455.toList then (if t454 = t456 then ((stockyardlaw03_equal.f k2 l1 y450).bind fun t457 => (if t457 = true then ((stockyardlaw03_awake.f k2).bind fun t458 => (some t458)) else (some false))) else (some false)) else (some false)) = some r := H
                have A22 := Aside0.mk A220
                clear A220
                by_cases c23 : t453.toList = t455.toList
                · rw [if_pos c23] at H
                  have c23b0 : (t453.toList == t455.toList) = true := beq_iff_eq.mpr c23
                  have c23b1 : (t453.toList != t455.toList) = false := bne_eq_false_iff_eq.mpr c23
                  clear c23
                  by_cases c24 : t454 = t456
                  · rw [if_pos c24] at H
                    have c24b0 : (t454 == t456) = true := beq_iff_eq.mpr c24
                    have c24b1 : (t454 != t456) = false := bne_eq_false_iff_eq.mpr c24
                    clear c24
                    replace H := Option.bind_eq_some_iff.mp H
                    obtain ⟨t457, A250, H⟩ := H
                    replace H : (if t457 = true then ((stockyardlaw03_awake.f k2).bind fun t458 => (some t458)) else (some false)) = some r := H
                    have A25 := Aside0.mk A250
                    clear A250
                    by_cases c26 : t457 = true
                    · subst c26
                      have H1 : ((stockyardlaw03_awake.f k2).bind fun t458 => (some t458)) = some r := by rw [if_pos rfl] at H; exact H
                      clear H
                      have H := H1
                      clear H1
                      replace H := Option.bind_eq_some_iff.mp H
                      obtain ⟨t458, A270, H⟩ := H
                      replace H : (some t458) = some r := H
                      have A27 := Aside0.mk A270
                      clear A270
                      obtain rfl := Option.some.inj H
                      go_wp2_with (first | ((with_reducible refine gate_builtin (b := .append) (xs := #[.const (.slice none 0 0), .tmp 32]) rfl ?_); (try (refine gate_guard (by rfl) ?_; dsimp only)); at_builtin; refine Kd.R_append_rows Kd.string (w0 := w) w.heap.size rfl (.const (.slice none 0 0)) (.tmp 32) 23 9 (.string ⟨#[]⟩) 16 rfl Tryd.underlying23 info9 rfl (by decide) (by omega) (.slice none 0 0) ([] : List ByteArray) l1 _ _ _ (fun _ => True) (fun _ => False) rfl rfl ?aO ?aR (fun _ _ h => h) (fun _ h => h.elim) ?aF ?aB ?aS ?aL ?_; (case aR => repeat (first | exact (Kd.C_below HR1.out HB.out) | (with_reducible refine Kd.C_alloc ?_ _) | (with_reducible refine Kd.C_drewN ?_ _) | (with_reducible refine Kd.C_drew ?_))); (case aB => exact (by repeat (first | (with_reducible first | exact HB.out | apply below_alloc | apply pw_below_drewN | apply below_drew1 | refine below_set ?_ GE445.out) | exact HB.out))); (case aF => exact (fun _ _ => trivial)); (case aO => exact ((Kd.R_nil _ _ _ _ (fun _ => True)))); (case aS => exact (below_size (by repeat (first | (with_reducible first | exact HB.out | apply below_alloc | apply pw_below_drewN | apply below_drew1 | refine below_set ?_ GE445.out) | exact HB.out)))); (case aL => have := LMc20.out; omega); intro v451 w28 ho hb hg hat; rw [← Ny450.out] at ho; have n0_ := Aside0.mk (blk_grown (g := gb445) (o := .cells #[.slice A0_0 l0_0.length c0_0, .bool a0_1] 25 (0, 0)) (by (with_reducible repeat (first | refine blk_drewN ?_ _ | refine blk_drew ?_ | refine blk_alloc ?_ _)); exact BK445.out) hg (by simp [Value.ownBlock])); have n1_ := Aside0.mk (hb); have n2_ := Aside0.mk (ho); clear BK445; clear HB; have BK445 := n0_; have HB := n1_; have HO452 := n2_; clear n0_ n1_ n2_; clear ho hb hg hat; have hcz29_0 : w28.cell? ⟨gb445, 0, none⟩ = some (.slice A0_0 l0_0.length c0_0) := (blk_cell BK445.out 0).trans rfl; have hcz29_1 : w28.cell? ⟨gb445, 1, none⟩ = some (.bool a0_1) := (blk_cell BK445.out 1).trans rfl; have hfz29_0 := blk_frozen BK445.out 0; have hfz29_1 := blk_frozen BK445.out 1) | ((with_reducible refine gate_callee (f := 36) rfl ?_); refine goesL_ (some 37) rfl rfl Tryd.func36 (by kernel_rfl) rfl #[.agg #[.slice A0_0 l0_0.length c0_0, .bool a0_1], .slice A1 l1.length c1] rfl (by (try simp only [List.map_toArray, List.map_cons, List.map_nil]); first | done | rfl | (simp only [List.length_drop, List.length_take]; rfl)) ?_; (with_reducible refine (pattern_Fill.calls k2 _ _ l0_0 a0_1 (fun k_ => k_ < w.heap.size) _ _ l1 t453 t454 _ ?side1 ?side2 ?side3 A21.out).mono ?_); (case side1 => repeat (first | exact (Kd.C_below HR0_0.out HB.out) | (with_reducible refine Kd.C_alloc ?_ _) | (with_reducible refine Kd.C_drewN ?_ _) | (with_reducible refine Kd.C_drew ?_))); (case side2 => exact HC0_0.out); (case side3 => exact Kd.V_mk HC1.out (Kd.F_below (Kd.C_F Kd.heap_string HR1.out) (by repeat (first | (with_reducible first | exact HB.out | apply below_alloc | apply pw_below_drewN | apply below_drew1 | refine below_set ?_ GE445.out) | exact HB.out)))); rintro e w30 ⟨rfl, hb⟩; refine ⟨_, rfl, ?_⟩; have n0_ := Aside0.mk (Kd.R_below (by (with_reducible repeat (first | apply Kd.R_alloc | apply Kd.R_drewN | apply Kd.R_drew)); exact HO452.out) hb); have n1_ := Aside0.mk (blk_below (g := gb445) (o := .cells #[.slice A0_0 l0_0.length c0_0, .bool a0_1] 25 (0, 0)) (by (with_reducible repeat (first | refine blk_drewN ?_ _ | refine blk_drew ?_ | refine blk_alloc ?_ _)); exact BK445.out) hb); have n2_ := Aside0.mk (below_step (by repeat (first | (with_reducible first | exact HB.out | apply below_alloc | apply pw_below_drewN | apply below_drew1 | refine below_set ?_ GE445.out) | exact HB.out)) hb); clear HO452; clear BK445; clear HB; have HO452 := n0_; have BK445 := n1_; have HB := n2_; clear n0_ n1_ n2_; (try clear hb); (try clear hb2); (try clear hk); (try clear hi); have hcz31_0 : w30.cell? ⟨gb445, 0, none⟩ = some (.slice A0_0 l0_0.length c0_0) := (blk_cell BK445.out 0).trans rfl; have hcz31_1 : w30.cell? ⟨gb445, 1, none⟩ = some (.bool a0_1) := (blk_cell BK445.out 1).trans rfl; have hfz31_0 := blk_frozen BK445.out 0; have hfz31_1 := blk_frozen BK445.out 1) | ((with_reducible refine gate_callee (f := 38) rfl ?_); refine goesL_ (some 43) rfl rfl Tryd.func38 (by kernel_rfl) rfl #[.agg #[.slice A0_0 l0_0.length c0_0, .bool a0_1], .slice A1 l1.length c1] rfl (by (try simp only [List.map_toArray, List.map_cons, List.map_nil]); first | done | rfl | (simp only [List.length_drop, List.length_take]; rfl)) ?_; (with_reducible refine (stockyardref03_Fill.calls k2 _ _ l0_0 a0_1 _ _ l1 t455 t456 _ ?side1 ?side2 ?side3 ?side4 A22.out).mono ?_); (case side1 => repeat (first | exact (Kd.C_below HR0_0.out HB.out) | (with_reducible refine Kd.C_alloc ?_ _) | (with_reducible refine Kd.C_drewN ?_ _) | (with_reducible refine Kd.C_drew ?_))); (case side2 => exact HC0_0.out); (case side3 => repeat (first | exact (Kd.C_below HR1.out HB.out) | (with_reducible refine Kd.C_alloc ?_ _) | (with_reducible refine Kd.C_drewN ?_ _) | (with_reducible refine Kd.C_drew ?_))); (case side4 => exact HC1.out); rintro e w32 ⟨rfl, hb⟩; refine ⟨_, rfl, ?_⟩; have n0_ := Aside0.mk (Kd.R_below (by (with_reducible repeat (first | apply Kd.R_alloc | apply Kd.R_drewN | apply Kd.R_drew)); exact HO452.out) hb); have n1_ := Aside0.mk (blk_below (g := gb445) (o := .cells #[.slice A0_0 l0_0.length c0_0, .bool a0_1] 25 (0, 0)) (by (with_reducible repeat (first | refine blk_drewN ?_ _ | refine blk_drew ?_ | refine blk_alloc ?_ _)); exact BK445.out) hb); have n2_ := Aside0.mk (below_step (by repeat (first | (with_reducible first | exact HB.out | apply below_alloc | apply pw_below_drewN | apply below_drew1 | refine below_set ?_ GE445.out) | exact HB.out)) hb); clear HO452; clear BK445; clear HB; have HO452 := n0_; have BK445 := n1_; have HB := n2_; clear n0_ n1_ n2_; (try clear hb); (try clear hb2); (try clear hk); (try clear hi); obtain ⟨Ao33, co33, eo33⟩ := Kd.R_slice HO452.out; subst eo33) | (go_at_call 25; (with_reducible refine (stockyardlaw03_equal.calls k2 _ _ l1 _ _ y450 true _ ?side1 ?side2 ?side3 ?side4 A25.out).mono ?_); (case side1 => repeat (first | exact (Kd.C_below HR1.out HB.out) | (with_reducible refine Kd.C_alloc ?_ _) | (with_reducible refine Kd.C_drewN ?_ _) | (with_reducible refine Kd.C_drew ?_))); (case side2 => exact HC1.out); (case side3 => repeat (first | exact (Kd.R_reads' HO452.out).2.2 | (with_reducible refine Kd.C_alloc ?_ _) | (with_reducible refine Kd.C_drewN ?_ _) | (with_reducible refine Kd.C_drew ?_))); (case side4 => exact (Kd.R_reads' HO452.out).2.1); rintro e w' ⟨rfl, ⟨nd, rfl⟩⟩) | (go_at_call 18; (with_reducible refine (stockyardlaw03_awake.calls k2  t458 _ A27.out).mono ?_); rintro e w34 ⟨rfl, hb⟩; have n0_ := Aside0.mk (Kd.R_below (by (with_reducible repeat (first | apply Kd.R_alloc | apply Kd.R_drewN | apply Kd.R_drew)); exact HO452.out) hb); have n1_ := Aside0.mk (blk_below (g := gb445) (o := .cells #[.slice A0_0 l0_0.length c0_0, .bool a0_1] 25 (0, 0)) (by (with_reducible repeat (first | refine blk_drewN ?_ _ | refine blk_drew ?_ | refine blk_alloc ?_ _)); exact BK445.out) hb); have n2_ := Aside0.mk (below_step (by repeat (first | (with_reducible first | exact HB.out | apply below_alloc | apply pw_below_drewN | apply below_drew1 | refine below_set ?_ GE445.out) | exact HB.out)) hb); clear HO452; clear BK445; clear HB; have HO452 := n0_; have BK445 := n1_; have HB := n2_; clear n0_ n1_ n2_; (try clear hb); (try clear hb2); (try clear hk); (try clear hi)))
                      go_ret
                      exact ⟨by first | rfl | (simp [errW_none, errW_some] <;> rfl) | (simp [*, errW_none, errW_some] <;> rfl), by repeat (first | (with_reducible first | exact HB.out | apply below_alloc | apply pw_below_drewN | apply below_drew1 | refine below_set ?_ GE445.out) | exact HB.out)⟩
                    · replace c26 := Bool.eq_false_iff.mpr c26
                      subst c26
                      have H1 : (some false) = some r := by rw [if_neg (show ¬ (false = true) by decide)] at H; exact H
                      clear H
                      have H := H1
                      clear H1
                      obtain rfl := Option.some.inj H
                      go_wp2_with (first | ((with_reducible refine gate_builtin (b := .append) (xs := #[.const (.slice none 0 0), .tmp 32]) rfl ?_); (try (refine gate_guard (by rfl) ?_; dsimp only)); at_builtin; refine Kd.R_append_rows Kd.string (w0 := w) w.heap.size rfl (.const (.slice none 0 0)) (.tmp 32) 23 9 (.string ⟨#[]⟩) 16 rfl Tryd.underlying23 info9 rfl (by decide) (by omega) (.slice none 0 0) ([] : List ByteArray) l1 _ _ _ (fun _ => True) (fun _ => False) rfl rfl ?aO ?aR (fun _ _ h => h) (fun _ h => h.elim) ?aF ?aB ?aS ?aL ?_; (case aR => repeat (first | exact (Kd.C_below HR1.out HB.out) | (with_reducible refine Kd.C_alloc ?_ _) | (with_reducible refine Kd.C_drewN ?_ _) | (with_reducible refine Kd.C_drew ?_))); (case aB => exact (by repeat (first | (with_reducible first | exact HB.out | apply below_alloc | apply pw_below_drewN | apply below_drew1 | refine below_set ?_ GE445.out) | exact HB.out))); (case aF => exact (fun _ _ => trivial)); (case aO => exact ((Kd.R_nil _ _ _ _ (fun _ => True)))); (case aS => exact (below_size (by repeat (first | (with_reducible first | exact HB.out | apply below_alloc | apply pw_below_drewN | apply below_drew1 | refine below_set ?_ GE445.out) | exact HB.out)))); (case aL => have := LMc20.out; omega); intro v451 w35 ho hb hg hat; rw [← Ny450.out] at ho; have n0_ := Aside0.mk (blk_grown (g := gb445) (o := .cells #[.slice A0_0 l0_0.length c0_0, .bool a0_1] 25 (0, 0)) (by (with_reducible repeat (first | refine blk_drewN ?_ _ | refine blk_drew ?_ | refine blk_alloc ?_ _)); exact BK445.out) hg (by simp [Value.ownBlock])); have n1_ := Aside0.mk (hb); have n2_ := Aside0.mk (ho); clear BK445; clear HB; have BK445 := n0_; have HB := n1_; have HO452 := n2_; clear n0_ n1_ n2_; clear ho hb hg hat; have hcz36_0 : w35.cell? ⟨gb445, 0, none⟩ = some (.slice A0_0 l0_0.length c0_0) := (blk_cell BK445.out 0).trans rfl; have hcz36_1 : w35.cell? ⟨gb445, 1, none⟩ = some (.bool a0_1) := (blk_cell BK445.out 1).trans rfl; have hfz36_0 := blk_frozen BK445.out 0; have hfz36_1 := blk_frozen BK445.out 1) | ((with_reducible refine gate_callee (f := 36) rfl ?_); refine goesL_ (some 37) rfl rfl Tryd.func36 (by kernel_rfl) rfl #[.agg #[.slice A0_0 l0_0.length c0_0, .bool a0_1], .slice A1 l1.length c1] rfl (by (try simp only [List.map_toArray, List.map_cons, List.map_nil]); first | done | rfl | (simp only [List.length_drop, List.length_take]; rfl)) ?_; (with_reducible refine (pattern_Fill.calls k2 _ _ l0_0 a0_1 (fun k_ => k_ < w.heap.size) _ _ l1 t453 t454 _ ?side1 ?side2 ?side3 A21.out).mono ?_); (case side1 => repeat (first | exact (Kd.C_below HR0_0.out HB.out) | (with_reducible refine Kd.C_alloc ?_ _) | (with_reducible refine Kd.C_drewN ?_ _) | (with_reducible refine Kd.C_drew ?_))); (case side2 => exact HC0_0.out); (case side3 => exact Kd.V_mk HC1.out (Kd.F_below (Kd.C_F Kd.heap_string HR1.out) (by repeat (first | (with_reducible first | exact HB.out | apply below_alloc | apply pw_below_drewN | apply below_drew1 | refine below_set ?_ GE445.out) | exact HB.out)))); rintro e w37 ⟨rfl, hb⟩; refine ⟨_, rfl, ?_⟩; have n0_ := Aside0.mk (Kd.R_below (by (with_reducible repeat (first | apply Kd.R_alloc | apply Kd.R_drewN | apply Kd.R_drew)); exact HO452.out) hb); have n1_ := Aside0.mk (blk_below (g := gb445) (o := .cells #[.slice A0_0 l0_0.length c0_0, .bool a0_1] 25 (0, 0)) (by (with_reducible repeat (first | refine blk_drewN ?_ _ | refine blk_drew ?_ | refine blk_alloc ?_ _)); exact BK445.out) hb); have n2_ := Aside0.mk (below_step (by repeat (first | (with_reducible first | exact HB.out | apply below_alloc | apply pw_below_drewN | apply below_drew1 | refine below_set ?_ GE445.out) | exact HB.out)) hb); clear HO452; clear BK445; clear HB; have HO452 := n0_; have BK445 := n1_; have HB := n2_; clear n0_ n1_ n2_; (try clear hb); (try clear hb2); (try clear hk); (try clear hi); have hcz38_0 : w37.cell? ⟨gb445, 0, none⟩ = some (.slice A0_0 l0_0.length c0_0) := (blk_cell BK445.out 0).trans rfl; have hcz38_1 : w37.cell? ⟨gb445, 1, none⟩ = some (.bool a0_1) := (blk_cell BK445.out 1).trans rfl; have hfz38_0 := blk_frozen BK445.out 0; have hfz38_1 := blk_frozen BK445.out 1) | ((with_reducible refine gate_callee (f := 38) rfl ?_); refine goesL_ (some 43) rfl rfl Tryd.func38 (by kernel_rfl) rfl #[.agg #[.slice A0_0 l0_0.length c0_0, .bool a0_1], .slice A1 l1.length c1] rfl (by (try simp only [List.map_toArray, List.map_cons, List.map_nil]); first | done | rfl | (simp only [List.length_drop, List.length_take]; rfl)) ?_; (with_reducible refine (stockyardref03_Fill.calls k2 _ _ l0_0 a0_1 _ _ l1 t455 t456 _ ?side1 ?side2 ?side3 ?side4 A22.out).mono ?_); (case side1 => repeat (first | exact (Kd.C_below HR0_0.out HB.out) | (with_reducible refine Kd.C_alloc ?_ _) | (with_reducible refine Kd.C_drewN ?_ _) | (with_reducible refine Kd.C_drew ?_))); (case side2 => exact HC0_0.out); (case side3 => repeat (first | exact (Kd.C_below HR1.out HB.out) | (with_reducible refine Kd.C_alloc ?_ _) | (with_reducible refine Kd.C_drewN ?_ _) | (with_reducible refine Kd.C_drew ?_))); (case side4 => exact HC1.out); rintro e w39 ⟨rfl, hb⟩; refine ⟨_, rfl, ?_⟩; have n0_ := Aside0.mk (Kd.R_below (by (with_reducible repeat (first | apply Kd.R_alloc | apply Kd.R_drewN | apply Kd.R_drew)); exact HO452.out) hb); have n1_ := Aside0.mk (blk_below (g := gb445) (o := .cells #[.slice A0_0 l0_0.length c0_0, .bool a0_1] 25 (0, 0)) (by (with_reducible repeat (first | refine blk_drewN ?_ _ | refine blk_drew ?_ | refine blk_alloc ?_ _)); exact BK445.out) hb); have n2_ := Aside0.mk (below_step (by repeat (first | (with_reducible first | exact HB.out | apply below_alloc | apply pw_below_drewN | apply below_drew1 | refine below_set ?_ GE445.out) | exact HB.out)) hb); clear HO452; clear BK445; clear HB; have HO452 := n0_; have BK445 := n1_; have HB := n2_; clear n0_ n1_ n2_; (try clear hb); (try clear hb2); (try clear hk); (try clear hi); obtain ⟨Ao40, co40, eo40⟩ := Kd.R_slice HO452.out; subst eo40) | (go_at_call 25; (with_reducible refine (stockyardlaw03_equal.calls k2 _ _ l1 _ _ y450 false _ ?side1 ?side2 ?side3 ?side4 A25.out).mono ?_); (case side1 => repeat (first | exact (Kd.C_below HR1.out HB.out) | (with_reducible refine Kd.C_alloc ?_ _) | (with_reducible refine Kd.C_drewN ?_ _) | (with_reducible refine Kd.C_drew ?_))); (case side2 => exact HC1.out); (case side3 => repeat (first | exact (Kd.R_reads' HO452.out).2.2 | (with_reducible refine Kd.C_alloc ?_ _) | (with_reducible refine Kd.C_drewN ?_ _) | (with_reducible refine Kd.C_drew ?_))); (case side4 => exact (Kd.R_reads' HO452.out).2.1); rintro e w' ⟨rfl, ⟨nd, rfl⟩⟩))
                      go_ret
                      exact ⟨by first | rfl | (simp [errW_none, errW_some] <;> rfl) | (simp [*, errW_none, errW_some] <;> rfl), by repeat (first | (with_reducible first | exact HB.out | apply below_alloc | apply pw_below_drewN | apply below_drew1 | refine below_set ?_ GE445.out) | exact HB.out)⟩
                  · rw [if_neg c24] at H
                    have c24b0 : (t454 == t456) = false := beq_eq_false_iff_ne.mpr c24
                    have c24b1 : (t454 != t456) = true := bne_iff_ne.mpr c24
                    obtain rfl := Option.some.inj H
                    go_wp2_with (first | ((with_reducible refine gate_builtin (b := .append) (xs := #[.const (.slice none 0 0), .tmp 32]) rfl ?_); (try (refine gate_guard (by rfl) ?_; dsimp only)); at_builtin; refine Kd.R_append_rows Kd.string (w0 := w) w.heap.size rfl (.const (.slice none 0 0)) (.tmp 32) 23 9 (.string ⟨#[]⟩) 16 rfl Tryd.underlying23 info9 rfl (by decide) (by omega) (.slice none 0 0) ([] : List ByteArray) l1 _ _ _ (fun _ => True) (fun _ => False) rfl rfl ?aO ?aR (fun _ _ h => h) (fun _ h => h.elim) ?aF ?aB ?aS ?aL ?_; (case aR => repeat (first | exact (Kd.C_below HR1.out HB.out) | (with_reducible refine Kd.C_alloc ?_ _) | (with_reducible refine Kd.C_drewN ?_ _) | (with_reducible refine Kd.C_drew ?_))); (case aB => exact (by repeat (first | (with_reducible first | exact HB.out | apply below_alloc | apply pw_below_drewN | apply below_drew1 | refine below_set ?_ GE445.out) | exact HB.out))); (case aF => exact (fun _ _ => trivial)); (case aO => exact ((Kd.R_nil _ _ _ _ (fun _ => True)))); (case aS => exact (below_size (by repeat (first | (with_reducible first | exact HB.out | apply below_alloc | apply pw_below_drewN | apply below_drew1 | refine below_set ?_ GE445.out) | exact HB.out)))); (case aL => have := LMc20.out; omega); intro v451 w41 ho hb hg hat; rw [← Ny450.out] at ho; have n0_ := Aside0.mk (blk_grown (g := gb445) (o := .cells #[.slice A0_0 l0_0.length c0_0, .bool a0_1] 25 (0, 0)) (by (with_reducible repeat (first | refine blk_drewN ?_ _ | refine blk_drew ?_ | refine blk_alloc ?_ _)); exact BK445.out) hg (by simp [Value.ownBlock])); have n1_ := Aside0.mk (hb); have n2_ := Aside0.mk (ho); clear BK445; clear HB; have BK445 := n0_; have HB := n1_; have HO452 := n2_; clear n0_ n1_ n2_; clear ho hb hg hat; have hcz42_0 : w41.cell? ⟨gb445, 0, none⟩ = some (.slice A0_0 l0_0.length c0_0) := (blk_cell BK445.out 0).trans rfl; have hcz42_1 : w41.cell? ⟨gb445, 1, none⟩ = some (.bool a0_1) := (blk_cell BK445.out 1).trans rfl; have hfz42_0 := blk_frozen BK445.out 0; have hfz42_1 := blk_frozen BK445.out 1) | ((with_reducible refine gate_callee (f := 36) rfl ?_); refine goesL_ (some 37) rfl rfl Tryd.func36 (by kernel_rfl) rfl #[.agg #[.slice A0_0 l0_0.length c0_0, .bool a0_1], .slice A1 l1.length c1] rfl (by (try simp only [List.map_toArray, List.map_cons, List.map_nil]); first | done | rfl | (simp only [List.length_drop, List.length_take]; rfl)) ?_; (with_reducible refine (pattern_Fill.calls k2 _ _ l0_0 a0_1 (fun k_ => k_ < w.heap.size) _ _ l1 t453 t454 _ ?side1 ?side2 ?side3 A21.out).mono ?_); (case side1 => repeat (first | exact (Kd.C_below HR0_0.out HB.out) | (with_reducible refine Kd.C_alloc ?_ _) | (with_reducible refine Kd.C_drewN ?_ _) | (with_reducible refine Kd.C_drew ?_))); (case side2 => exact HC0_0.out); (case side3 => exact Kd.V_mk HC1.out (Kd.F_below (Kd.C_F Kd.heap_string HR1.out) (by repeat (first | (with_reducible first | exact HB.out | apply below_alloc | apply pw_below_drewN | apply below_drew1 | refine below_set ?_ GE445.out) | exact HB.out)))); rintro e w43 ⟨rfl, hb⟩; refine ⟨_, rfl, ?_⟩; have n0_ := Aside0.mk (Kd.R_below (by (with_reducible repeat (first | apply Kd.R_alloc | apply Kd.R_drewN | apply Kd.R_drew)); exact HO452.out) hb); have n1_ := Aside0.mk (blk_below (g := gb445) (o := .cells #[.slice A0_0 l0_0.length c0_0, .bool a0_1] 25 (0, 0)) (by (with_reducible repeat (first | refine blk_drewN ?_ _ | refine blk_drew ?_ | refine blk_alloc ?_ _)); exact BK445.out) hb); have n2_ := Aside0.mk (below_step (by repeat (first | (with_reducible first | exact HB.out | apply below_alloc | apply pw_below_drewN | apply below_drew1 | refine below_set ?_ GE445.out) | exact HB.out)) hb); clear HO452; clear BK445; clear HB; have HO452 := n0_; have BK445 := n1_; have HB := n2_; clear n0_ n1_ n2_; (try clear hb); (try clear hb2); (try clear hk); (try clear hi); have hcz44_0 : w43.cell? ⟨gb445, 0, none⟩ = some (.slice A0_0 l0_0.length c0_0) := (blk_cell BK445.out 0).trans rfl; have hcz44_1 : w43.cell? ⟨gb445, 1, none⟩ = some (.bool a0_1) := (blk_cell BK445.out 1).trans rfl; have hfz44_0 := blk_frozen BK445.out 0; have hfz44_1 := blk_frozen BK445.out 1) | ((with_reducible refine gate_callee (f := 38) rfl ?_); refine goesL_ (some 43) rfl rfl Tryd.func38 (by kernel_rfl) rfl #[.agg #[.slice A0_0 l0_0.length c0_0, .bool a0_1], .slice A1 l1.length c1] rfl (by (try simp only [List.map_toArray, List.map_cons, List.map_nil]); first | done | rfl | (simp only [List.length_drop, List.length_take]; rfl)) ?_; (with_reducible refine (stockyardref03_Fill.calls k2 _ _ l0_0 a0_1 _ _ l1 t455 t456 _ ?side1 ?side2 ?side3 ?side4 A22.out).mono ?_); (case side1 => repeat (first | exact (Kd.C_below HR0_0.out HB.out) | (with_reducible refine Kd.C_alloc ?_ _) | (with_reducible refine Kd.C_drewN ?_ _) | (with_reducible refine Kd.C_drew ?_))); (case side2 => exact HC0_0.out); (case side3 => repeat (first | exact (Kd.C_below HR1.out HB.out) | (with_reducible refine Kd.C_alloc ?_ _) | (with_reducible refine Kd.C_drewN ?_ _) | (with_reducible refine Kd.C_drew ?_))); (case side4 => exact HC1.out); rintro e w45 ⟨rfl, hb⟩; refine ⟨_, rfl, ?_⟩; have n0_ := Aside0.mk (Kd.R_below (by (with_reducible repeat (first | apply Kd.R_alloc | apply Kd.R_drewN | apply Kd.R_drew)); exact HO452.out) hb); have n1_ := Aside0.mk (blk_below (g := gb445) (o := .cells #[.slice A0_0 l0_0.length c0_0, .bool a0_1] 25 (0, 0)) (by (with_reducible repeat (first | refine blk_drewN ?_ _ | refine blk_drew ?_ | refine blk_alloc ?_ _)); exact BK445.out) hb); have n2_ := Aside0.mk (below_step (by repeat (first | (with_reducible first | exact HB.out | apply below_alloc | apply pw_below_drewN | apply below_drew1 | refine below_set ?_ GE445.out) | exact HB.out)) hb); clear HO452; clear BK445; clear HB; have HO452 := n0_; have BK445 := n1_; have HB := n2_; clear n0_ n1_ n2_; (try clear hb); (try clear hb2); (try clear hk); (try clear hi)))
                    go_ret
                    exact ⟨by first | rfl | (simp [errW_none, errW_some] <;> rfl) | (simp [*, errW_none, errW_some] <;> rfl), by repeat (first | (with_reducible first | exact HB.out | apply below_alloc | apply pw_below_drewN | apply below_drew1 | refine below_set ?_ GE445.out) | exact HB.out)⟩
                · rw [if_neg c23] at H
                  have c23b0 : (t453.toList == t455.toList) = false := beq_eq_false_iff_ne.mpr c23
                  have c23b1 : (t453.toList != t455.toList) = true := bne_iff_ne.mpr c23
                  obtain rfl := Option.some.inj H
                  go_wp2_with (first | ((with_reducible refine gate_builtin (b := .append) (xs := #[.const (.slice none 0 0), .tmp 32]) rfl ?_); (try (refine gate_guard (by rfl) ?_; dsimp only)); at_builtin; refine Kd.R_append_rows Kd.string (w0 := w) w.heap.size rfl (.const (.slice none 0 0)) (.tmp 32) 23 9 (.string ⟨#[]⟩) 16 rfl Tryd.underlying23 info9 rfl (by decide) (by omega) (.slice none 0 0) ([] : List ByteArray) l1 _ _ _ (fun _ => True) (fun _ => False) rfl rfl ?aO ?aR (fun _ _ h => h) (fun _ h => h.elim) ?aF ?aB ?aS ?aL ?_; (case aR => repeat (first | exact (Kd.C_below HR1.out HB.out) | (with_reducible refine Kd.C_alloc ?_ _) | (with_reducible refine Kd.C_drewN ?_ _) | (with_reducible refine Kd.C_drew ?_))); (case aB => exact (by repeat (first | (with_reducible first | exact HB.out | apply below_alloc | apply pw_below_drewN | apply below_drew1 | refine below_set ?_ GE445.out) | exact HB.out))); (case aF => exact (fun _ _ => trivial)); (case aO => exact ((Kd.R_nil _ _ _ _ (fun _ => True)))); (case aS => exact (below_size (by repeat (first | (with_reducible first | exact HB.out | apply below_alloc | apply pw_below_drewN | apply below_drew1 | refine below_set ?_ GE445.out) | exact HB.out)))); (case aL => have := LMc20.out; omega); intro v451 w46 ho hb hg hat; rw [← Ny450.out] at ho; have n0_ := Aside0.mk (blk_grown (g := gb445) (o := .cells #[.slice A0_0 l0_0.length c0_0, .bool a0_1] 25 (0, 0)) (by (with_reducible repeat (first | refine blk_drewN ?_ _ | refine blk_drew ?_ | refine blk_alloc ?_ _)); exact BK445.out) hg (by simp [Value.ownBlock])); have n1_ := Aside0.mk (hb); have n2_ := Aside0.mk (ho); clear BK445; clear HB; have BK445 := n0_; have HB := n1_; have HO452 := n2_; clear n0_ n1_ n2_; clear ho hb hg hat; have hcz47_0 : w46.cell? ⟨gb445, 0, none⟩ = some (.slice A0_0 l0_0.length c0_0) := (blk_cell BK445.out 0).trans rfl; have hcz47_1 : w46.cell? ⟨gb445, 1, none⟩ = some (.bool a0_1) := (blk_cell BK445.out 1).trans rfl; have hfz47_0 := blk_frozen BK445.out 0; have hfz47_1 := blk_frozen BK445.out 1) | ((with_reducible refine gate_callee (f := 36) rfl ?_); refine goesL_ (some 37) rfl rfl Tryd.func36 (by kernel_rfl) rfl #[.agg #[.slice A0_0 l0_0.length c0_0, .bool a0_1], .slice A1 l1.length c1] rfl (by (try simp only [List.map_toArray, List.map_cons, List.map_nil]); first | done | rfl | (simp only [List.length_drop, List.length_take]; rfl)) ?_; (with_reducible refine (pattern_Fill.calls k2 _ _ l0_0 a0_1 (fun k_ => k_ < w.heap.size) _ _ l1 t453 t454 _ ?side1 ?side2 ?side3 A21.out).mono ?_); (case side1 => repeat (first | exact (Kd.C_below HR0_0.out HB.out) | (with_reducible refine Kd.C_alloc ?_ _) | (with_reducible refine Kd.C_drewN ?_ _) | (with_reducible refine Kd.C_drew ?_))); (case side2 => exact HC0_0.out); (case side3 => exact Kd.V_mk HC1.out (Kd.F_below (Kd.C_F Kd.heap_string HR1.out) (by repeat (first | (with_reducible first | exact HB.out | apply below_alloc | apply pw_below_drewN | apply below_drew1 | refine below_set ?_ GE445.out) | exact HB.out)))); rintro e w48 ⟨rfl, hb⟩; refine ⟨_, rfl, ?_⟩; have n0_ := Aside0.mk (Kd.R_below (by (with_reducible repeat (first | apply Kd.R_alloc | apply Kd.R_drewN | apply Kd.R_drew)); exact HO452.out) hb); have n1_ := Aside0.mk (blk_below (g := gb445) (o := .cells #[.slice A0_0 l0_0.length c0_0, .bool a0_1] 25 (0, 0)) (by (with_reducible repeat (first | refine blk_drewN ?_ _ | refine blk_drew ?_ | refine blk_alloc ?_ _)); exact BK445.out) hb); have n2_ := Aside0.mk (below_step (by repeat (first | (with_reducible first | exact HB.out | apply below_alloc | apply pw_below_drewN | apply below_drew1 | refine below_set ?_ GE445.out) | exact HB.out)) hb); clear HO452; clear BK445; clear HB; have HO452 := n0_; have BK445 := n1_; have HB := n2_; clear n0_ n1_ n2_; (try clear hb); (try clear hb2); (try clear hk); (try clear hi); have hcz49_0 : w48.cell? ⟨gb445, 0, none⟩ = some (.slice A0_0 l0_0.length c0_0) := (blk_cell BK445.out 0).trans rfl; have hcz49_1 : w48.cell? ⟨gb445, 1, none⟩ = some (.bool a0_1) := (blk_cell BK445.out 1).trans rfl; have hfz49_0 := blk_frozen BK445.out 0; have hfz49_1 := blk_frozen BK445.out 1) | ((with_reducible refine gate_callee (f := 38) rfl ?_); refine goesL_ (some 43) rfl rfl Tryd.func38 (by kernel_rfl) rfl #[.agg #[.slice A0_0 l0_0.length c0_0, .bool a0_1], .slice A1 l1.length c1] rfl (by (try simp only [List.map_toArray, List.map_cons, List.map_nil]); first | done | rfl | (simp only [List.length_drop, List.length_take]; rfl)) ?_; (with_reducible refine (stockyardref03_Fill.calls k2 _ _ l0_0 a0_1 _ _ l1 t455 t456 _ ?side1 ?side2 ?side3 ?side4 A22.out).mono ?_); (case side1 => repeat (first | exact (Kd.C_below HR0_0.out HB.out) | (with_reducible refine Kd.C_alloc ?_ _) | (with_reducible refine Kd.C_drewN ?_ _) | (with_reducible refine Kd.C_drew ?_))); (case side2 => exact HC0_0.out); (case side3 => repeat (first | exact (Kd.C_below HR1.out HB.out) | (with_reducible refine Kd.C_alloc ?_ _) | (with_reducible refine Kd.C_drewN ?_ _) | (with_reducible refine Kd.C_drew ?_))); (case side4 => exact HC1.out); rintro e w50 ⟨rfl, hb⟩; refine ⟨_, rfl, ?_⟩; have n0_ := Aside0.mk (Kd.R_below (by (with_reducible repeat (first | apply Kd.R_alloc | apply Kd.R_drewN | apply Kd.R_drew)); exact HO452.out) hb); have n1_ := Aside0.mk (blk_below (g := gb445) (o := .cells #[.slice A0_0 l0_0.length c0_0, .bool a0_1] 25 (0, 0)) (by (with_reducible repeat (first | refine blk_drewN ?_ _ | refine blk_drew ?_ | refine blk_alloc ?_ _)); exact BK445.out) hb); have n2_ := Aside0.mk (below_step (by repeat (first | (with_reducible first | exact HB.out | apply below_alloc | apply pw_below_drewN | apply below_drew1 | refine below_set ?_ GE445.out) | exact HB.out)) hb); clear HO452; clear BK445; clear HB; have HO452 := n0_; have BK445 := n1_; have HB := n2_; clear n0_ n1_ n2_; (try clear hb); (try clear hb2); (try clear hk); (try clear hi)))
                  go_ret
                  exact ⟨by first | rfl | (simp [errW_none, errW_some] <;> rfl) | (simp [*, errW_none, errW_some] <;> rfl), by repeat (first | (with_reducible first | exact HB.out | apply below_alloc | apply pw_below_drewN | apply below_drew1 | refine below_set ?_ GE445.out) | exact HB.out)⟩
              · rw [if_neg c20] at H
                exact absurd H (by simp)

end Go.Proofs.YtkakemojljeffaaDoor.P

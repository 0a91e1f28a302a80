-- Written by a program of this session (wip/gen.py) over the kit's print: each Go function as a plain Lean function, and the proof that the Go code comes to it. Nothing here is trusted: Lean checks it.
import Derived.Test.YtnfpbnnhijiflaaDoorPx0
import Derived.Test.YtnfpbnnhijiflaaDoorPx1
import Derived.Test.YtnfpbnnhijiflaaDoorPx4
import Derived.Test.YtnfpbnnhijiflaaDoorPx9
import Derived.Test.YtnfpbnnhijiflaaDoorPx11
import Derived.Test.YtnfpbnnhijiflaaDoorPx15
namespace Go.Proofs.YtnfpbnnhijiflaaDoor.P
open Go.RowKit Go.Proofs.YtnfpbnnhijiflaaDoorW.PrintWords Go.Proofs.YtnfpbnnhijiflaaDoorW.PrintLast Go.Proofs.YtnfpbnnhijiflaaDoorW.PrintMore
attribute [local go_sem] str_gtr str_leq str_geq max2_int min2_int max_two min_two max_three min_three max_four min_four   -- for this text's walks alone
set_option linter.unusedVariables false
set_option linter.unusedSimpArgs false

/-! ### stockyardlaw04_RuleMaps: function 5 -/
mutual
def stockyardlaw04_RuleMaps.j0 : Nat → ByteArray → Bool → Bool → List ByteArray → Bool → List ByteArray → Bool → Option (Bool)
  | 0, _, _, _, _, _, _, _ => none
  | k + 1, x1, x16, x436000, x436001, x436002, x436003, x436004 => if x16 = true then ((stockyardlaw04_awake.f k).bind fun t437 => (some t437)) else ((rule_Forward.f k x436000 x436001 x436002 x436003 x436004 x1).bind fun bt438 => ((stockyardref04_Forward.f k x436000 x436001 x436002 x436003 x436004 x1).bind fun bt440 => (if bt438.1.toList = bt440.1.toList then (stockyardlaw04_RuleMaps.j1 k x1 (bt438.2 != bt440.2) x436000 x436001 x436002 x436003 x436004) else (stockyardlaw04_RuleMaps.j1 k x1 true x436000 x436001 x436002 x436003 x436004))))
def stockyardlaw04_RuleMaps.j1 : Nat → ByteArray → Bool → Bool → List ByteArray → Bool → List ByteArray → Bool → Option (Bool)
  | 0, _, _, _, _, _, _, _ => none
  | k + 1, x1, x37, x436000, x436001, x436002, x436003, x436004 => if x37 = true then (some false) else ((rule_Backward.f k x436000 x436001 x436002 x436003 x436004 x1).bind fun bt442 => ((stockyardref04_Turn.f x436000 x436001 x436002 x436003 x436004).bind fun bt444 => ((stockyardref04_Forward.f k bt444.1 bt444.2.1 bt444.2.2.1 bt444.2.2.2.1 bt444.2.2.2.2 x1).bind fun bt453 => (if bt442.1.toList = bt453.1.toList then (if (bt442.2 == bt453.2) = true then ((stockyardlaw04_awake.f k).bind fun t455 => (some t455)) else (some false)) else (some false)))))
end
def stockyardlaw04_RuleMaps.f (k : Nat) (a0_0 : Bool) (l0_1 : List ByteArray) (a0_2 : Bool) (l0_3 : List ByteArray) (a0_4 : Bool) (a1 : ByteArray) : Option (Bool) := (stockyardlaw04_fit.f k a0_0 l0_1 a0_2 l0_3 a0_4).bind fun t436 => (if t436 = true then (stockyardlaw04_RuleMaps.j0 k a1 (decide ((a1.size : Int) > 300)) a0_0 l0_1 a0_2 l0_3 a0_4) else (stockyardlaw04_RuleMaps.j0 k a1 true a0_0 l0_1 a0_2 l0_3 a0_4))
theorem stockyardlaw04_RuleMaps.mono_l : ∀ k, (∀ y0 y1 y2 y3 y4 y5 y6, LeO (stockyardlaw04_RuleMaps.j0 k y0 y1 y2 y3 y4 y5 y6) (stockyardlaw04_RuleMaps.j0 (k + 1) y0 y1 y2 y3 y4 y5 y6)) ∧ (∀ y0 y1 y2 y3 y4 y5 y6, LeO (stockyardlaw04_RuleMaps.j1 k y0 y1 y2 y3 y4 y5 y6) (stockyardlaw04_RuleMaps.j1 (k + 1) y0 y1 y2 y3 y4 y5 y6))
  | 0 => ⟨fun _ _ _ _ _ _ _ r h => by simp [stockyardlaw04_RuleMaps.j0] at h, fun _ _ _ _ _ _ _ r h => by simp [stockyardlaw04_RuleMaps.j1] at h⟩
  | k + 1 => by
    obtain ⟨ih0, ih1⟩ := stockyardlaw04_RuleMaps.mono_l k
    refine ⟨?_, ?_⟩
    · intro y0 y1 y2 y3 y4 y5 y6
      unfold stockyardlaw04_RuleMaps.j0
      repeat' first
      | (with_reducible exact ih0 _ _ _ _ _ _ _)
      | (with_reducible exact ih1 _ _ _ _ _ _ _)
      | (with_reducible exact rule_Backward.mono _ _ _ _ _ _ _)
      | (with_reducible exact rule_Forward.mono _ _ _ _ _ _ _)
      | (with_reducible exact stockyardlaw04_awake.mono _)
      | (with_reducible exact stockyardlaw04_fit.mono _ _ _ _ _ _)
      | (with_reducible exact stockyardref04_Forward.mono _ _ _ _ _ _ _)
      | (with_reducible exact LeO.refl _)
      | (with_reducible exact LeO.none _)
      | (with_reducible refine LeO.ite ?_ ?_)
      | (with_reducible refine LeO.bind ?_ (fun _ => ?_))
      | exact ih0 _ _ _ _ _ _ _
      | exact ih1 _ _ _ _ _ _ _
      | exact rule_Backward.mono _ _ _ _ _ _ _
      | exact rule_Forward.mono _ _ _ _ _ _ _
      | exact stockyardlaw04_awake.mono _
      | exact stockyardlaw04_fit.mono _ _ _ _ _ _
      | exact stockyardref04_Forward.mono _ _ _ _ _ _ _
      | exact LeO.none _
      | refine LeO.ite ?_ ?_
      | refine LeO.bind ?_ (fun _ => ?_)
    · intro y0 y1 y2 y3 y4 y5 y6
      unfold stockyardlaw04_RuleMaps.j1
      repeat' first
      | (with_reducible exact ih0 _ _ _ _ _ _ _)
      | (with_reducible exact ih1 _ _ _ _ _ _ _)
      | (with_reducible exact rule_Backward.mono _ _ _ _ _ _ _)
      | (with_reducible exact rule_Forward.mono _ _ _ _ _ _ _)
      | (with_reducible exact stockyardlaw04_awake.mono _)
      | (with_reducible exact stockyardlaw04_fit.mono _ _ _ _ _ _)
      | (with_reducible exact stockyardref04_Forward.mono _ _ _ _ _ _ _)
      | (with_reducible exact LeO.refl _)
      | (with_reducible exact LeO.none _)
      | (with_reducible refine LeO.ite ?_ ?_)
      | (with_reducible refine LeO.bind ?_ (fun _ => ?_))
      | exact ih0 _ _ _ _ _ _ _
      | exact ih1 _ _ _ _ _ _ _
      | exact rule_Backward.mono _ _ _ _ _ _ _
      | exact rule_Forward.mono _ _ _ _ _ _ _
      | exact stockyardlaw04_awake.mono _
      | exact stockyardlaw04_fit.mono _ _ _ _ _ _
      | exact stockyardref04_Forward.mono _ _ _ _ _ _ _
      | exact LeO.none _
      | refine LeO.ite ?_ ?_
      | refine LeO.bind ?_ (fun _ => ?_)
theorem stockyardlaw04_RuleMaps.mono : ∀ a0 a1 a2 a3 a4 a5 k, LeO (stockyardlaw04_RuleMaps.f k a0 a1 a2 a3 a4 a5) (stockyardlaw04_RuleMaps.f (k + 1) a0 a1 a2 a3 a4 a5) := by
  intro a0 a1 a2 a3 a4 a5 k
  obtain ⟨ih0, ih1⟩ := stockyardlaw04_RuleMaps.mono_l k
  unfold stockyardlaw04_RuleMaps.f
  repeat' first
      | (with_reducible exact ih0 _ _ _ _ _ _ _)
      | (with_reducible exact ih1 _ _ _ _ _ _ _)
      | (with_reducible exact rule_Backward.mono _ _ _ _ _ _ _)
      | (with_reducible exact rule_Forward.mono _ _ _ _ _ _ _)
      | (with_reducible exact stockyardlaw04_awake.mono _)
      | (with_reducible exact stockyardlaw04_fit.mono _ _ _ _ _ _)
      | (with_reducible exact stockyardref04_Forward.mono _ _ _ _ _ _ _)
      | (with_reducible exact LeO.refl _)
      | (with_reducible exact LeO.none _)
      | (with_reducible refine LeO.ite ?_ ?_)
      | (with_reducible refine LeO.bind ?_ (fun _ => ?_))
      | exact ih0 _ _ _ _ _ _ _
      | exact ih1 _ _ _ _ _ _ _
      | exact rule_Backward.mono _ _ _ _ _ _ _
      | exact rule_Forward.mono _ _ _ _ _ _ _
      | exact stockyardlaw04_awake.mono _
      | exact stockyardlaw04_fit.mono _ _ _ _ _ _
      | exact stockyardref04_Forward.mono _ _ _ _ _ _ _
      | exact LeO.none _
      | refine LeO.ite ?_ ?_
      | refine LeO.bind ?_ (fun _ => ?_)
set_option maxHeartbeats 8000000 in
set_option maxRecDepth 100000 in
theorem stockyardlaw04_RuleMaps.calls (k : Nat) (a0_0 : Bool) (A0_1 : Option Addr) (c0_1 : Nat) (l0_1 : List ByteArray) (a0_2 : Bool) (A0_3 : Option Addr) (c0_3 : Nat) (l0_3 : List ByteArray) (a0_4 : Bool) (a1 : ByteArray) (r : Bool) (w : World) (hr0_1 : Kd.C Kd.string w A0_1 l0_1.length l0_1) (hc0_1 : l0_1.length ≤ c0_1) (hr0_3 : Kd.C Kd.string w A0_3 l0_3.length l0_3) (hc0_3 : l0_3.length ≤ c0_3) (h : stockyardlaw04_RuleMaps.f k a0_0 l0_1 a0_2 l0_3 a0_4 a1 = some r) :
    Calls Tryd.prog 5 #[.agg #[.bool a0_0, .slice A0_1 l0_1.length c0_1, .bool a0_2, .slice A0_3 l0_3.length c0_3, .bool a0_4], .string a1] w fun e w' => e = .returned (.bool r) ∧ Below w.heap.size w w' := by
  have hu26 := Tryd.underlying26
  have HR0_1 := Aside0.mk hr0_1
  have HC0_1 := Aside0.mk hc0_1
  clear hr0_1 hc0_1
  have HR0_3 := Aside0.mk hr0_3
  have HC0_3 := Aside0.mk hc0_3
  clear hr0_3 hc0_3
  have HB := Aside0.mk (Below.refl w.heap.size w)
  have H : ((stockyardlaw04_fit.f k a0_0 l0_1 a0_2 l0_3 a0_4).bind fun t436 => (if t436 = true then (stockyardlaw04_RuleMaps.j0 k a1 (decide ((a1.size : Int) > 300)) a0_0 l0_1 a0_2 l0_3 a0_4) else (stockyardlaw04_RuleMaps.j0 k a1 true a0_0 l0_1 a0_2 l0_3 a0_4))) = some r := h
  clear h
  have HC3 := Aside0.mk H
  clear H
  go_enter Tryd.func5, Tryd.ntmps5
  go_upto_region 1 with (first | ((with_reducible refine gate_dst (N := 2) rfl ?_); (try (refine gate_guard (by rfl) ?_; dsimp only)); refine box_event ?hg (N := 2) ?hd (cs := #[.bool a0_0, .slice A0_1 l0_1.length c0_1, .bool a0_2, .slice A0_3 l0_3.length c0_3, .bool a0_4]) (t := 26) ?hr ?_; (case hd => rfl); (case hg => rfl); (case hr => first | (go_simp; done) | (go_simp; rfl)); intro gb435 hg w4 hbox hb; have n0_ := Aside0.mk (below_step (by repeat (first | (with_reducible first | exact HB.out | apply below_alloc | apply pw_below_drewN | apply below_drew1) | exact HB.out)) hb); have n1_ := Aside0.mk (hbox); have n2_ := Aside0.mk ((by rw [hg]; exact (below_size (by repeat (first | (with_reducible first | exact HB.out | apply below_alloc | apply pw_below_drewN | apply below_drew1) | exact HB.out))) : w.heap.size ≤ gb435)); have n3_ := Aside0.mk ((by rw [hg]; exact (below_size (by repeat (first | (with_reducible first | exact HB.out | apply below_alloc | apply pw_below_drewN | apply below_drew1) | exact HB.out))) : w.heap.size ≤ gb435)); clear HB; have HB := n0_; have BK435 := n1_; have GW435 := n2_; have GE435 := n3_; clear n0_ n1_ n2_ n3_; clear hb hbox hg))
  (try simp only [Act.put, List.setIfInBounds_toArray, List.set_cons_zero, List.set_cons_succ])
  go_cut [16] (fun v16 wc => ∃ (kq : Nat) (x16_2 : Bool), v16 = .bool x16_2 ∧ Aside0 (stockyardlaw04_RuleMaps.j0 kq a1 x16_2 a0_0 l0_1 a0_2 l0_3 a0_4 = some r) ∧ Aside0 (kq ≤ k) ∧ Aside0 (wc.heap[gb435]? = some (.cells #[.bool a0_0, (.slice A0_1 l0_1.length c0_1), .bool a0_2, (.slice A0_3 l0_3.length c0_3), .bool a0_4] 26 (0, 0))) ∧ Aside0 (Below w.heap.size w wc))
  case first =>
    have H := HC3.out
    clear HC3
    replace H := Option.bind_eq_some_iff.mp H
    obtain ⟨t436, A50, H⟩ := H
    replace H : (if t436 = true then (stockyardlaw04_RuleMaps.j0 k a1 (decide ((a1.size : Int) > 300)) a0_0 l0_1 a0_2 l0_3 a0_4) else (stockyardlaw04_RuleMaps.j0 k a1 true a0_0 l0_1 a0_2 l0_3 a0_4)) = some r := H
    have A5 := Aside0.mk A50
    clear A50
    by_cases c6 : t436 = true
    · subst c6
      have H1 : (stockyardlaw04_RuleMaps.j0 k a1 (decide ((a1.size : Int) > 300)) a0_0 l0_1 a0_2 l0_3 a0_4) = some r := by rw [if_pos rfl] at H; exact H
      clear H
      have H := H1
      clear H1
      have H' := Aside0.mk H
      clear H
      have hcz7_0 : w4.cell? ⟨gb435, 0, none⟩ = some (.bool a0_0) := (blk_cell BK435.out 0).trans rfl
      have hcz7_1 : w4.cell? ⟨gb435, 1, none⟩ = some (.slice A0_1 l0_1.length c0_1) := (blk_cell BK435.out 1).trans rfl
      have hcz7_2 : w4.cell? ⟨gb435, 2, none⟩ = some (.bool a0_2) := (blk_cell BK435.out 2).trans rfl
      have hcz7_3 : w4.cell? ⟨gb435, 3, none⟩ = some (.slice A0_3 l0_3.length c0_3) := (blk_cell BK435.out 3).trans rfl
      have hcz7_4 : w4.cell? ⟨gb435, 4, none⟩ = some (.bool a0_4) := (blk_cell BK435.out 4).trans rfl
      have hfz7_0 := blk_frozen BK435.out 0
      have hfz7_1 := blk_frozen BK435.out 1
      have hfz7_2 := blk_frozen BK435.out 2
      have hfz7_3 := blk_frozen BK435.out 3
      have hfz7_4 := blk_frozen BK435.out 4
      go_wp2_with (first | ((with_reducible refine gate_callee (f := 6) rfl ?_); refine goesL_ (some 10) rfl rfl Tryd.func6 (by kernel_rfl) rfl #[.agg #[.bool a0_0, .slice A0_1 l0_1.length c0_1, .bool a0_2, .slice A0_3 l0_3.length c0_3, .bool a0_4]] rfl (by (try simp only [List.map_toArray, List.map_cons, List.map_nil]); first | done | rfl | (simp only [List.length_drop, List.length_take]; rfl)) ?_; (with_reducible refine (stockyardlaw04_fit.calls k a0_0 _ _ l0_1 a0_2 _ _ l0_3 a0_4 true _ ?side1 ?side2 ?side3 ?side4 A5.out).mono ?_); (case side1 => repeat (first | exact (Kd.C_below HR0_1.out HB.out) | (with_reducible refine Kd.C_alloc ?_ _) | (with_reducible refine Kd.C_drewN ?_ _) | (with_reducible refine Kd.C_drew ?_))); (case side2 => exact HC0_1.out); (case side3 => repeat (first | exact (Kd.C_below HR0_3.out HB.out) | (with_reducible refine Kd.C_alloc ?_ _) | (with_reducible refine Kd.C_drewN ?_ _) | (with_reducible refine Kd.C_drew ?_))); (case side4 => exact HC0_3.out); rintro e w8 ⟨rfl, hb⟩; refine ⟨_, rfl, ?_⟩; have n0_ := Aside0.mk (blk_below (g := gb435) (o := .cells #[.bool a0_0, .slice A0_1 l0_1.length c0_1, .bool a0_2, .slice A0_3 l0_3.length c0_3, .bool a0_4] 26 (0, 0)) (by (with_reducible repeat (first | refine blk_drewN ?_ _ | refine blk_drew ?_ | refine blk_alloc ?_ _)); exact BK435.out) hb); have n1_ := Aside0.mk (below_step (by repeat (first | (with_reducible first | exact HB.out | apply below_alloc | apply pw_below_drewN | apply below_drew1 | refine below_set ?_ GE435.out) | exact HB.out)) hb); clear BK435; clear HB; have BK435 := n0_; have HB := n1_; clear n0_ n1_; (try clear hb); (try clear hb2); (try clear hk); (try clear hi)))
      go_meet
      case rel => exact ⟨_, (decide ((a1.size : Int) > 300)), (by first | rfl | (simp; done) | (simp [*]; done)), H', ⟨by first | omega | exact Nat.le_refl _⟩, ⟨by (with_reducible repeat (first | refine blk_drewN ?_ _ | refine blk_drew ?_ | refine blk_alloc ?_ _)); exact BK435.out⟩, ⟨by repeat (first | (with_reducible first | exact HB.out | apply below_alloc | apply pw_below_drewN | apply below_drew1 | refine below_set ?_ GE435.out) | exact HB.out)⟩⟩
    · replace c6 := Bool.eq_false_iff.mpr c6
      subst c6
      have H1 : (stockyardlaw04_RuleMaps.j0 k a1 true a0_0 l0_1 a0_2 l0_3 a0_4) = some r := by rw [if_neg (show ¬ (false = true) by decide)] at H; exact H
      clear H
      have H := H1
      clear H1
      have H' := Aside0.mk H
      clear H
      have hcz9_0 : w4.cell? ⟨gb435, 0, none⟩ = some (.bool a0_0) := (blk_cell BK435.out 0).trans rfl
      have hcz9_1 : w4.cell? ⟨gb435, 1, none⟩ = some (.slice A0_1 l0_1.length c0_1) := (blk_cell BK435.out 1).trans rfl
      have hcz9_2 : w4.cell? ⟨gb435, 2, none⟩ = some (.bool a0_2) := (blk_cell BK435.out 2).trans rfl
      have hcz9_3 : w4.cell? ⟨gb435, 3, none⟩ = some (.slice A0_3 l0_3.length c0_3) := (blk_cell BK435.out 3).trans rfl
      have hcz9_4 : w4.cell? ⟨gb435, 4, none⟩ = some (.bool a0_4) := (blk_cell BK435.out 4).trans rfl
      have hfz9_0 := blk_frozen BK435.out 0
      have hfz9_1 := blk_frozen BK435.out 1
      have hfz9_2 := blk_frozen BK435.out 2
      have hfz9_3 := blk_frozen BK435.out 3
      have hfz9_4 := blk_frozen BK435.out 4
      go_wp2_with (first | ((with_reducible refine gate_callee (f := 6) rfl ?_); refine goesL_ (some 10) rfl rfl Tryd.func6 (by kernel_rfl) rfl #[.agg #[.bool a0_0, .slice A0_1 l0_1.length c0_1, .bool a0_2, .slice A0_3 l0_3.length c0_3, .bool a0_4]] rfl (by (try simp only [List.map_toArray, List.map_cons, List.map_nil]); first | done | rfl | (simp only [List.length_drop, List.length_take]; rfl)) ?_; (with_reducible refine (stockyardlaw04_fit.calls k a0_0 _ _ l0_1 a0_2 _ _ l0_3 a0_4 false _ ?side1 ?side2 ?side3 ?side4 A5.out).mono ?_); (case side1 => repeat (first | exact (Kd.C_below HR0_1.out HB.out) | (with_reducible refine Kd.C_alloc ?_ _) | (with_reducible refine Kd.C_drewN ?_ _) | (with_reducible refine Kd.C_drew ?_))); (case side2 => exact HC0_1.out); (case side3 => repeat (first | exact (Kd.C_below HR0_3.out HB.out) | (with_reducible refine Kd.C_alloc ?_ _) | (with_reducible refine Kd.C_drewN ?_ _) | (with_reducible refine Kd.C_drew ?_))); (case side4 => exact HC0_3.out); rintro e w10 ⟨rfl, hb⟩; refine ⟨_, rfl, ?_⟩; have n0_ := Aside0.mk (blk_below (g := gb435) (o := .cells #[.bool a0_0, .slice A0_1 l0_1.length c0_1, .bool a0_2, .slice A0_3 l0_3.length c0_3, .bool a0_4] 26 (0, 0)) (by (with_reducible repeat (first | refine blk_drewN ?_ _ | refine blk_drew ?_ | refine blk_alloc ?_ _)); exact BK435.out) hb); have n1_ := Aside0.mk (below_step (by repeat (first | (with_reducible first | exact HB.out | apply below_alloc | apply pw_below_drewN | apply below_drew1 | refine below_set ?_ GE435.out) | exact HB.out)) hb); clear BK435; clear HB; have BK435 := n0_; have HB := n1_; clear n0_ n1_; (try clear hb); (try clear hb2); (try clear hk); (try clear hi)))
      go_meet
      case rel => exact ⟨_, (true), (by first | rfl | (simp; done) | (simp [*]; done)), H', ⟨by first | omega | exact Nat.le_refl _⟩, ⟨by (with_reducible repeat (first | refine blk_drewN ?_ _ | refine blk_drew ?_ | refine blk_alloc ?_ _)); exact BK435.out⟩, ⟨by repeat (first | (with_reducible first | exact HB.out | apply below_alloc | apply pw_below_drewN | apply below_drew1 | refine below_set ?_ GE435.out) | exact HB.out)⟩⟩
  case rest =>
    clear HC3
    try clear p2
    try clear c5
    try clear c6
    try clear hcz7_0
    try clear hcz7_1
    try clear hcz7_2
    try clear hcz7_3
    try clear hcz7_4
    try clear hcz9_0
    try clear hcz9_1
    try clear hcz9_2
    try clear hcz9_3
    try clear hcz9_4
    try clear hfz7_0
    try clear hfz7_1
    try clear hfz7_2
    try clear hfz7_3
    try clear hfz7_4
    try clear hfz9_0
    try clear hfz9_1
    try clear hfz9_2
    try clear hfz9_3
    try clear hfz9_4
    obtain ⟨kq, x16_2, rfl, HA, HJ2, BK435, HB⟩ := hcut
    cases kq with
    | zero => exact absurd HA.out (by simp [stockyardlaw04_RuleMaps.j0])
    | succ kj2 =>
      have H := HA.out
      clear HA
      simp only [stockyardlaw04_RuleMaps.j0] at H
      by_cases c11 : x16_2 = true
      · subst c11
        have H1 : ((stockyardlaw04_awake.f kj2).bind fun t437 => (some t437)) = some r := by rw [if_pos rfl] at H; exact H
        clear H
        have H := H1
        clear H1
        replace H := Option.bind_eq_some_iff.mp H
        obtain ⟨t437, A120, H⟩ := H
        replace H : (some t437) = some r := H
        have A12 := Aside0.mk A120
        clear A120
        obtain rfl := Option.some.inj H
        go_wp2_with (first | ((with_reducible refine gate_callee (f := 7) rfl ?_); refine goesL_ (some 17) rfl rfl Tryd.func7 (by kernel_rfl) rfl #[] rfl (by (try simp only [List.map_toArray, List.map_cons, List.map_nil]); first | done | rfl | (simp only [List.length_drop, List.length_take]; rfl)) ?_; (with_reducible refine (stockyardlaw04_awake.calls kj2  t437 _ A12.out).mono ?_); rintro e w13 ⟨rfl, hb⟩; refine ⟨_, rfl, ?_⟩; have n0_ := Aside0.mk (blk_below (g := gb435) (o := .cells #[.bool a0_0, .slice A0_1 l0_1.length c0_1, .bool a0_2, .slice A0_3 l0_3.length c0_3, .bool a0_4] 26 (0, 0)) (by (with_reducible repeat (first | refine blk_drewN ?_ _ | refine blk_drew ?_ | refine blk_alloc ?_ _)); exact BK435.out) hb); have n1_ := Aside0.mk (below_step (by repeat (first | (with_reducible first | exact HB.out | apply below_alloc | apply pw_below_drewN | apply below_drew1 | refine below_set ?_ GE435.out) | exact HB.out)) hb); clear BK435; clear HB; have BK435 := n0_; have HB := n1_; clear n0_ n1_; (try clear hb); (try clear hb2); (try clear hk); (try clear hi)))
        go_ret
        exact ⟨by first | rfl | (simp [errW_none, errW_some] <;> rfl) | (simp [*, errW_none, errW_some] <;> rfl), by repeat (first | (with_reducible first | exact HB.out | apply below_alloc | apply pw_below_drewN | apply below_drew1 | refine below_set ?_ GE435.out) | exact HB.out)⟩
      · replace c11 := Bool.eq_false_iff.mpr c11
        subst c11
        have H1 : ((rule_Forward.f kj2 a0_0 l0_1 a0_2 l0_3 a0_4 a1).bind fun bt438 => ((stockyardref04_Forward.f kj2 a0_0 l0_1 a0_2 l0_3 a0_4 a1).bind fun bt440 => (if bt438.1.toList = bt440.1.toList then (stockyardlaw04_RuleMaps.j1 kj2 a1 (bt438.2 != bt440.2) a0_0 l0_1 a0_2 l0_3 a0_4) else (stockyardlaw04_RuleMaps.j1 kj2 a1 true a0_0 l0_1 a0_2 l0_3 a0_4)))) = some r := by rw [if_neg (show ¬ (false = true) by decide)] at H; exact H
        clear H
        have H := H1
        clear H1
        replace H := Option.bind_eq_some_iff.mp H
        obtain ⟨⟨t438, t439⟩, A140, H⟩ := H
        replace H : ((stockyardref04_Forward.f kj2 a0_0 l0_1 a0_2 l0_3 a0_4 a1).bind fun bt440 => (if t438.toList = bt440.1.toList then (stockyardlaw04_RuleMaps.j1 kj2 a1 (t439 != bt440.2) a0_0 l0_1 a0_2 l0_3 a0_4) else (stockyardlaw04_RuleMaps.j1 kj2 a1 true a0_0 l0_1 a0_2 l0_3 a0_4))) = some r := H
        have A14 := Aside0.mk A140
        clear A140
        replace H := Option.bind_eq_some_iff.mp H
        obtain ⟨⟨t440, t441⟩, A150, H⟩ := H
        replace H : (if t438.toList = t440.toList then (stockyardlaw04_RuleMaps.j1 kj2 a1 (t439 != t441) a0_0 l0_1 a0_2 l0_3 a0_4) else (stockyardlaw04_RuleMaps.j1 kj2 a1 true a0_0 l0_1 a0_2 l0_3 a0_4)) = some r := H
        have A15 := Aside0.mk A150
        clear A150
        have HC16 := Aside0.mk H
        clear H
        have hcz17_0 : wc.cell? ⟨gb435, 0, none⟩ = some (.bool a0_0) := (blk_cell BK435.out 0).trans rfl
        have hcz17_1 : wc.cell? ⟨gb435, 1, none⟩ = some (.slice A0_1 l0_1.length c0_1) := (blk_cell BK435.out 1).trans rfl
        have hcz17_2 : wc.cell? ⟨gb435, 2, none⟩ = some (.bool a0_2) := (blk_cell BK435.out 2).trans rfl
        have hcz17_3 : wc.cell? ⟨gb435, 3, none⟩ = some (.slice A0_3 l0_3.length c0_3) := (blk_cell BK435.out 3).trans rfl
        have hcz17_4 : wc.cell? ⟨gb435, 4, none⟩ = some (.bool a0_4) := (blk_cell BK435.out 4).trans rfl
        have hfz17_0 := blk_frozen BK435.out 0
        have hfz17_1 := blk_frozen BK435.out 1
        have hfz17_2 := blk_frozen BK435.out 2
        have hfz17_3 := blk_frozen BK435.out 3
        have hfz17_4 := blk_frozen BK435.out 4
        go_upto_region 5 with (first | ((with_reducible refine gate_callee (f := 13) rfl ?_); refine goesL_ (some 21) rfl rfl Tryd.func13 (by kernel_rfl) rfl #[.agg #[.bool a0_0, .slice A0_1 l0_1.length c0_1, .bool a0_2, .slice A0_3 l0_3.length c0_3, .bool a0_4], .string a1] rfl (by (try simp only [List.map_toArray, List.map_cons, List.map_nil]); first | done | rfl | (simp only [List.length_drop, List.length_take]; rfl)) ?_; (with_reducible refine (rule_Forward.calls kj2 a0_0 _ _ l0_1 a0_2 _ _ l0_3 a0_4 a1 t438 t439 _ ?side1 ?side2 ?side3 ?side4 A14.out).mono ?_); (case side1 => repeat (first | exact (Kd.C_below HR0_1.out HB.out) | (with_reducible refine Kd.C_alloc ?_ _) | (with_reducible refine Kd.C_drewN ?_ _) | (with_reducible refine Kd.C_drew ?_))); (case side2 => exact HC0_1.out); (case side3 => repeat (first | exact (Kd.C_below HR0_3.out HB.out) | (with_reducible refine Kd.C_alloc ?_ _) | (with_reducible refine Kd.C_drewN ?_ _) | (with_reducible refine Kd.C_drew ?_))); (case side4 => exact HC0_3.out); rintro e w18 ⟨rfl, hb⟩; refine ⟨_, rfl, ?_⟩; have n0_ := Aside0.mk (blk_below (g := gb435) (o := .cells #[.bool a0_0, .slice A0_1 l0_1.length c0_1, .bool a0_2, .slice A0_3 l0_3.length c0_3, .bool a0_4] 26 (0, 0)) (by (with_reducible repeat (first | refine blk_drewN ?_ _ | refine blk_drew ?_ | refine blk_alloc ?_ _)); exact BK435.out) hb); have n1_ := Aside0.mk (below_step (by repeat (first | (with_reducible first | exact HB.out | apply below_alloc | apply pw_below_drewN | apply below_drew1 | refine below_set ?_ GE435.out) | exact HB.out)) hb); clear BK435; clear HB; have BK435 := n0_; have HB := n1_; clear n0_ n1_; (try clear hb); (try clear hb2); (try clear hk); (try clear hi); have hcz19_0 : w18.cell? ⟨gb435, 0, none⟩ = some (.bool a0_0) := (blk_cell BK435.out 0).trans rfl; have hcz19_1 : w18.cell? ⟨gb435, 1, none⟩ = some (.slice A0_1 l0_1.length c0_1) := (blk_cell BK435.out 1).trans rfl; have hcz19_2 : w18.cell? ⟨gb435, 2, none⟩ = some (.bool a0_2) := (blk_cell BK435.out 2).trans rfl; have hcz19_3 : w18.cell? ⟨gb435, 3, none⟩ = some (.slice A0_3 l0_3.length c0_3) := (blk_cell BK435.out 3).trans rfl; have hcz19_4 : w18.cell? ⟨gb435, 4, none⟩ = some (.bool a0_4) := (blk_cell BK435.out 4).trans rfl; have hfz19_0 := blk_frozen BK435.out 0; have hfz19_1 := blk_frozen BK435.out 1; have hfz19_2 := blk_frozen BK435.out 2; have hfz19_3 := blk_frozen BK435.out 3; have hfz19_4 := blk_frozen BK435.out 4) | ((with_reducible refine gate_callee (f := 15) rfl ?_); refine goesL_ (some 27) rfl rfl Tryd.func15 (by kernel_rfl) rfl #[.agg #[.bool a0_0, .slice A0_1 l0_1.length c0_1, .bool a0_2, .slice A0_3 l0_3.length c0_3, .bool a0_4], .string a1] rfl (by (try simp only [List.map_toArray, List.map_cons, List.map_nil]); first | done | rfl | (simp only [List.length_drop, List.length_take]; rfl)) ?_; (with_reducible refine (stockyardref04_Forward.calls kj2 a0_0 _ _ l0_1 a0_2 _ _ l0_3 a0_4 a1 t440 t441 _ ?side1 ?side2 ?side3 ?side4 A15.out).mono ?_); (case side1 => repeat (first | exact (Kd.C_below HR0_1.out HB.out) | (with_reducible refine Kd.C_alloc ?_ _) | (with_reducible refine Kd.C_drewN ?_ _) | (with_reducible refine Kd.C_drew ?_))); (case side2 => exact HC0_1.out); (case side3 => repeat (first | exact (Kd.C_below HR0_3.out HB.out) | (with_reducible refine Kd.C_alloc ?_ _) | (with_reducible refine Kd.C_drewN ?_ _) | (with_reducible refine Kd.C_drew ?_))); (case side4 => exact HC0_3.out); rintro e w20 ⟨rfl, hb⟩; refine ⟨_, rfl, ?_⟩; have n0_ := Aside0.mk (blk_below (g := gb435) (o := .cells #[.bool a0_0, .slice A0_1 l0_1.length c0_1, .bool a0_2, .slice A0_3 l0_3.length c0_3, .bool a0_4] 26 (0, 0)) (by (with_reducible repeat (first | refine blk_drewN ?_ _ | refine blk_drew ?_ | refine blk_alloc ?_ _)); exact BK435.out) hb); have n1_ := Aside0.mk (below_step (by repeat (first | (with_reducible first | exact HB.out | apply below_alloc | apply pw_below_drewN | apply below_drew1 | refine below_set ?_ GE435.out) | exact HB.out)) hb); clear BK435; clear HB; have BK435 := n0_; have HB := n1_; clear n0_ n1_; (try clear hb); (try clear hb2); (try clear hk); (try clear hi)))
        (try simp only [Act.put, List.setIfInBounds_toArray, List.set_cons_zero, List.set_cons_succ])
        go_cut [37] (fun v37 wc => ∃ (kq : Nat) (x37_15 : Bool), v37 = .bool x37_15 ∧ Aside0 (stockyardlaw04_RuleMaps.j1 kq a1 x37_15 a0_0 l0_1 a0_2 l0_3 a0_4 = some r) ∧ Aside0 (kq ≤ kj2) ∧ Aside0 (wc.heap[gb435]? = some (.cells #[.bool a0_0, (.slice A0_1 l0_1.length c0_1), .bool a0_2, (.slice A0_3 l0_3.length c0_3), .bool a0_4] 26 (0, 0))) ∧ Aside0 (Below w.heap.size w wc))
        case first =>
          have H := HC16.out
          clear HC16
          by_cases c21 : t438.toList = t440.toList
          · rw [if_pos c21] at H
            have c21b0 : (t438.toList == t440.toList) = true := beq_iff_eq.mpr c21
            have c21b1 : (t438.toList != t440.toList) = false := bne_eq_false_iff_eq.mpr c21
            clear c21
            (first | rw [c21b0] | (simp only [i64_w, i32_w]; rw [c21b0]) | skip)
            have H' := Aside0.mk H
            clear H
            go_wp2
            go_meet
            case rel => exact ⟨_, ((t439 != t441)), (by first | rfl | (simp; done) | (simp [*]; done)), H', ⟨by have := HJ2.out; first | omega | exact Nat.le_refl _⟩, ⟨by (with_reducible repeat (first | refine blk_drewN ?_ _ | refine blk_drew ?_ | refine blk_alloc ?_ _)); exact BK435.out⟩, ⟨by repeat (first | (with_reducible first | exact HB.out | apply below_alloc | apply pw_below_drewN | apply below_drew1 | refine below_set ?_ GE435.out) | exact HB.out)⟩⟩
          · rw [if_neg c21] at H
            have c21b0 : (t438.toList == t440.toList) = false := beq_eq_false_iff_ne.mpr c21
            have c21b1 : (t438.toList != t440.toList) = true := bne_iff_ne.mpr c21
            (first | rw [c21b0] | (simp only [i64_w, i32_w]; rw [c21b0]) | skip)
            have H' := Aside0.mk H
            clear H
            go_wp2
            go_meet
            case rel => exact ⟨_, (true), (by first | rfl | (simp; done) | (simp [*]; done)), H', ⟨by have := HJ2.out; first | omega | exact Nat.le_refl _⟩, ⟨by (with_reducible repeat (first | refine blk_drewN ?_ _ | refine blk_drew ?_ | refine blk_alloc ?_ _)); exact BK435.out⟩, ⟨by repeat (first | (with_reducible first | exact HB.out | apply below_alloc | apply pw_below_drewN | apply below_drew1 | refine below_set ?_ GE435.out) | exact HB.out)⟩⟩
        case rest =>
          clear HC16
          try clear c1
          try clear c2
          try clear p2
          try clear c5
          try clear c6
          try clear c7
          try clear c11
          try clear c13
          try clear c15
          try clear c21
          try clear c21b0
          try clear c21b1
          try clear hcz17_0
          try clear hcz17_1
          try clear hcz17_2
          try clear hcz17_3
          try clear hcz17_4
          try clear hcz19_0
          try clear hcz19_1
          try clear hcz19_2
          try clear hcz19_3
          try clear hcz19_4
          try clear hcz7_0
          try clear hcz7_1
          try clear hcz7_2
          try clear hcz7_3
          try clear hcz7_4
          try clear hcz9_0
          try clear hcz9_1
          try clear hcz9_2
          try clear hcz9_3
          try clear hcz9_4
          try clear hfz17_0
          try clear hfz17_1
          try clear hfz17_2
          try clear hfz17_3
          try clear hfz17_4
          try clear hfz19_0
          try clear hfz19_1
          try clear hfz19_2
          try clear hfz19_3
          try clear hfz19_4
          try clear hfz7_0
          try clear hfz7_1
          try clear hfz7_2
          try clear hfz7_3
          try clear hfz7_4
          try clear hfz9_0
          try clear hfz9_1
          try clear hfz9_2
          try clear hfz9_3
          try clear hfz9_4
          try clear p2
          obtain ⟨kq, x37_15, rfl, HA, HJ15, BK435, HB⟩ := hcut
          cases kq with
          | zero => exact absurd HA.out (by simp [stockyardlaw04_RuleMaps.j1])
          | succ kj15 =>
            have H := HA.out
            clear HA
            simp only [stockyardlaw04_RuleMaps.j1] at H
            by_cases c22 : x37_15 = true
            · subst c22
              have H1 : (some false) = some r := by rw [if_pos rfl] at H; exact H
              clear H
              have H := H1
              clear H1
              obtain rfl := Option.some.inj H
              go_wp2
              go_ret
              exact ⟨by first | rfl | (simp [errW_none, errW_some] <;> rfl) | (simp [*, errW_none, errW_some] <;> rfl), by repeat (first | (with_reducible first | exact HB.out | apply below_alloc | apply pw_below_drewN | apply below_drew1 | refine below_set ?_ GE435.out) | exact HB.out)⟩
            · replace c22 := Bool.eq_false_iff.mpr c22
              subst c22
              have H1 : ((rule_Backward.f kj15 a0_0 l0_1 a0_2 l0_3 a0_4 a1).bind fun bt442 => ((stockyardref04_Turn.f a0_0 l0_1 a0_2 l0_3 a0_4).bind fun bt444 => ((stockyardref04_Forward.f kj15 bt444.1 bt444.2.1 bt444.2.2.1 bt444.2.2.2.1 bt444.2.2.2.2 a1).bind fun bt453 => (if bt442.1.toList = bt453.1.toList then (if (bt442.2 == bt453.2) = true then ((stockyardlaw04_awake.f kj15).bind fun t455 => (some t455)) else (some false)) else (some false))))) = some r := by rw [if_neg (show ¬ (false = true) by decide)] at H; exact H
              clear H
              have H := H1
              clear H1
              replace H := Option.bind_eq_some_iff.mp H
              obtain ⟨⟨t442, t443⟩, A230, H⟩ := H
              replace H : ((stockyardref04_Turn.f a0_0 l0_1 a0_2 l0_3 a0_4).bind fun bt444 => ((stockyardref04_Forward.f kj15 bt444.1 bt444.2.1 bt444.2.2.1 bt444.2.2.2.1 bt444.2.2.2.2 a1).bind fun bt453 => (if t442.toList = bt453.1.toList then (if (t443 == bt453.2) = true then ((stockyardlaw04_awake.f kj15).bind fun t455 => (some t455)) else (some false)) else (some false)))) = some r := H
              have A23 := Aside0.mk A230
              clear A230
              replace H := Option.bind_eq_some_iff.mp H
              obtain ⟨⟨t444, t445, t448, t449, t452⟩, A240, H⟩ := H
              replace H : ((stockyardref04_Forward.f kj15 t444 t445 t448 t449 t452 a1).bind fun bt453 => (if t442.toList = bt453.1.toList then (if (t443 == bt453.2) = true then ((stockyardlaw04_awake.f kj15).bind fun t455 => (some t455)) else (some false)) else (some false))) = some r := H
              have A24 := Aside0.mk A240
              clear A240
              replace H := Option.bind_eq_some_iff.mp H
              obtain ⟨⟨t453, t454⟩, A250, H⟩ := H
              replace H : (if t442.toList = t453.toList then (if (t443 == t454) = true then ((stockyardlaw04_awake.f kj15).bind fun t455 => (some t455)) else (some false)) else (some false)) = some r := H
              have A25 := Aside0.mk A250
              clear A250
              by_cases c26 : t442.toList = t453.toList
              · rw [if_pos c26] at H
                have c26b0 : (t442.toList == t453.toList) = true := beq_iff_eq.mpr c26
                have c26b1 : (t442.toList != t453.toList) = false := bne_eq_false_iff_eq.mpr c26
                clear c26
                by_cases c27 : (t443 == t454) = true
                · rw [if_pos c27] at H
                  have c27b0 : (t443 == t454) = true := c27
                  (try (have c27b1 : decide (t443 = t454) = true := by simpa using c27))
                  (try (have c27b2 : (t443 == t454) = true := by simpa using c27))
                  clear c27
                  replace H := Option.bind_eq_some_iff.mp H
                  obtain ⟨t455, A280, H⟩ := H
                  replace H : (some t455) = some r := H
                  have A28 := Aside0.mk A280
                  clear A280
                  obtain rfl := Option.some.inj H
                  have hcz29_0 : wc.cell? ⟨gb435, 0, none⟩ = some (.bool a0_0) := (blk_cell BK435.out 0).trans rfl
                  have hcz29_1 : wc.cell? ⟨gb435, 1, none⟩ = some (.slice A0_1 l0_1.length c0_1) := (blk_cell BK435.out 1).trans rfl
                  have hcz29_2 : wc.cell? ⟨gb435, 2, none⟩ = some (.bool a0_2) := (blk_cell BK435.out 2).trans rfl
                  have hcz29_3 : wc.cell? ⟨gb435, 3, none⟩ = some (.slice A0_3 l0_3.length c0_3) := (blk_cell BK435.out 3).trans rfl
                  have hcz29_4 : wc.cell? ⟨gb435, 4, none⟩ = some (.bool a0_4) := (blk_cell BK435.out 4).trans rfl
                  have hfz29_0 := blk_frozen BK435.out 0
                  have hfz29_1 := blk_frozen BK435.out 1
                  have hfz29_2 := blk_frozen BK435.out 2
                  have hfz29_3 := blk_frozen BK435.out 3
                  have hfz29_4 := blk_frozen BK435.out 4
                  go_wp2_with (first | ((with_reducible refine gate_callee (f := 14) rfl ?_); refine goesL_ (some 41) rfl rfl Tryd.func14 (by kernel_rfl) rfl #[.agg #[.bool a0_0, .slice A0_1 l0_1.length c0_1, .bool a0_2, .slice A0_3 l0_3.length c0_3, .bool a0_4], .string a1] rfl (by (try simp only [List.map_toArray, List.map_cons, List.map_nil]); first | done | rfl | (simp only [List.length_drop, List.length_take]; rfl)) ?_; (with_reducible refine (rule_Backward.calls kj15 a0_0 _ _ l0_1 a0_2 _ _ l0_3 a0_4 a1 t442 t443 _ ?side1 ?side2 ?side3 ?side4 A23.out).mono ?_); (case side1 => repeat (first | exact (Kd.C_below HR0_1.out HB.out) | (with_reducible refine Kd.C_alloc ?_ _) | (with_reducible refine Kd.C_drewN ?_ _) | (with_reducible refine Kd.C_drew ?_))); (case side2 => exact HC0_1.out); (case side3 => repeat (first | exact (Kd.C_below HR0_3.out HB.out) | (with_reducible refine Kd.C_alloc ?_ _) | (with_reducible refine Kd.C_drewN ?_ _) | (with_reducible refine Kd.C_drew ?_))); (case side4 => exact HC0_3.out); rintro e w30 ⟨rfl, hb⟩; refine ⟨_, rfl, ?_⟩; have n0_ := Aside0.mk (blk_below (g := gb435) (o := .cells #[.bool a0_0, .slice A0_1 l0_1.length c0_1, .bool a0_2, .slice A0_3 l0_3.length c0_3, .bool a0_4] 26 (0, 0)) (by (with_reducible repeat (first | refine blk_drewN ?_ _ | refine blk_drew ?_ | refine blk_alloc ?_ _)); exact BK435.out) hb); have n1_ := Aside0.mk (below_step (by repeat (first | (with_reducible first | exact HB.out | apply below_alloc | apply pw_below_drewN | apply below_drew1 | refine below_set ?_ GE435.out) | exact HB.out)) hb); clear BK435; clear HB; have BK435 := n0_; have HB := n1_; clear n0_ n1_; (try clear hb); (try clear hb2); (try clear hk); (try clear hi); have hcz31_0 : w30.cell? ⟨gb435, 0, none⟩ = some (.bool a0_0) := (blk_cell BK435.out 0).trans rfl; have hcz31_1 : w30.cell? ⟨gb435, 1, none⟩ = some (.slice A0_1 l0_1.length c0_1) := (blk_cell BK435.out 1).trans rfl; have hcz31_2 : w30.cell? ⟨gb435, 2, none⟩ = some (.bool a0_2) := (blk_cell BK435.out 2).trans rfl; have hcz31_3 : w30.cell? ⟨gb435, 3, none⟩ = some (.slice A0_3 l0_3.length c0_3) := (blk_cell BK435.out 3).trans rfl; have hcz31_4 : w30.cell? ⟨gb435, 4, none⟩ = some (.bool a0_4) := (blk_cell BK435.out 4).trans rfl; have hfz31_0 := blk_frozen BK435.out 0; have hfz31_1 := blk_frozen BK435.out 1; have hfz31_2 := blk_frozen BK435.out 2; have hfz31_3 := blk_frozen BK435.out 3; have hfz31_4 := blk_frozen BK435.out 4) | ((with_reducible refine gate_callee (f := 12) rfl ?_); refine goesL_ (some 46) rfl rfl Tryd.func12 (by kernel_rfl) rfl #[.agg #[.bool a0_0, .slice A0_1 l0_1.length c0_1, .bool a0_2, .slice A0_3 l0_3.length c0_3, .bool a0_4]] rfl (by (try simp only [List.map_toArray, List.map_cons, List.map_nil]); first | done | rfl | (simp only [List.length_drop, List.length_take]; rfl)) ?_; (with_reducible refine (stockyardref04_Turn.calls a0_0 _ _ l0_1 a0_2 _ _ l0_3 a0_4 t444 t445 t448 t449 t452 _ ?side1 ?side2 ?side3 ?side4 A24.out).mono ?_); (case side1 => repeat (first | exact (Kd.C_below HR0_1.out HB.out) | (with_reducible refine Kd.C_alloc ?_ _) | (with_reducible refine Kd.C_drewN ?_ _) | (with_reducible refine Kd.C_drew ?_))); (case side2 => exact HC0_1.out); (case side3 => repeat (first | exact (Kd.C_below HR0_3.out HB.out) | (with_reducible refine Kd.C_alloc ?_ _) | (with_reducible refine Kd.C_drewN ?_ _) | (with_reducible refine Kd.C_drew ?_))); (case side4 => exact HC0_3.out); rintro e w32 ⟨v446, v450, rfl, ho0, ho1, hb⟩; refine ⟨_, rfl, ?_⟩; have n0_ := Aside0.mk (Kd.R_lower ho0 (below_size (by repeat (first | (with_reducible first | exact HB.out | apply below_alloc | apply pw_below_drewN | apply below_drew1 | refine below_set ?_ GE435.out) | exact HB.out)))); have n1_ := Aside0.mk (Kd.R_lower ho1 (below_size (by repeat (first | (with_reducible first | exact HB.out | apply below_alloc | apply pw_below_drewN | apply below_drew1 | refine below_set ?_ GE435.out) | exact HB.out)))); have n2_ := Aside0.mk (blk_below (g := gb435) (o := .cells #[.bool a0_0, .slice A0_1 l0_1.length c0_1, .bool a0_2, .slice A0_3 l0_3.length c0_3, .bool a0_4] 26 (0, 0)) (by (with_reducible repeat (first | refine blk_drewN ?_ _ | refine blk_drew ?_ | refine blk_alloc ?_ _)); exact BK435.out) hb); have n3_ := Aside0.mk (below_step (by repeat (first | (with_reducible first | exact HB.out | apply below_alloc | apply pw_below_drewN | apply below_drew1 | refine below_set ?_ GE435.out) | exact HB.out)) hb); clear BK435; clear HB; have HO447 := n0_; have HO451 := n1_; have BK435 := n2_; have HB := n3_; clear n0_ n1_ n2_ n3_; (try clear hb); (try clear hb2); (try clear hk); (try clear hi); (try clear ho0); (try clear ho1); obtain ⟨Ao33, co33, eo33⟩ := Kd.R_slice HO447.out; subst eo33; obtain ⟨Ao34, co34, eo34⟩ := Kd.R_slice HO451.out; subst eo34) | ((with_reducible refine gate_callee (f := 15) rfl ?_); refine goesL_ (some 48) rfl rfl Tryd.func15 (by kernel_rfl) rfl #[.agg #[.bool t444, .slice Ao33 t445.length co33, .bool t448, .slice Ao34 t449.length co34, .bool t452], .string a1] rfl (by (try simp only [List.map_toArray, List.map_cons, List.map_nil]); first | done | rfl | (simp only [List.length_drop, List.length_take]; rfl)) ?_; (with_reducible refine (stockyardref04_Forward.calls kj15 t444 _ _ t445 t448 _ _ t449 t452 a1 t453 t454 _ ?side1 ?side2 ?side3 ?side4 A25.out).mono ?_); (case side1 => repeat (first | exact (Kd.R_reads' HO447.out).2.2 | (with_reducible refine Kd.C_alloc ?_ _) | (with_reducible refine Kd.C_drewN ?_ _) | (with_reducible refine Kd.C_drew ?_))); (case side2 => exact (Kd.R_reads' HO447.out).2.1); (case side3 => repeat (first | exact (Kd.R_reads' HO451.out).2.2 | (with_reducible refine Kd.C_alloc ?_ _) | (with_reducible refine Kd.C_drewN ?_ _) | (with_reducible refine Kd.C_drew ?_))); (case side4 => exact (Kd.R_reads' HO451.out).2.1); rintro e w35 ⟨rfl, hb⟩; refine ⟨_, rfl, ?_⟩; have n0_ := Aside0.mk (Kd.R_below (by (with_reducible repeat (first | apply Kd.R_alloc | apply Kd.R_drewN | apply Kd.R_drew)); exact HO447.out) hb); have n1_ := Aside0.mk (Kd.R_below (by (with_reducible repeat (first | apply Kd.R_alloc | apply Kd.R_drewN | apply Kd.R_drew)); exact HO451.out) hb); have n2_ := Aside0.mk (blk_below (g := gb435) (o := .cells #[.bool a0_0, .slice A0_1 l0_1.length c0_1, .bool a0_2, .slice A0_3 l0_3.length c0_3, .bool a0_4] 26 (0, 0)) (by (with_reducible repeat (first | refine blk_drewN ?_ _ | refine blk_drew ?_ | refine blk_alloc ?_ _)); exact BK435.out) hb); have n3_ := Aside0.mk (below_step (by repeat (first | (with_reducible first | exact HB.out | apply below_alloc | apply pw_below_drewN | apply below_drew1 | refine below_set ?_ GE435.out) | exact HB.out)) hb); clear HO447; clear HO451; clear BK435; clear HB; have HO447 := n0_; have HO451 := n1_; have BK435 := n2_; have HB := n3_; clear n0_ n1_ n2_ n3_; (try clear hb); (try clear hb2); (try clear hk); (try clear hi)) | (go_at_call 7; (with_reducible refine (stockyardlaw04_awake.calls kj15  t455 _ A28.out).mono ?_); rintro e w36 ⟨rfl, hb⟩; have n0_ := Aside0.mk (Kd.R_below (by (with_reducible repeat (first | apply Kd.R_alloc | apply Kd.R_drewN | apply Kd.R_drew)); exact HO447.out) hb); have n1_ := Aside0.mk (Kd.R_below (by (with_reducible repeat (first | apply Kd.R_alloc | apply Kd.R_drewN | apply Kd.R_drew)); exact HO451.out) hb); have n2_ := Aside0.mk (blk_below (g := gb435) (o := .cells #[.bool a0_0, .slice A0_1 l0_1.length c0_1, .bool a0_2, .slice A0_3 l0_3.length c0_3, .bool a0_4] 26 (0, 0)) (by (with_reducible repeat (first | refine blk_drewN ?_ _ | refine blk_drew ?_ | refine blk_alloc ?_ _)); exact BK435.out) hb); have n3_ := Aside0.mk (below_step (by repeat (first | (with_reducible first | exact HB.out | apply below_alloc | apply pw_below_drewN | apply below_drew1 | refine below_set ?_ GE435.out) | exact HB.out)) hb); clear HO447; clear HO451; clear BK435; clear HB; have HO447 := n0_; have HO451 := n1_; have BK435 := n2_; have HB := n3_; clear n0_ n1_ n2_ n3_; (try clear hb); (try clear hb2); (try clear hk); (try clear hi)))
                  go_ret
                  exact ⟨by first | rfl | (simp [errW_none, errW_some] <;> rfl) | (simp [*, errW_none, errW_some] <;> rfl), by repeat (first | (with_reducible first | exact HB.out | apply below_alloc | apply pw_below_drewN | apply below_drew1 | refine below_set ?_ GE435.out) | exact HB.out)⟩
                · rw [if_neg c27] at H
                  have c27b0 : (t443 == t454) = false := by simpa using c27
                  (try (have c27b1 : decide (t443 = t454) = false := by simpa using c27))
                  (try (have c27b2 : (t443 == t454) = false := by simpa using c27))
                  (try (have c27b3 : ¬ (t443 = t454) := by simpa using c27))
                  clear c27
                  obtain rfl := Option.some.inj H
                  have hcz37_0 : wc.cell? ⟨gb435, 0, none⟩ = some (.bool a0_0) := (blk_cell BK435.out 0).trans rfl
                  have hcz37_1 : wc.cell? ⟨gb435, 1, none⟩ = some (.slice A0_1 l0_1.length c0_1) := (blk_cell BK435.out 1).trans rfl
                  have hcz37_2 : wc.cell? ⟨gb435, 2, none⟩ = some (.bool a0_2) := (blk_cell BK435.out 2).trans rfl
                  have hcz37_3 : wc.cell? ⟨gb435, 3, none⟩ = some (.slice A0_3 l0_3.length c0_3) := (blk_cell BK435.out 3).trans rfl
                  have hcz37_4 : wc.cell? ⟨gb435, 4, none⟩ = some (.bool a0_4) := (blk_cell BK435.out 4).trans rfl
                  have hfz37_0 := blk_frozen BK435.out 0
                  have hfz37_1 := blk_frozen BK435.out 1
                  have hfz37_2 := blk_frozen BK435.out 2
                  have hfz37_3 := blk_frozen BK435.out 3
                  have hfz37_4 := blk_frozen BK435.out 4
                  go_wp2_with (first | ((with_reducible refine gate_callee (f := 14) rfl ?_); refine goesL_ (some 41) rfl rfl Tryd.func14 (by kernel_rfl) rfl #[.agg #[.bool a0_0, .slice A0_1 l0_1.length c0_1, .bool a0_2, .slice A0_3 l0_3.length c0_3, .bool a0_4], .string a1] rfl (by (try simp only [List.map_toArray, List.map_cons, List.map_nil]); first | done | rfl | (simp only [List.length_drop, List.length_take]; rfl)) ?_; (with_reducible refine (rule_Backward.calls kj15 a0_0 _ _ l0_1 a0_2 _ _ l0_3 a0_4 a1 t442 t443 _ ?side1 ?side2 ?side3 ?side4 A23.out).mono ?_); (case side1 => repeat (first | exact (Kd.C_below HR0_1.out HB.out) | (with_reducible refine Kd.C_alloc ?_ _) | (with_reducible refine Kd.C_drewN ?_ _) | (with_reducible refine Kd.C_drew ?_))); (case side2 => exact HC0_1.out); (case side3 => repeat (first | exact (Kd.C_below HR0_3.out HB.out) | (with_reducible refine Kd.C_alloc ?_ _) | (with_reducible refine Kd.C_drewN ?_ _) | (with_reducible refine Kd.C_drew ?_))); (case side4 => exact HC0_3.out); rintro e w38 ⟨rfl, hb⟩; refine ⟨_, rfl, ?_⟩; have n0_ := Aside0.mk (blk_below (g := gb435) (o := .cells #[.bool a0_0, .slice A0_1 l0_1.length c0_1, .bool a0_2, .slice A0_3 l0_3.length c0_3, .bool a0_4] 26 (0, 0)) (by (with_reducible repeat (first | refine blk_drewN ?_ _ | refine blk_drew ?_ | refine blk_alloc ?_ _)); exact BK435.out) hb); have n1_ := Aside0.mk (below_step (by repeat (first | (with_reducible first | exact HB.out | apply below_alloc | apply pw_below_drewN | apply below_drew1 | refine below_set ?_ GE435.out) | exact HB.out)) hb); clear BK435; clear HB; have BK435 := n0_; have HB := n1_; clear n0_ n1_; (try clear hb); (try clear hb2); (try clear hk); (try clear hi); have hcz39_0 : w38.cell? ⟨gb435, 0, none⟩ = some (.bool a0_0) := (blk_cell BK435.out 0).trans rfl; have hcz39_1 : w38.cell? ⟨gb435, 1, none⟩ = some (.slice A0_1 l0_1.length c0_1) := (blk_cell BK435.out 1).trans rfl; have hcz39_2 : w38.cell? ⟨gb435, 2, none⟩ = some (.bool a0_2) := (blk_cell BK435.out 2).trans rfl; have hcz39_3 : w38.cell? ⟨gb435, 3, none⟩ = some (.slice A0_3 l0_3.length c0_3) := (blk_cell BK435.out 3).trans rfl; have hcz39_4 : w38.cell? ⟨gb435, 4, none⟩ = some (.bool a0_4) := (blk_cell BK435.out 4).trans rfl; have hfz39_0 := blk_frozen BK435.out 0; have hfz39_1 := blk_frozen BK435.out 1; have hfz39_2 := blk_frozen BK435.out 2; have hfz39_3 := blk_frozen BK435.out 3; have hfz39_4 := blk_frozen BK435.out 4) | ((with_reducible refine gate_callee (f := 12) rfl ?_); refine goesL_ (some 46) rfl rfl Tryd.func12 (by kernel_rfl) rfl #[.agg #[.bool a0_0, .slice A0_1 l0_1.length c0_1, .bool a0_2, .slice A0_3 l0_3.length c0_3, .bool a0_4]] rfl (by (try simp only [List.map_toArray, List.map_cons, List.map_nil]); first | done | rfl | (simp only [List.length_drop, List.length_take]; rfl)) ?_; (with_reducible refine (stockyardref04_Turn.calls a0_0 _ _ l0_1 a0_2 _ _ l0_3 a0_4 t444 t445 t448 t449 t452 _ ?side1 ?side2 ?side3 ?side4 A24.out).mono ?_); (case side1 => repeat (first | exact (Kd.C_below HR0_1.out HB.out) | (with_reducible refine Kd.C_alloc ?_ _) | (with_reducible refine Kd.C_drewN ?_ _) | (with_reducible refine Kd.C_drew ?_))); (case side2 => exact HC0_1.out); (case side3 => repeat (first | exact (Kd.C_below HR0_3.out HB.out) | (with_reducible refine Kd.C_alloc ?_ _) | (with_reducible refine Kd.C_drewN ?_ _) | (with_reducible refine Kd.C_drew ?_))); (case side4 => exact HC0_3.out); rintro e w40 ⟨v446, v450, rfl, ho0, ho1, hb⟩; refine ⟨_, rfl, ?_⟩; have n0_ := Aside0.mk (Kd.R_lower ho0 (below_size (by repeat (first | (with_reducible first | exact HB.out | apply below_alloc | apply pw_below_drewN | apply below_drew1 | refine below_set ?_ GE435.out) | exact HB.out)))); have n1_ := Aside0.mk (Kd.R_lower ho1 (below_size (by repeat (first | (with_reducible first | exact HB.out | apply below_alloc | apply pw_below_drewN | apply below_drew1 | refine below_set ?_ GE435.out) | exact HB.out)))); have n2_ := Aside0.mk (blk_below (g := gb435) (o := .cells #[.bool a0_0, .slice A0_1 l0_1.length c0_1, .bool a0_2, .slice A0_3 l0_3.length c0_3, .bool a0_4] 26 (0, 0)) (by (with_reducible repeat (first | refine blk_drewN ?_ _ | refine blk_drew ?_ | refine blk_alloc ?_ _)); exact BK435.out) hb); have n3_ := Aside0.mk (below_step (by repeat (first | (with_reducible first | exact HB.out | apply below_alloc | apply pw_below_drewN | apply below_drew1 | refine below_set ?_ GE435.out) | exact HB.out)) hb); clear BK435; clear HB; have HO447 := n0_; have HO451 := n1_; have BK435 := n2_; have HB := n3_; clear n0_ n1_ n2_ n3_; (try clear hb); (try clear hb2); (try clear hk); (try clear hi); (try clear ho0); (try clear ho1); obtain ⟨Ao41, co41, eo41⟩ := Kd.R_slice HO447.out; subst eo41; obtain ⟨Ao42, co42, eo42⟩ := Kd.R_slice HO451.out; subst eo42) | ((with_reducible refine gate_callee (f := 15) rfl ?_); refine goesL_ (some 48) rfl rfl Tryd.func15 (by kernel_rfl) rfl #[.agg #[.bool t444, .slice Ao41 t445.length co41, .bool t448, .slice Ao42 t449.length co42, .bool t452], .string a1] rfl (by (try simp only [List.map_toArray, List.map_cons, List.map_nil]); first | done | rfl | (simp only [List.length_drop, List.length_take]; rfl)) ?_; (with_reducible refine (stockyardref04_Forward.calls kj15 t444 _ _ t445 t448 _ _ t449 t452 a1 t453 t454 _ ?side1 ?side2 ?side3 ?side4 A25.out).mono ?_); (case side1 => repeat (first | exact (Kd.R_reads' HO447.out).2.2 | (with_reducible refine Kd.C_alloc ?_ _) | (with_reducible refine Kd.C_drewN ?_ _) | (with_reducible refine Kd.C_drew ?_))); (case side2 => exact (Kd.R_reads' HO447.out).2.1); (case side3 => repeat (first | exact (Kd.R_reads' HO451.out).2.2 | (with_reducible refine Kd.C_alloc ?_ _) | (with_reducible refine Kd.C_drewN ?_ _) | (with_reducible refine Kd.C_drew ?_))); (case side4 => exact (Kd.R_reads' HO451.out).2.1); rintro e w43 ⟨rfl, hb⟩; refine ⟨_, rfl, ?_⟩; have n0_ := Aside0.mk (Kd.R_below (by (with_reducible repeat (first | apply Kd.R_alloc | apply Kd.R_drewN | apply Kd.R_drew)); exact HO447.out) hb); have n1_ := Aside0.mk (Kd.R_below (by (with_reducible repeat (first | apply Kd.R_alloc | apply Kd.R_drewN | apply Kd.R_drew)); exact HO451.out) hb); have n2_ := Aside0.mk (blk_below (g := gb435) (o := .cells #[.bool a0_0, .slice A0_1 l0_1.length c0_1, .bool a0_2, .slice A0_3 l0_3.length c0_3, .bool a0_4] 26 (0, 0)) (by (with_reducible repeat (first | refine blk_drewN ?_ _ | refine blk_drew ?_ | refine blk_alloc ?_ _)); exact BK435.out) hb); have n3_ := Aside0.mk (below_step (by repeat (first | (with_reducible first | exact HB.out | apply below_alloc | apply pw_below_drewN | apply below_drew1 | refine below_set ?_ GE435.out) | exact HB.out)) hb); clear HO447; clear HO451; clear BK435; clear HB; have HO447 := n0_; have HO451 := n1_; have BK435 := n2_; have HB := n3_; clear n0_ n1_ n2_ n3_; (try clear hb); (try clear hb2); (try clear hk); (try clear hi)))
                  go_ret
                  exact ⟨by first | rfl | (simp [errW_none, errW_some] <;> rfl) | (simp [*, errW_none, errW_some] <;> rfl), by repeat (first | (with_reducible first | exact HB.out | apply below_alloc | apply pw_below_drewN | apply below_drew1 | refine below_set ?_ GE435.out) | exact HB.out)⟩
              · rw [if_neg c26] at H
                have c26b0 : (t442.toList == t453.toList) = false := beq_eq_false_iff_ne.mpr c26
                have c26b1 : (t442.toList != t453.toList) = true := bne_iff_ne.mpr c26
                obtain rfl := Option.some.inj H
                have hcz44_0 : wc.cell? ⟨gb435, 0, none⟩ = some (.bool a0_0) := (blk_cell BK435.out 0).trans rfl
                have hcz44_1 : wc.cell? ⟨gb435, 1, none⟩ = some (.slice A0_1 l0_1.length c0_1) := (blk_cell BK435.out 1).trans rfl
                have hcz44_2 : wc.cell? ⟨gb435, 2, none⟩ = some (.bool a0_2) := (blk_cell BK435.out 2).trans rfl
                have hcz44_3 : wc.cell? ⟨gb435, 3, none⟩ = some (.slice A0_3 l0_3.length c0_3) := (blk_cell BK435.out 3).trans rfl
                have hcz44_4 : wc.cell? ⟨gb435, 4, none⟩ = some (.bool a0_4) := (blk_cell BK435.out 4).trans rfl
                have hfz44_0 := blk_frozen BK435.out 0
                have hfz44_1 := blk_frozen BK435.out 1
                have hfz44_2 := blk_frozen BK435.out 2
                have hfz44_3 := blk_frozen BK435.out 3
                have hfz44_4 := blk_frozen BK435.out 4
                go_wp2_with (first | ((with_reducible refine gate_callee (f := 14) rfl ?_); refine goesL_ (some 41) rfl rfl Tryd.func14 (by kernel_rfl) rfl #[.agg #[.bool a0_0, .slice A0_1 l0_1.length c0_1, .bool a0_2, .slice A0_3 l0_3.length c0_3, .bool a0_4], .string a1] rfl (by (try simp only [List.map_toArray, List.map_cons, List.map_nil]); first | done | rfl | (simp only [List.length_drop, List.length_take]; rfl)) ?_; (with_reducible refine (rule_Backward.calls kj15 a0_0 _ _ l0_1 a0_2 _ _ l0_3 a0_4 a1 t442 t443 _ ?side1 ?side2 ?side3 ?side4 A23.out).mono ?_); (case side1 => repeat (first | exact (Kd.C_below HR0_1.out HB.out) | (with_reducible refine Kd.C_alloc ?_ _) | (with_reducible refine Kd.C_drewN ?_ _) | (with_reducible refine Kd.C_drew ?_))); (case side2 => exact HC0_1.out); (case side3 => repeat (first | exact (Kd.C_below HR0_3.out HB.out) | (with_reducible refine Kd.C_alloc ?_ _) | (with_reducible refine Kd.C_drewN ?_ _) | (with_reducible refine Kd.C_drew ?_))); (case side4 => exact HC0_3.out); rintro e w45 ⟨rfl, hb⟩; refine ⟨_, rfl, ?_⟩; have n0_ := Aside0.mk (blk_below (g := gb435) (o := .cells #[.bool a0_0, .slice A0_1 l0_1.length c0_1, .bool a0_2, .slice A0_3 l0_3.length c0_3, .bool a0_4] 26 (0, 0)) (by (with_reducible repeat (first | refine blk_drewN ?_ _ | refine blk_drew ?_ | refine blk_alloc ?_ _)); exact BK435.out) hb); have n1_ := Aside0.mk (below_step (by repeat (first | (with_reducible first | exact HB.out | apply below_alloc | apply pw_below_drewN | apply below_drew1 | refine below_set ?_ GE435.out) | exact HB.out)) hb); clear BK435; clear HB; have BK435 := n0_; have HB := n1_; clear n0_ n1_; (try clear hb); (try clear hb2); (try clear hk); (try clear hi); have hcz46_0 : w45.cell? ⟨gb435, 0, none⟩ = some (.bool a0_0) := (blk_cell BK435.out 0).trans rfl; have hcz46_1 : w45.cell? ⟨gb435, 1, none⟩ = some (.slice A0_1 l0_1.length c0_1) := (blk_cell BK435.out 1).trans rfl; have hcz46_2 : w45.cell? ⟨gb435, 2, none⟩ = some (.bool a0_2) := (blk_cell BK435.out 2).trans rfl; have hcz46_3 : w45.cell? ⟨gb435, 3, none⟩ = some (.slice A0_3 l0_3.length c0_3) := (blk_cell BK435.out 3).trans rfl; have hcz46_4 : w45.cell? ⟨gb435, 4, none⟩ = some (.bool a0_4) := (blk_cell BK435.out 4).trans rfl; have hfz46_0 := blk_frozen BK435.out 0; have hfz46_1 := blk_frozen BK435.out 1; have hfz46_2 := blk_frozen BK435.out 2; have hfz46_3 := blk_frozen BK435.out 3; have hfz46_4 := blk_frozen BK435.out 4) | ((with_reducible refine gate_callee (f := 12) rfl ?_); refine goesL_ (some 46) rfl rfl Tryd.func12 (by kernel_rfl) rfl #[.agg #[.bool a0_0, .slice A0_1 l0_1.length c0_1, .bool a0_2, .slice A0_3 l0_3.length c0_3, .bool a0_4]] rfl (by (try simp only [List.map_toArray, List.map_cons, List.map_nil]); first | done | rfl | (simp only [List.length_drop, List.length_take]; rfl)) ?_; (with_reducible refine (stockyardref04_Turn.calls a0_0 _ _ l0_1 a0_2 _ _ l0_3 a0_4 t444 t445 t448 t449 t452 _ ?side1 ?side2 ?side3 ?side4 A24.out).mono ?_); (case side1 => repeat (first | exact (Kd.C_below HR0_1.out HB.out) | (with_reducible refine Kd.C_alloc ?_ _) | (with_reducible refine Kd.C_drewN ?_ _) | (with_reducible refine Kd.C_drew ?_))); (case side2 => exact HC0_1.out); (case side3 => repeat (first | exact (Kd.C_below HR0_3.out HB.out) | (with_reducible refine Kd.C_alloc ?_ _) | (with_reducible refine Kd.C_drewN ?_ _) | (with_reducible refine Kd.C_drew ?_))); (case side4 => exact HC0_3.out); rintro e w47 ⟨v446, v450, rfl, ho0, ho1, hb⟩; refine ⟨_, rfl, ?_⟩; have n0_ := Aside0.mk (Kd.R_lower ho0 (below_size (by repeat (first | (with_reducible first | exact HB.out | apply below_alloc | apply pw_below_drewN | apply below_drew1 | refine below_set ?_ GE435.out) | exact HB.out)))); have n1_ := Aside0.mk (Kd.R_lower ho1 (below_size (by repeat (first | (with_reducible first | exact HB.out | apply below_alloc | apply pw_below_drewN | apply below_drew1 | refine below_set ?_ GE435.out) | exact HB.out)))); have n2_ := Aside0.mk (blk_below (g := gb435) (o := .cells #[.bool a0_0, .slice A0_1 l0_1.length c0_1, .bool a0_2, .slice A0_3 l0_3.length c0_3, .bool a0_4] 26 (0, 0)) (by (with_reducible repeat (first | refine blk_drewN ?_ _ | refine blk_drew ?_ | refine blk_alloc ?_ _)); exact BK435.out) hb); have n3_ := Aside0.mk (below_step (by repeat (first | (with_reducible first | exact HB.out | apply below_alloc | apply pw_below_drewN | apply below_drew1 | refine below_set ?_ GE435.out) | exact HB.out)) hb); clear BK435; clear HB; have HO447 := n0_; have HO451 := n1_; have BK435 := n2_; have HB := n3_; clear n0_ n1_ n2_ n3_; (try clear hb); (try clear hb2); (try clear hk); (try clear hi); (try clear ho0); (try clear ho1); obtain ⟨Ao48, co48, eo48⟩ := Kd.R_slice HO447.out; subst eo48; obtain ⟨Ao49, co49, eo49⟩ := Kd.R_slice HO451.out; subst eo49) | ((with_reducible refine gate_callee (f := 15) rfl ?_); refine goesL_ (some 48) rfl rfl Tryd.func15 (by kernel_rfl) rfl #[.agg #[.bool t444, .slice Ao48 t445.length co48, .bool t448, .slice Ao49 t449.length co49, .bool t452], .string a1] rfl (by (try simp only [List.map_toArray, List.map_cons, List.map_nil]); first | done | rfl | (simp only [List.length_drop, List.length_take]; rfl)) ?_; (with_reducible refine (stockyardref04_Forward.calls kj15 t444 _ _ t445 t448 _ _ t449 t452 a1 t453 t454 _ ?side1 ?side2 ?side3 ?side4 A25.out).mono ?_); (case side1 => repeat (first | exact (Kd.R_reads' HO447.out).2.2 | (with_reducible refine Kd.C_alloc ?_ _) | (with_reducible refine Kd.C_drewN ?_ _) | (with_reducible refine Kd.C_drew ?_))); (case side2 => exact (Kd.R_reads' HO447.out).2.1); (case side3 => repeat (first | exact (Kd.R_reads' HO451.out).2.2 | (with_reducible refine Kd.C_alloc ?_ _) | (with_reducible refine Kd.C_drewN ?_ _) | (with_reducible refine Kd.C_drew ?_))); (case side4 => exact (Kd.R_reads' HO451.out).2.1); rintro e w50 ⟨rfl, hb⟩; refine ⟨_, rfl, ?_⟩; have n0_ := Aside0.mk (Kd.R_below (by (with_reducible repeat (first | apply Kd.R_alloc | apply Kd.R_drewN | apply Kd.R_drew)); exact HO447.out) hb); have n1_ := Aside0.mk (Kd.R_below (by (with_reducible repeat (first | apply Kd.R_alloc | apply Kd.R_drewN | apply Kd.R_drew)); exact HO451.out) hb); have n2_ := Aside0.mk (blk_below (g := gb435) (o := .cells #[.bool a0_0, .slice A0_1 l0_1.length c0_1, .bool a0_2, .slice A0_3 l0_3.length c0_3, .bool a0_4] 26 (0, 0)) (by (with_reducible repeat (first | refine blk_drewN ?_ _ | refine blk_drew ?_ | refine blk_alloc ?_ _)); exact BK435.out) hb); have n3_ := Aside0.mk (below_step (by repeat (first | (with_reducible first | exact HB.out | apply below_alloc | apply pw_below_drewN | apply below_drew1 | refine below_set ?_ GE435.out) | exact HB.out)) hb); clear HO447; clear HO451; clear BK435; clear HB; have HO447 := n0_; have HO451 := n1_; have BK435 := n2_; have HB := n3_; clear n0_ n1_ n2_ n3_; (try clear hb); (try clear hb2); (try clear hk); (try clear hi)))
                go_ret
                exact ⟨by first | rfl | (simp [errW_none, errW_some] <;> rfl) | (simp [*, errW_none, errW_some] <;> rfl), by repeat (first | (with_reducible first | exact HB.out | apply below_alloc | apply pw_below_drewN | apply below_drew1 | refine below_set ?_ GE435.out) | exact HB.out)⟩

end Go.Proofs.YtnfpbnnhijiflaaDoor.P

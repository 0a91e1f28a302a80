-- Written by a program of this session (wip/gen.py) over the kit's print: each Go function as a plain Lean function, and the proof that the Go code comes to it. Nothing here is trusted: Lean checks it.
import Derived.Test.YtnfpbnnhijiflaaDoorPx0
import Derived.Test.YtnfpbnnhijiflaaDoorPx1
import Derived.Test.YtnfpbnnhijiflaaDoorPx2
import Derived.Test.YtnfpbnnhijiflaaDoorPx4
import Derived.Test.YtnfpbnnhijiflaaDoorPx5
import Derived.Test.YtnfpbnnhijiflaaDoorPx11
namespace Go.Proofs.YtnfpbnnhijiflaaDoor.P
open Go.RowKit Go.Proofs.YtnfpbnnhijiflaaDoorW.PrintWords Go.Proofs.YtnfpbnnhijiflaaDoorW.PrintLast Go.Proofs.YtnfpbnnhijiflaaDoorW.PrintMore
attribute [local go_sem] str_gtr str_leq str_geq max2_int min2_int max_two min_two max_three min_three max_four min_four   -- for this text's walks alone
set_option linter.unusedVariables false
set_option linter.unusedSimpArgs false

/-! ### stockyardlaw04_RuleBack: function 4 -/
mutual
def stockyardlaw04_RuleBack.j0 : Nat → ByteArray → Bool → Bool → List ByteArray → Bool → List ByteArray → Bool → Option (Bool)
  | 0, _, _, _, _, _, _, _ => none
  | k + 1, x1, x21, x334000, x334001, x334002, x334003, x334004 => if x21 = true then ((stockyardlaw04_awake.f k).bind fun t335 => (some t335)) else ((rule_Turn.f x334000 x334001 x334002 x334003 x334004).bind fun bt336 => ((rule_Forward.f k x334000 x334001 x334002 x334003 x334004 x1).bind fun bt346 => ((rule_Backward.f k bt336.1 bt336.2.1 bt336.2.2.1 bt336.2.2.2.1 bt336.2.2.2.2 x1).bind fun bt348 => (if bt346.1.toList = bt348.1.toList then (if (bt346.2 != bt348.2) = true then (stockyardlaw04_RuleBack.j1 k x1 bt346.1 bt346.2 true x334000 x334001 x334002 x334003 x334004) else ((rule_Check.f k x334000 x334001 x334002 x334003 x334004).bind fun t350 => (if t350 = 0 then (stockyardlaw04_RuleBack.j1 k x1 bt346.1 bt346.2 false x334000 x334001 x334002 x334003 x334004) else (stockyardlaw04_RuleBack.j1 k x1 bt346.1 bt346.2 bt346.2 x334000 x334001 x334002 x334003 x334004)))) else (stockyardlaw04_RuleBack.j1 k x1 bt346.1 bt346.2 true x334000 x334001 x334002 x334003 x334004)))))
def stockyardlaw04_RuleBack.j1 : Nat → ByteArray → ByteArray → Bool → Bool → Bool → List ByteArray → Bool → List ByteArray → Bool → Option (Bool)
  | 0, _, _, _, _, _, _, _, _, _ => none
  | k + 1, x1, x6, x7, x52, x334000, x334001, x334002, x334003, x334004 => if x52 = true then (some false) else (if x7 = true then ((rule_Backward.f k x334000 x334001 x334002 x334003 x334004 x6).bind fun bt351 => (if bt351.1.toList = x1.toList then (if bt351.2 = true then (stockyardlaw04_RuleBack.j2 k x1 x334000 x334001 x334002 x334003 x334004) else (some false)) else (some false))) else (stockyardlaw04_RuleBack.j2 k x1 x334000 x334001 x334002 x334003 x334004))
def stockyardlaw04_RuleBack.j2 : Nat → ByteArray → Bool → List ByteArray → Bool → List ByteArray → Bool → Option (Bool)
  | 0, _, _, _, _, _, _ => none
  | k + 1, x1, x334000, x334001, x334002, x334003, x334004 => (rule_Backward.f k x334000 x334001 x334002 x334003 x334004 x1).bind fun bt353 => (if bt353.2 = true then ((rule_Forward.f k x334000 x334001 x334002 x334003 x334004 bt353.1).bind fun bt355 => (if bt355.1.toList = x1.toList then (if bt355.2 = true then ((stockyardlaw04_awake.f k).bind fun t357 => (some t357)) else (some false)) else (some false))) else ((stockyardlaw04_awake.f k).bind fun t358 => (some t358)))
end
def stockyardlaw04_RuleBack.f (k : Nat) (a0_0 : Bool) (l0_1 : List ByteArray) (a0_2 : Bool) (l0_3 : List ByteArray) (a0_4 : Bool) (a1 : ByteArray) : Option (Bool) := (stockyardlaw04_fit.f k a0_0 l0_1 a0_2 l0_3 a0_4).bind fun t334 => (if t334 = true then (stockyardlaw04_RuleBack.j0 k a1 (decide ((a1.size : Int) > 300)) a0_0 l0_1 a0_2 l0_3 a0_4) else (stockyardlaw04_RuleBack.j0 k a1 true a0_0 l0_1 a0_2 l0_3 a0_4))
theorem stockyardlaw04_RuleBack.mono_l : ∀ k, (∀ y0 y1 y2 y3 y4 y5 y6, LeO (stockyardlaw04_RuleBack.j0 k y0 y1 y2 y3 y4 y5 y6) (stockyardlaw04_RuleBack.j0 (k + 1) y0 y1 y2 y3 y4 y5 y6)) ∧ (∀ y0 y1 y2 y3 y4 y5 y6 y7 y8, LeO (stockyardlaw04_RuleBack.j1 k y0 y1 y2 y3 y4 y5 y6 y7 y8) (stockyardlaw04_RuleBack.j1 (k + 1) y0 y1 y2 y3 y4 y5 y6 y7 y8)) ∧ (∀ y0 y1 y2 y3 y4 y5, LeO (stockyardlaw04_RuleBack.j2 k y0 y1 y2 y3 y4 y5) (stockyardlaw04_RuleBack.j2 (k + 1) y0 y1 y2 y3 y4 y5))
  | 0 => ⟨fun _ _ _ _ _ _ _ r h => by simp [stockyardlaw04_RuleBack.j0] at h, fun _ _ _ _ _ _ _ _ _ r h => by simp [stockyardlaw04_RuleBack.j1] at h, fun _ _ _ _ _ _ r h => by simp [stockyardlaw04_RuleBack.j2] at h⟩
  | k + 1 => by
    obtain ⟨ih0, ih1, ih2⟩ := stockyardlaw04_RuleBack.mono_l k
    refine ⟨?_, ?_, ?_⟩
    · intro y0 y1 y2 y3 y4 y5 y6
      unfold stockyardlaw04_RuleBack.j0
      repeat' first
      | (with_reducible exact ih0 _ _ _ _ _ _ _)
      | (with_reducible exact ih1 _ _ _ _ _ _ _ _ _)
      | (with_reducible exact ih2 _ _ _ _ _ _)
      | (with_reducible exact rule_Backward.mono _ _ _ _ _ _ _)
      | (with_reducible exact rule_Check.mono _ _ _ _ _ _)
      | (with_reducible exact rule_Forward.mono _ _ _ _ _ _ _)
      | (with_reducible exact stockyardlaw04_awake.mono _)
      | (with_reducible exact stockyardlaw04_fit.mono _ _ _ _ _ _)
      | (with_reducible exact LeO.refl _)
      | (with_reducible exact LeO.none _)
      | (with_reducible refine LeO.ite ?_ ?_)
      | (with_reducible refine LeO.bind ?_ (fun _ => ?_))
      | exact ih0 _ _ _ _ _ _ _
      | exact ih1 _ _ _ _ _ _ _ _ _
      | exact ih2 _ _ _ _ _ _
      | exact rule_Backward.mono _ _ _ _ _ _ _
      | exact rule_Check.mono _ _ _ _ _ _
      | exact rule_Forward.mono _ _ _ _ _ _ _
      | exact stockyardlaw04_awake.mono _
      | exact stockyardlaw04_fit.mono _ _ _ _ _ _
      | exact LeO.none _
      | refine LeO.ite ?_ ?_
      | refine LeO.bind ?_ (fun _ => ?_)
    · intro y0 y1 y2 y3 y4 y5 y6 y7 y8
      unfold stockyardlaw04_RuleBack.j1
      repeat' first
      | (with_reducible exact ih0 _ _ _ _ _ _ _)
      | (with_reducible exact ih1 _ _ _ _ _ _ _ _ _)
      | (with_reducible exact ih2 _ _ _ _ _ _)
      | (with_reducible exact rule_Backward.mono _ _ _ _ _ _ _)
      | (with_reducible exact rule_Check.mono _ _ _ _ _ _)
      | (with_reducible exact rule_Forward.mono _ _ _ _ _ _ _)
      | (with_reducible exact stockyardlaw04_awake.mono _)
      | (with_reducible exact stockyardlaw04_fit.mono _ _ _ _ _ _)
      | (with_reducible exact LeO.refl _)
      | (with_reducible exact LeO.none _)
      | (with_reducible refine LeO.ite ?_ ?_)
      | (with_reducible refine LeO.bind ?_ (fun _ => ?_))
      | exact ih0 _ _ _ _ _ _ _
      | exact ih1 _ _ _ _ _ _ _ _ _
      | exact ih2 _ _ _ _ _ _
      | exact rule_Backward.mono _ _ _ _ _ _ _
      | exact rule_Check.mono _ _ _ _ _ _
      | exact rule_Forward.mono _ _ _ _ _ _ _
      | exact stockyardlaw04_awake.mono _
      | exact stockyardlaw04_fit.mono _ _ _ _ _ _
      | exact LeO.none _
      | refine LeO.ite ?_ ?_
      | refine LeO.bind ?_ (fun _ => ?_)
    · intro y0 y1 y2 y3 y4 y5
      unfold stockyardlaw04_RuleBack.j2
      repeat' first
      | (with_reducible exact ih0 _ _ _ _ _ _ _)
      | (with_reducible exact ih1 _ _ _ _ _ _ _ _ _)
      | (with_reducible exact ih2 _ _ _ _ _ _)
      | (with_reducible exact rule_Backward.mono _ _ _ _ _ _ _)
      | (with_reducible exact rule_Check.mono _ _ _ _ _ _)
      | (with_reducible exact rule_Forward.mono _ _ _ _ _ _ _)
      | (with_reducible exact stockyardlaw04_awake.mono _)
      | (with_reducible exact stockyardlaw04_fit.mono _ _ _ _ _ _)
      | (with_reducible exact LeO.refl _)
      | (with_reducible exact LeO.none _)
      | (with_reducible refine LeO.ite ?_ ?_)
      | (with_reducible refine LeO.bind ?_ (fun _ => ?_))
      | exact ih0 _ _ _ _ _ _ _
      | exact ih1 _ _ _ _ _ _ _ _ _
      | exact ih2 _ _ _ _ _ _
      | exact rule_Backward.mono _ _ _ _ _ _ _
      | exact rule_Check.mono _ _ _ _ _ _
      | exact rule_Forward.mono _ _ _ _ _ _ _
      | exact stockyardlaw04_awake.mono _
      | exact stockyardlaw04_fit.mono _ _ _ _ _ _
      | exact LeO.none _
      | refine LeO.ite ?_ ?_
      | refine LeO.bind ?_ (fun _ => ?_)
theorem stockyardlaw04_RuleBack.mono : ∀ a0 a1 a2 a3 a4 a5 k, LeO (stockyardlaw04_RuleBack.f k a0 a1 a2 a3 a4 a5) (stockyardlaw04_RuleBack.f (k + 1) a0 a1 a2 a3 a4 a5) := by
  intro a0 a1 a2 a3 a4 a5 k
  obtain ⟨ih0, ih1, ih2⟩ := stockyardlaw04_RuleBack.mono_l k
  unfold stockyardlaw04_RuleBack.f
  repeat' first
      | (with_reducible exact ih0 _ _ _ _ _ _ _)
      | (with_reducible exact ih1 _ _ _ _ _ _ _ _ _)
      | (with_reducible exact ih2 _ _ _ _ _ _)
      | (with_reducible exact rule_Backward.mono _ _ _ _ _ _ _)
      | (with_reducible exact rule_Check.mono _ _ _ _ _ _)
      | (with_reducible exact rule_Forward.mono _ _ _ _ _ _ _)
      | (with_reducible exact stockyardlaw04_awake.mono _)
      | (with_reducible exact stockyardlaw04_fit.mono _ _ _ _ _ _)
      | (with_reducible exact LeO.refl _)
      | (with_reducible exact LeO.none _)
      | (with_reducible refine LeO.ite ?_ ?_)
      | (with_reducible refine LeO.bind ?_ (fun _ => ?_))
      | exact ih0 _ _ _ _ _ _ _
      | exact ih1 _ _ _ _ _ _ _ _ _
      | exact ih2 _ _ _ _ _ _
      | exact rule_Backward.mono _ _ _ _ _ _ _
      | exact rule_Check.mono _ _ _ _ _ _
      | exact rule_Forward.mono _ _ _ _ _ _ _
      | exact stockyardlaw04_awake.mono _
      | exact stockyardlaw04_fit.mono _ _ _ _ _ _
      | exact LeO.none _
      | refine LeO.ite ?_ ?_
      | refine LeO.bind ?_ (fun _ => ?_)
set_option maxHeartbeats 8000000 in
set_option maxRecDepth 100000 in
theorem stockyardlaw04_RuleBack.calls (k : Nat) (a0_0 : Bool) (A0_1 : Option Addr) (c0_1 : Nat) (l0_1 : List ByteArray) (a0_2 : Bool) (A0_3 : Option Addr) (c0_3 : Nat) (l0_3 : List ByteArray) (a0_4 : Bool) (a1 : ByteArray) (r : Bool) (w : World) (hr0_1 : Kd.C Kd.string w A0_1 l0_1.length l0_1) (hc0_1 : l0_1.length ≤ c0_1) (hr0_3 : Kd.C Kd.string w A0_3 l0_3.length l0_3) (hc0_3 : l0_3.length ≤ c0_3) (h : stockyardlaw04_RuleBack.f k a0_0 l0_1 a0_2 l0_3 a0_4 a1 = some r) :
    Calls Tryd.prog 4 #[.agg #[.bool a0_0, .slice A0_1 l0_1.length c0_1, .bool a0_2, .slice A0_3 l0_3.length c0_3, .bool a0_4], .string a1] w fun e w' => e = .returned (.bool r) ∧ Below w.heap.size w w' := by
  have hu26 := Tryd.underlying26
  have HR0_1 := Aside0.mk hr0_1
  have HC0_1 := Aside0.mk hc0_1
  clear hr0_1 hc0_1
  have HR0_3 := Aside0.mk hr0_3
  have HC0_3 := Aside0.mk hc0_3
  clear hr0_3 hc0_3
  have HB := Aside0.mk (Below.refl w.heap.size w)
  have H : ((stockyardlaw04_fit.f k a0_0 l0_1 a0_2 l0_3 a0_4).bind fun t334 => (if t334 = true then (stockyardlaw04_RuleBack.j0 k a1 (decide ((a1.size : Int) > 300)) a0_0 l0_1 a0_2 l0_3 a0_4) else (stockyardlaw04_RuleBack.j0 k a1 true a0_0 l0_1 a0_2 l0_3 a0_4))) = some r := h
  clear h
  have HC3 := Aside0.mk H
  clear H
  go_enter Tryd.func4, Tryd.ntmps4
  go_upto_region 1 with (first | ((with_reducible refine gate_dst (N := 2) rfl ?_); (try (refine gate_guard (by rfl) ?_; dsimp only)); refine box_event ?hg (N := 2) ?hd (cs := #[.bool a0_0, .slice A0_1 l0_1.length c0_1, .bool a0_2, .slice A0_3 l0_3.length c0_3, .bool a0_4]) (t := 26) ?hr ?_; (case hd => rfl); (case hg => rfl); (case hr => first | (go_simp; done) | (go_simp; rfl)); intro gb333 hg w4 hbox hb; have n0_ := Aside0.mk (below_step (by repeat (first | (with_reducible first | exact HB.out | apply below_alloc | apply pw_below_drewN | apply below_drew1) | exact HB.out)) hb); have n1_ := Aside0.mk (hbox); have n2_ := Aside0.mk ((by rw [hg]; exact (below_size (by repeat (first | (with_reducible first | exact HB.out | apply below_alloc | apply pw_below_drewN | apply below_drew1) | exact HB.out))) : w.heap.size ≤ gb333)); have n3_ := Aside0.mk ((by rw [hg]; exact (below_size (by repeat (first | (with_reducible first | exact HB.out | apply below_alloc | apply pw_below_drewN | apply below_drew1) | exact HB.out))) : w.heap.size ≤ gb333)); clear HB; have HB := n0_; have BK333 := n1_; have GW333 := n2_; have GE333 := n3_; clear n0_ n1_ n2_ n3_; clear hb hbox hg))
  (try simp only [Act.put, List.setIfInBounds_toArray, List.set_cons_zero, List.set_cons_succ])
  go_cut [21] (fun v21 wc => ∃ (kq : Nat) (x21_2 : Bool), v21 = .bool x21_2 ∧ Aside0 (stockyardlaw04_RuleBack.j0 kq a1 x21_2 a0_0 l0_1 a0_2 l0_3 a0_4 = some r) ∧ Aside0 (kq ≤ k) ∧ Aside0 (wc.heap[gb333]? = some (.cells #[.bool a0_0, (.slice A0_1 l0_1.length c0_1), .bool a0_2, (.slice A0_3 l0_3.length c0_3), .bool a0_4] 26 (0, 0))) ∧ Aside0 (Below w.heap.size w wc))
  case first =>
    have H := HC3.out
    clear HC3
    replace H := Option.bind_eq_some_iff.mp H
    obtain ⟨t334, A50, H⟩ := H
    replace H : (if t334 = true then (stockyardlaw04_RuleBack.j0 k a1 (decide ((a1.size : Int) > 300)) a0_0 l0_1 a0_2 l0_3 a0_4) else (stockyardlaw04_RuleBack.j0 k a1 true a0_0 l0_1 a0_2 l0_3 a0_4)) = some r := H
    have A5 := Aside0.mk A50
    clear A50
    by_cases c6 : t334 = true
    · subst c6
      have H1 : (stockyardlaw04_RuleBack.j0 k a1 (decide ((a1.size : Int) > 300)) a0_0 l0_1 a0_2 l0_3 a0_4) = some r := by rw [if_pos rfl] at H; exact H
      clear H
      have H := H1
      clear H1
      have H' := Aside0.mk H
      clear H
      have hcz7_0 : w4.cell? ⟨gb333, 0, none⟩ = some (.bool a0_0) := (blk_cell BK333.out 0).trans rfl
      have hcz7_1 : w4.cell? ⟨gb333, 1, none⟩ = some (.slice A0_1 l0_1.length c0_1) := (blk_cell BK333.out 1).trans rfl
      have hcz7_2 : w4.cell? ⟨gb333, 2, none⟩ = some (.bool a0_2) := (blk_cell BK333.out 2).trans rfl
      have hcz7_3 : w4.cell? ⟨gb333, 3, none⟩ = some (.slice A0_3 l0_3.length c0_3) := (blk_cell BK333.out 3).trans rfl
      have hcz7_4 : w4.cell? ⟨gb333, 4, none⟩ = some (.bool a0_4) := (blk_cell BK333.out 4).trans rfl
      have hfz7_0 := blk_frozen BK333.out 0
      have hfz7_1 := blk_frozen BK333.out 1
      have hfz7_2 := blk_frozen BK333.out 2
      have hfz7_3 := blk_frozen BK333.out 3
      have hfz7_4 := blk_frozen BK333.out 4
      go_wp2_with (first | ((with_reducible refine gate_callee (f := 6) rfl ?_); refine goesL_ (some 15) rfl rfl Tryd.func6 (by kernel_rfl) rfl #[.agg #[.bool a0_0, .slice A0_1 l0_1.length c0_1, .bool a0_2, .slice A0_3 l0_3.length c0_3, .bool a0_4]] rfl (by (try simp only [List.map_toArray, List.map_cons, List.map_nil]); first | done | rfl | (simp only [List.length_drop, List.length_take]; rfl)) ?_; (with_reducible refine (stockyardlaw04_fit.calls k a0_0 _ _ l0_1 a0_2 _ _ l0_3 a0_4 true _ ?side1 ?side2 ?side3 ?side4 A5.out).mono ?_); (case side1 => repeat (first | exact (Kd.C_below HR0_1.out HB.out) | (with_reducible refine Kd.C_alloc ?_ _) | (with_reducible refine Kd.C_drewN ?_ _) | (with_reducible refine Kd.C_drew ?_))); (case side2 => exact HC0_1.out); (case side3 => repeat (first | exact (Kd.C_below HR0_3.out HB.out) | (with_reducible refine Kd.C_alloc ?_ _) | (with_reducible refine Kd.C_drewN ?_ _) | (with_reducible refine Kd.C_drew ?_))); (case side4 => exact HC0_3.out); rintro e w8 ⟨rfl, hb⟩; refine ⟨_, rfl, ?_⟩; have n0_ := Aside0.mk (blk_below (g := gb333) (o := .cells #[.bool a0_0, .slice A0_1 l0_1.length c0_1, .bool a0_2, .slice A0_3 l0_3.length c0_3, .bool a0_4] 26 (0, 0)) (by (with_reducible repeat (first | refine blk_drewN ?_ _ | refine blk_drew ?_ | refine blk_alloc ?_ _)); exact BK333.out) hb); have n1_ := Aside0.mk (below_step (by repeat (first | (with_reducible first | exact HB.out | apply below_alloc | apply pw_below_drewN | apply below_drew1 | refine below_set ?_ GE333.out) | exact HB.out)) hb); clear BK333; clear HB; have BK333 := n0_; have HB := n1_; clear n0_ n1_; (try clear hb); (try clear hb2); (try clear hk); (try clear hi)))
      go_meet
      case rel => exact ⟨_, (decide ((a1.size : Int) > 300)), (by first | rfl | (simp; done) | (simp [*]; done)), H', ⟨by first | omega | exact Nat.le_refl _⟩, ⟨by (with_reducible repeat (first | refine blk_drewN ?_ _ | refine blk_drew ?_ | refine blk_alloc ?_ _)); exact BK333.out⟩, ⟨by repeat (first | (with_reducible first | exact HB.out | apply below_alloc | apply pw_below_drewN | apply below_drew1 | refine below_set ?_ GE333.out) | exact HB.out)⟩⟩
    · replace c6 := Bool.eq_false_iff.mpr c6
      subst c6
      have H1 : (stockyardlaw04_RuleBack.j0 k a1 true a0_0 l0_1 a0_2 l0_3 a0_4) = some r := by rw [if_neg (show ¬ (false = true) by decide)] at H; exact H
      clear H
      have H := H1
      clear H1
      have H' := Aside0.mk H
      clear H
      have hcz9_0 : w4.cell? ⟨gb333, 0, none⟩ = some (.bool a0_0) := (blk_cell BK333.out 0).trans rfl
      have hcz9_1 : w4.cell? ⟨gb333, 1, none⟩ = some (.slice A0_1 l0_1.length c0_1) := (blk_cell BK333.out 1).trans rfl
      have hcz9_2 : w4.cell? ⟨gb333, 2, none⟩ = some (.bool a0_2) := (blk_cell BK333.out 2).trans rfl
      have hcz9_3 : w4.cell? ⟨gb333, 3, none⟩ = some (.slice A0_3 l0_3.length c0_3) := (blk_cell BK333.out 3).trans rfl
      have hcz9_4 : w4.cell? ⟨gb333, 4, none⟩ = some (.bool a0_4) := (blk_cell BK333.out 4).trans rfl
      have hfz9_0 := blk_frozen BK333.out 0
      have hfz9_1 := blk_frozen BK333.out 1
      have hfz9_2 := blk_frozen BK333.out 2
      have hfz9_3 := blk_frozen BK333.out 3
      have hfz9_4 := blk_frozen BK333.out 4
      go_wp2_with (first | ((with_reducible refine gate_callee (f := 6) rfl ?_); refine goesL_ (some 15) rfl rfl Tryd.func6 (by kernel_rfl) rfl #[.agg #[.bool a0_0, .slice A0_1 l0_1.length c0_1, .bool a0_2, .slice A0_3 l0_3.length c0_3, .bool a0_4]] rfl (by (try simp only [List.map_toArray, List.map_cons, List.map_nil]); first | done | rfl | (simp only [List.length_drop, List.length_take]; rfl)) ?_; (with_reducible refine (stockyardlaw04_fit.calls k a0_0 _ _ l0_1 a0_2 _ _ l0_3 a0_4 false _ ?side1 ?side2 ?side3 ?side4 A5.out).mono ?_); (case side1 => repeat (first | exact (Kd.C_below HR0_1.out HB.out) | (with_reducible refine Kd.C_alloc ?_ _) | (with_reducible refine Kd.C_drewN ?_ _) | (with_reducible refine Kd.C_drew ?_))); (case side2 => exact HC0_1.out); (case side3 => repeat (first | exact (Kd.C_below HR0_3.out HB.out) | (with_reducible refine Kd.C_alloc ?_ _) | (with_reducible refine Kd.C_drewN ?_ _) | (with_reducible refine Kd.C_drew ?_))); (case side4 => exact HC0_3.out); rintro e w10 ⟨rfl, hb⟩; refine ⟨_, rfl, ?_⟩; have n0_ := Aside0.mk (blk_below (g := gb333) (o := .cells #[.bool a0_0, .slice A0_1 l0_1.length c0_1, .bool a0_2, .slice A0_3 l0_3.length c0_3, .bool a0_4] 26 (0, 0)) (by (with_reducible repeat (first | refine blk_drewN ?_ _ | refine blk_drew ?_ | refine blk_alloc ?_ _)); exact BK333.out) hb); have n1_ := Aside0.mk (below_step (by repeat (first | (with_reducible first | exact HB.out | apply below_alloc | apply pw_below_drewN | apply below_drew1 | refine below_set ?_ GE333.out) | exact HB.out)) hb); clear BK333; clear HB; have BK333 := n0_; have HB := n1_; clear n0_ n1_; (try clear hb); (try clear hb2); (try clear hk); (try clear hi)))
      go_meet
      case rel => exact ⟨_, (true), (by first | rfl | (simp; done) | (simp [*]; done)), H', ⟨by first | omega | exact Nat.le_refl _⟩, ⟨by (with_reducible repeat (first | refine blk_drewN ?_ _ | refine blk_drew ?_ | refine blk_alloc ?_ _)); exact BK333.out⟩, ⟨by repeat (first | (with_reducible first | exact HB.out | apply below_alloc | apply pw_below_drewN | apply below_drew1 | refine below_set ?_ GE333.out) | exact HB.out)⟩⟩
  case rest =>
    clear HC3
    try clear p2
    try clear c4
    try clear c6
    try clear hcz7_0
    try clear hcz7_1
    try clear hcz7_2
    try clear hcz7_3
    try clear hcz7_4
    try clear hcz9_0
    try clear hcz9_1
    try clear hcz9_2
    try clear hcz9_3
    try clear hcz9_4
    try clear hfz7_0
    try clear hfz7_1
    try clear hfz7_2
    try clear hfz7_3
    try clear hfz7_4
    try clear hfz9_0
    try clear hfz9_1
    try clear hfz9_2
    try clear hfz9_3
    try clear hfz9_4
    obtain ⟨kq, x21_2, rfl, HA, HJ2, BK333, HB⟩ := hcut
    cases kq with
    | zero => exact absurd HA.out (by simp [stockyardlaw04_RuleBack.j0])
    | succ kj2 =>
      have H := HA.out
      clear HA
      simp only [stockyardlaw04_RuleBack.j0] at H
      by_cases c11 : x21_2 = true
      · subst c11
        have H1 : ((stockyardlaw04_awake.f kj2).bind fun t335 => (some t335)) = some r := by rw [if_pos rfl] at H; exact H
        clear H
        have H := H1
        clear H1
        replace H := Option.bind_eq_some_iff.mp H
        obtain ⟨t335, A120, H⟩ := H
        replace H : (some t335) = some r := H
        have A12 := Aside0.mk A120
        clear A120
        obtain rfl := Option.some.inj H
        go_wp2_with (first | ((with_reducible refine gate_callee (f := 7) rfl ?_); refine goesL_ (some 22) rfl rfl Tryd.func7 (by kernel_rfl) rfl #[] rfl (by (try simp only [List.map_toArray, List.map_cons, List.map_nil]); first | done | rfl | (simp only [List.length_drop, List.length_take]; rfl)) ?_; (with_reducible refine (stockyardlaw04_awake.calls kj2  t335 _ A12.out).mono ?_); rintro e w13 ⟨rfl, hb⟩; refine ⟨_, rfl, ?_⟩; have n0_ := Aside0.mk (blk_below (g := gb333) (o := .cells #[.bool a0_0, .slice A0_1 l0_1.length c0_1, .bool a0_2, .slice A0_3 l0_3.length c0_3, .bool a0_4] 26 (0, 0)) (by (with_reducible repeat (first | refine blk_drewN ?_ _ | refine blk_drew ?_ | refine blk_alloc ?_ _)); exact BK333.out) hb); have n1_ := Aside0.mk (below_step (by repeat (first | (with_reducible first | exact HB.out | apply below_alloc | apply pw_below_drewN | apply below_drew1 | refine below_set ?_ GE333.out) | exact HB.out)) hb); clear BK333; clear HB; have BK333 := n0_; have HB := n1_; clear n0_ n1_; (try clear hb); (try clear hb2); (try clear hk); (try clear hi)))
        go_ret
        exact ⟨by first | rfl | (simp [errW_none, errW_some] <;> rfl) | (simp [*, errW_none, errW_some] <;> rfl), by repeat (first | (with_reducible first | exact HB.out | apply below_alloc | apply pw_below_drewN | apply below_drew1 | refine below_set ?_ GE333.out) | exact HB.out)⟩
      · replace c11 := Bool.eq_false_iff.mpr c11
        subst c11
        have H1 : ((rule_Turn.f a0_0 l0_1 a0_2 l0_3 a0_4).bind fun bt336 => ((rule_Forward.f kj2 a0_0 l0_1 a0_2 l0_3 a0_4 a1).bind fun bt346 => ((rule_Backward.f kj2 bt336.1 bt336.2.1 bt336.2.2.1 bt336.2.2.2.1 bt336.2.2.2.2 a1).bind fun bt348 => (if bt346.1.toList = bt348.1.toList then (if (bt346.2 != bt348.2) = true then (stockyardlaw04_RuleBack.j1 kj2 a1 bt346.1 bt346.2 true a0_0 l0_1 a0_2 l0_3 a0_4) else ((rule_Check.f kj2 a0_0 l0_1 a0_2 l0_3 a0_4).bind fun t350 => (if t350 = 0 then (stockyardlaw04_RuleBack.j1 kj2 a1 bt346.1 bt346.2 false a0_0 l0_1 a0_2 l0_3 a0_4) else (stockyardlaw04_RuleBack.j1 kj2 a1 bt346.1 bt346.2 bt346.2 a0_0 l0_1 a0_2 l0_3 a0_4)))) else (stockyardlaw04_RuleBack.j1 kj2 a1 bt346.1 bt346.2 true a0_0 l0_1 a0_2 l0_3 a0_4))))) = some r := by rw [if_neg (show ¬ (false = true) by decide)] at H; exact H
        clear H
        have H := H1
        clear H1
        replace H := Option.bind_eq_some_iff.mp H
        obtain ⟨⟨t336, t337, t340, t341, t344⟩, A140, H⟩ := H
        replace H : ((rule_Forward.f kj2 a0_0 l0_1 a0_2 l0_3 a0_4 a1).bind fun bt346 => ((rule_Backward.f kj2 t336 t337 t340 t341 t344 a1).bind fun bt348 => (if bt346.1.toList = bt348.1.toList then (if (bt346.2 != bt348.2) = true then (stockyardlaw04_RuleBack.j1 kj2 a1 bt346.1 bt346.2 true a0_0 l0_1 a0_2 l0_3 a0_4) else ((rule_Check.f kj2 a0_0 l0_1 a0_2 l0_3 a0_4).bind fun t350 => (if t350 = 0 then (stockyardlaw04_RuleBack.j1 kj2 a1 bt346.1 bt346.2 false a0_0 l0_1 a0_2 l0_3 a0_4) else (stockyardlaw04_RuleBack.j1 kj2 a1 bt346.1 bt346.2 bt346.2 a0_0 l0_1 a0_2 l0_3 a0_4)))) else (stockyardlaw04_RuleBack.j1 kj2 a1 bt346.1 bt346.2 true a0_0 l0_1 a0_2 l0_3 a0_4)))) = some r := H
        have A14 := Aside0.mk A140
        clear A140
        replace H := Option.bind_eq_some_iff.mp H
        obtain ⟨⟨t346, t347⟩, A150, H⟩ := H
        replace H : ((rule_Backward.f kj2 t336 t337 t340 t341 t344 a1).bind fun bt348 => (if t346.toList = bt348.1.toList then (if (t347 != bt348.2) = true then (stockyardlaw04_RuleBack.j1 kj2 a1 t346 t347 true a0_0 l0_1 a0_2 l0_3 a0_4) else ((rule_Check.f kj2 a0_0 l0_1 a0_2 l0_3 a0_4).bind fun t350 => (if t350 = 0 then (stockyardlaw04_RuleBack.j1 kj2 a1 t346 t347 false a0_0 l0_1 a0_2 l0_3 a0_4) else (stockyardlaw04_RuleBack.j1 kj2 a1 t346 t347 t347 a0_0 l0_1 a0_2 l0_3 a0_4)))) else (stockyardlaw04_RuleBack.j1 kj2 a1 t346 t347 true a0_0 l0_1 a0_2 l0_3 a0_4))) = some r := H
        have A15 := Aside0.mk A150
        clear A150
        replace H := Option.bind_eq_some_iff.mp H
        obtain ⟨⟨t348, t349⟩, A160, H⟩ := H
        replace H : (if t346.toList = t348.toList then (if (t347 != t349) = true then (stockyardlaw04_RuleBack.j1 kj2 a1 t346 t347 true a0_0 l0_1 a0_2 l0_3 a0_4) else ((rule_Check.f kj2 a0_0 l0_1 a0_2 l0_3 a0_4).bind fun t350 => (if t350 = 0 then (stockyardlaw04_RuleBack.j1 kj2 a1 t346 t347 false a0_0 l0_1 a0_2 l0_3 a0_4) else (stockyardlaw04_RuleBack.j1 kj2 a1 t346 t347 t347 a0_0 l0_1 a0_2 l0_3 a0_4)))) else (stockyardlaw04_RuleBack.j1 kj2 a1 t346 t347 true a0_0 l0_1 a0_2 l0_3 a0_4)) = some r := H
        have A16 := Aside0.mk A160
        clear A160
        have HC17 := Aside0.mk H
        clear H
        have hcz18_0 : wc.cell? ⟨gb333, 0, none⟩ = some (.bool a0_0) := (blk_cell BK333.out 0).trans rfl
        have hcz18_1 : wc.cell? ⟨gb333, 1, none⟩ = some (.slice A0_1 l0_1.length c0_1) := (blk_cell BK333.out 1).trans rfl
        have hcz18_2 : wc.cell? ⟨gb333, 2, none⟩ = some (.bool a0_2) := (blk_cell BK333.out 2).trans rfl
        have hcz18_3 : wc.cell? ⟨gb333, 3, none⟩ = some (.slice A0_3 l0_3.length c0_3) := (blk_cell BK333.out 3).trans rfl
        have hcz18_4 : wc.cell? ⟨gb333, 4, none⟩ = some (.bool a0_4) := (blk_cell BK333.out 4).trans rfl
        have hfz18_0 := blk_frozen BK333.out 0
        have hfz18_1 := blk_frozen BK333.out 1
        have hfz18_2 := blk_frozen BK333.out 2
        have hfz18_3 := blk_frozen BK333.out 3
        have hfz18_4 := blk_frozen BK333.out 4
        go_upto_region 6 with (first | ((with_reducible refine gate_callee (f := 8) rfl ?_); refine goesL_ (some 24) rfl rfl Tryd.func8 (by kernel_rfl) rfl #[.agg #[.bool a0_0, .slice A0_1 l0_1.length c0_1, .bool a0_2, .slice A0_3 l0_3.length c0_3, .bool a0_4]] rfl (by (try simp only [List.map_toArray, List.map_cons, List.map_nil]); first | done | rfl | (simp only [List.length_drop, List.length_take]; rfl)) ?_; (with_reducible refine (rule_Turn.calls a0_0 _ _ l0_1 a0_2 _ _ l0_3 a0_4 t336 t337 t340 t341 t344 _ ?side1 ?side2 ?side3 ?side4 A14.out).mono ?_); (case side1 => repeat (first | exact (Kd.C_below HR0_1.out HB.out) | (with_reducible refine Kd.C_alloc ?_ _) | (with_reducible refine Kd.C_drewN ?_ _) | (with_reducible refine Kd.C_drew ?_))); (case side2 => exact HC0_1.out); (case side3 => repeat (first | exact (Kd.C_below HR0_3.out HB.out) | (with_reducible refine Kd.C_alloc ?_ _) | (with_reducible refine Kd.C_drewN ?_ _) | (with_reducible refine Kd.C_drew ?_))); (case side4 => exact HC0_3.out); rintro e w19 ⟨v338, v342, rfl, ho0, ho1, hb⟩; refine ⟨_, rfl, ?_⟩; have n0_ := Aside0.mk (Kd.R_lower ho0 (below_size (by repeat (first | (with_reducible first | exact HB.out | apply below_alloc | apply pw_below_drewN | apply below_drew1 | refine below_set ?_ GE333.out) | exact HB.out)))); have n1_ := Aside0.mk (Kd.R_lower ho1 (below_size (by repeat (first | (with_reducible first | exact HB.out | apply below_alloc | apply pw_below_drewN | apply below_drew1 | refine below_set ?_ GE333.out) | exact HB.out)))); have n2_ := Aside0.mk (blk_below (g := gb333) (o := .cells #[.bool a0_0, .slice A0_1 l0_1.length c0_1, .bool a0_2, .slice A0_3 l0_3.length c0_3, .bool a0_4] 26 (0, 0)) (by (with_reducible repeat (first | refine blk_drewN ?_ _ | refine blk_drew ?_ | refine blk_alloc ?_ _)); exact BK333.out) hb); have n3_ := Aside0.mk (below_step (by repeat (first | (with_reducible first | exact HB.out | apply below_alloc | apply pw_below_drewN | apply below_drew1 | refine below_set ?_ GE333.out) | exact HB.out)) hb); clear BK333; clear HB; have HO339 := n0_; have HO343 := n1_; have BK333 := n2_; have HB := n3_; clear n0_ n1_ n2_ n3_; (try clear hb); (try clear hb2); (try clear hk); (try clear hi); (try clear ho0); (try clear ho1)) | ((with_reducible refine gate_dst (N := 5) rfl ?_); (try (refine gate_guard (by rfl) ?_; dsimp only)); refine box_event ?hg (N := 5) ?hd (cs := #[.bool false, .slice none 0 0, .bool false, .slice none 0 0, .bool false]) (t := 26) ?hr ?_; (case hd => rfl); (case hg => rfl); (case hr => first | (go_simp; done) | (go_simp; rfl)); intro gb345 hg w20 hbox hb; have n0_ := Aside0.mk (Kd.R_below (by (with_reducible repeat (first | apply Kd.R_alloc | apply Kd.R_drewN | apply Kd.R_drew)); exact HO339.out) hb); have n1_ := Aside0.mk (Kd.R_below (by (with_reducible repeat (first | apply Kd.R_alloc | apply Kd.R_drewN | apply Kd.R_drew)); exact HO343.out) hb); have n2_ := Aside0.mk (blk_below (g := gb333) (o := .cells #[.bool a0_0, .slice A0_1 l0_1.length c0_1, .bool a0_2, .slice A0_3 l0_3.length c0_3, .bool a0_4] 26 (0, 0)) (by (with_reducible repeat (first | refine blk_drewN ?_ _ | refine blk_drew ?_ | refine blk_alloc ?_ _)); exact BK333.out) hb); have n3_ := Aside0.mk (below_step (by repeat (first | (with_reducible first | exact HB.out | apply below_alloc | apply pw_below_drewN | apply below_drew1 | refine below_set ?_ GE333.out) | exact HB.out)) hb); have n4_ := Aside0.mk (hbox); have n5_ := Aside0.mk ((by rw [hg]; exact (below_size (by repeat (first | (with_reducible first | exact HB.out | apply below_alloc | apply pw_below_drewN | apply below_drew1 | refine below_set ?_ GE333.out) | exact HB.out))) : w.heap.size ≤ gb345)); have n6_ := Aside0.mk ((by rw [hg]; exact (below_size (by repeat (first | (with_reducible first | exact HB.out | apply below_alloc | apply pw_below_drewN | apply below_drew1 | refine below_set ?_ GE333.out) | exact HB.out))) : w.heap.size ≤ gb345)); have n7_ := Aside0.mk ((by rw [hg]; exact Nat.ne_of_lt (blk_lt (g := gb333) (o := .cells #[.bool a0_0, .slice A0_1 l0_1.length c0_1, .bool a0_2, .slice A0_3 l0_3.length c0_3, .bool a0_4] 26 (0, 0)) (by (with_reducible repeat (first | refine blk_drewN ?_ _ | refine blk_drew ?_ | refine blk_alloc ?_ _)); exact BK333.out)) : gb333 ≠ gb345)); have n8_ := Aside0.mk ((by rw [hg]; exact Nat.ne_of_gt (blk_lt (g := gb333) (o := .cells #[.bool a0_0, .slice A0_1 l0_1.length c0_1, .bool a0_2, .slice A0_3 l0_3.length c0_3, .bool a0_4] 26 (0, 0)) (by (with_reducible repeat (first | refine blk_drewN ?_ _ | refine blk_drew ?_ | refine blk_alloc ?_ _)); exact BK333.out)) : gb345 ≠ gb333)); clear HO339; clear HO343; clear BK333; clear HB; have HO339 := n0_; have HO343 := n1_; have BK333 := n2_; have HB := n3_; have BK345 := n4_; have GW345 := n5_; have GE345 := n6_; have NB333_345 := n7_; have NB345_333 := n8_; clear n0_ n1_ n2_ n3_ n4_ n5_ n6_ n7_ n8_; clear hb hbox hg; have hnb21 := NB345_333.out; have hnc21 := NB333_345.out; have hcz22_0 : w20.cell? ⟨gb345, 0, none⟩ = some (.bool false) := (blk_cell BK345.out 0).trans rfl; have hcz22_1 : w20.cell? ⟨gb345, 1, none⟩ = some (.slice none 0 0) := (blk_cell BK345.out 1).trans rfl; have hcz22_2 : w20.cell? ⟨gb345, 2, none⟩ = some (.bool false) := (blk_cell BK345.out 2).trans rfl; have hcz22_3 : w20.cell? ⟨gb345, 3, none⟩ = some (.slice none 0 0) := (blk_cell BK345.out 3).trans rfl; have hcz22_4 : w20.cell? ⟨gb345, 4, none⟩ = some (.bool false) := (blk_cell BK345.out 4).trans rfl; have hfz22_0 := blk_frozen BK345.out 0; have hfz22_1 := blk_frozen BK345.out 1; have hfz22_2 := blk_frozen BK345.out 2; have hfz22_3 := blk_frozen BK345.out 3; have hfz22_4 := blk_frozen BK345.out 4; obtain ⟨Ao23, co23, eo23⟩ := Kd.R_slice HO339.out; subst eo23; obtain ⟨Ao24, co24, eo24⟩ := Kd.R_slice HO343.out; subst eo24; have hcz25_0 : w20.cell? ⟨gb333, 0, none⟩ = some (.bool a0_0) := (blk_cell BK333.out 0).trans rfl; have hcz25_1 : w20.cell? ⟨gb333, 1, none⟩ = some (.slice A0_1 l0_1.length c0_1) := (blk_cell BK333.out 1).trans rfl; have hcz25_2 : w20.cell? ⟨gb333, 2, none⟩ = some (.bool a0_2) := (blk_cell BK333.out 2).trans rfl; have hcz25_3 : w20.cell? ⟨gb333, 3, none⟩ = some (.slice A0_3 l0_3.length c0_3) := (blk_cell BK333.out 3).trans rfl; have hcz25_4 : w20.cell? ⟨gb333, 4, none⟩ = some (.bool a0_4) := (blk_cell BK333.out 4).trans rfl; have hfz25_0 := blk_frozen BK333.out 0; have hfz25_1 := blk_frozen BK333.out 1; have hfz25_2 := blk_frozen BK333.out 2; have hfz25_3 := blk_frozen BK333.out 3; have hfz25_4 := blk_frozen BK333.out 4) | ((with_reducible refine gate_callee (f := 13) rfl ?_); refine goesL_ (some 28) rfl rfl Tryd.func13 (by kernel_rfl) rfl #[.agg #[.bool a0_0, .slice A0_1 l0_1.length c0_1, .bool a0_2, .slice A0_3 l0_3.length c0_3, .bool a0_4], .string a1] rfl (by (try simp only [List.map_toArray, List.map_cons, List.map_nil]); first | done | rfl | (simp only [List.length_drop, List.length_take]; rfl)) ?_; (with_reducible refine (rule_Forward.calls kj2 a0_0 _ _ l0_1 a0_2 _ _ l0_3 a0_4 a1 t346 t347 _ ?side1 ?side2 ?side3 ?side4 A15.out).mono ?_); (case side1 => exact Kd.C_below HR0_1.out (by repeat (first | (with_reducible first | exact HB.out | apply below_alloc | apply pw_below_drewN | apply below_drew1 | refine below_set ?_ GE333.out | refine below_set ?_ GE345.out) | exact HB.out))); (case side2 => exact HC0_1.out); (case side3 => exact Kd.C_below HR0_3.out (by repeat (first | (with_reducible first | exact HB.out | apply below_alloc | apply pw_below_drewN | apply below_drew1 | refine below_set ?_ GE333.out | refine below_set ?_ GE345.out) | exact HB.out))); (case side4 => exact HC0_3.out); rintro e w26 ⟨rfl, hb⟩; refine ⟨_, rfl, ?_⟩; have n0_ := Aside0.mk (Kd.R_below (by (with_reducible repeat (first | apply Kd.R_alloc | apply Kd.R_drewN | apply Kd.R_drew)); exact (Kd.R_mono (Kd.R_far (p := ⟨gb345, 4, none⟩) (Kd.R_far (p := ⟨gb345, 3, none⟩) (Kd.R_far (p := ⟨gb345, 2, none⟩) (Kd.R_far (p := ⟨gb345, 1, none⟩) (Kd.R_far (p := ⟨gb345, 0, none⟩) (Kd.R_types HO339.out BK345.out (by decide)) (fun _ hk => hk.2) (.bool t336)) (fun _ hk => hk.2) (.slice Ao23 t337.length co23)) (fun _ hk => hk.2) (.bool t340)) (fun _ hk => hk.2) (.slice Ao24 t341.length co24)) (fun _ hk => hk.2) (.bool t344)) (fun _ h_ => h_.1))) hb); have n1_ := Aside0.mk (Kd.R_below (by (with_reducible repeat (first | apply Kd.R_alloc | apply Kd.R_drewN | apply Kd.R_drew)); exact (Kd.R_mono (Kd.R_far (p := ⟨gb345, 4, none⟩) (Kd.R_far (p := ⟨gb345, 3, none⟩) (Kd.R_far (p := ⟨gb345, 2, none⟩) (Kd.R_far (p := ⟨gb345, 1, none⟩) (Kd.R_far (p := ⟨gb345, 0, none⟩) (Kd.R_types HO343.out BK345.out (by decide)) (fun _ hk => hk.2) (.bool t336)) (fun _ hk => hk.2) (.slice Ao23 t337.length co23)) (fun _ hk => hk.2) (.bool t340)) (fun _ hk => hk.2) (.slice Ao24 t341.length co24)) (fun _ hk => hk.2) (.bool t344)) (fun _ h_ => h_.1))) hb); have n2_ := Aside0.mk (blk_below (g := gb333) (o := .cells #[.bool a0_0, .slice A0_1 l0_1.length c0_1, .bool a0_2, .slice A0_3 l0_3.length c0_3, .bool a0_4] 26 (0, 0)) (by (with_reducible repeat (first | refine blk_drewN ?_ _ | refine blk_drew ?_ | refine blk_alloc ?_ _)); refine blk_far ?_ NB333_345.out _; (with_reducible repeat (first | refine blk_drewN ?_ _ | refine blk_drew ?_ | refine blk_alloc ?_ _)); refine blk_far ?_ NB333_345.out _; (with_reducible repeat (first | refine blk_drewN ?_ _ | refine blk_drew ?_ | refine blk_alloc ?_ _)); refine blk_far ?_ NB333_345.out _; (with_reducible repeat (first | refine blk_drewN ?_ _ | refine blk_drew ?_ | refine blk_alloc ?_ _)); refine blk_far ?_ NB333_345.out _; (with_reducible repeat (first | refine blk_drewN ?_ _ | refine blk_drew ?_ | refine blk_alloc ?_ _)); refine blk_far ?_ NB333_345.out _; (with_reducible repeat (first | refine blk_drewN ?_ _ | refine blk_drew ?_ | refine blk_alloc ?_ _)); exact BK333.out) hb); have n3_ := Aside0.mk (blk_below (g := gb345) (o := .cells #[.bool t336, .slice Ao23 t337.length co23, .bool t340, .slice Ao24 t341.length co24, .bool t344] 26 (0, 0)) (by (with_reducible repeat (first | refine blk_drewN ?_ _ | refine blk_drew ?_ | refine blk_alloc ?_ _)); refine blk_put (cs := #[.bool t336, .slice Ao23 t337.length co23, .bool t340, .slice Ao24 t341.length co24, .bool false]) ?_ 4 _ rfl; (with_reducible repeat (first | refine blk_drewN ?_ _ | refine blk_drew ?_ | refine blk_alloc ?_ _)); refine blk_put (cs := #[.bool t336, .slice Ao23 t337.length co23, .bool t340, .slice none 0 0, .bool false]) ?_ 3 _ rfl; (with_reducible repeat (first | refine blk_drewN ?_ _ | refine blk_drew ?_ | refine blk_alloc ?_ _)); refine blk_put (cs := #[.bool t336, .slice Ao23 t337.length co23, .bool false, .slice none 0 0, .bool false]) ?_ 2 _ rfl; (with_reducible repeat (first | refine blk_drewN ?_ _ | refine blk_drew ?_ | refine blk_alloc ?_ _)); refine blk_put (cs := #[.bool t336, .slice none 0 0, .bool false, .slice none 0 0, .bool false]) ?_ 1 _ rfl; (with_reducible repeat (first | refine blk_drewN ?_ _ | refine blk_drew ?_ | refine blk_alloc ?_ _)); refine blk_put (cs := #[.bool false, .slice none 0 0, .bool false, .slice none 0 0, .bool false]) ?_ 0 _ rfl; (with_reducible repeat (first | refine blk_drewN ?_ _ | refine blk_drew ?_ | refine blk_alloc ?_ _)); exact BK345.out) hb); have n4_ := Aside0.mk (below_step (by repeat (first | (with_reducible first | exact HB.out | apply below_alloc | apply pw_below_drewN | apply below_drew1 | refine below_set ?_ GE333.out | refine below_set ?_ GE345.out) | exact HB.out)) hb); clear HO339; clear HO343; clear BK333; clear BK345; clear HB; have HO339 := n0_; have HO343 := n1_; have BK333 := n2_; have BK345 := n3_; have HB := n4_; clear n0_ n1_ n2_ n3_ n4_; (try clear hb); (try clear hb2); (try clear hk); (try clear hi); have hcz27_0 : w26.cell? ⟨gb345, 0, none⟩ = some (.bool t336) := (blk_cell BK345.out 0).trans rfl; have hcz27_1 : w26.cell? ⟨gb345, 1, none⟩ = some (.slice Ao23 t337.length co23) := (blk_cell BK345.out 1).trans rfl; have hcz27_2 : w26.cell? ⟨gb345, 2, none⟩ = some (.bool t340) := (blk_cell BK345.out 2).trans rfl; have hcz27_3 : w26.cell? ⟨gb345, 3, none⟩ = some (.slice Ao24 t341.length co24) := (blk_cell BK345.out 3).trans rfl; have hcz27_4 : w26.cell? ⟨gb345, 4, none⟩ = some (.bool t344) := (blk_cell BK345.out 4).trans rfl; have hfz27_0 := blk_frozen BK345.out 0; have hfz27_1 := blk_frozen BK345.out 1; have hfz27_2 := blk_frozen BK345.out 2; have hfz27_3 := blk_frozen BK345.out 3; have hfz27_4 := blk_frozen BK345.out 4) | ((with_reducible refine gate_callee (f := 14) rfl ?_); refine goesL_ (some 34) rfl rfl Tryd.func14 (by kernel_rfl) rfl #[.agg #[.bool t336, .slice Ao23 t337.length co23, .bool t340, .slice Ao24 t341.length co24, .bool t344], .string a1] rfl (by (try simp only [List.map_toArray, List.map_cons, List.map_nil]); first | done | rfl | (simp only [List.length_drop, List.length_take]; rfl)) ?_; (with_reducible refine (rule_Backward.calls kj2 t336 _ _ t337 t340 _ _ t341 t344 a1 t348 t349 _ ?side1 ?side2 ?side3 ?side4 A16.out).mono ?_); (case side1 => repeat (first | exact (Kd.R_reads' HO339.out).2.2 | (with_reducible refine Kd.C_alloc ?_ _) | (with_reducible refine Kd.C_drewN ?_ _) | (with_reducible refine Kd.C_drew ?_))); (case side2 => exact (Kd.R_reads' HO339.out).2.1); (case side3 => repeat (first | exact (Kd.R_reads' HO343.out).2.2 | (with_reducible refine Kd.C_alloc ?_ _) | (with_reducible refine Kd.C_drewN ?_ _) | (with_reducible refine Kd.C_drew ?_))); (case side4 => exact (Kd.R_reads' HO343.out).2.1); rintro e w28 ⟨rfl, hb⟩; refine ⟨_, rfl, ?_⟩; have n0_ := Aside0.mk (Kd.R_below (by (with_reducible repeat (first | apply Kd.R_alloc | apply Kd.R_drewN | apply Kd.R_drew)); exact HO339.out) hb); have n1_ := Aside0.mk (Kd.R_below (by (with_reducible repeat (first | apply Kd.R_alloc | apply Kd.R_drewN | apply Kd.R_drew)); exact HO343.out) hb); have n2_ := Aside0.mk (blk_below (g := gb333) (o := .cells #[.bool a0_0, .slice A0_1 l0_1.length c0_1, .bool a0_2, .slice A0_3 l0_3.length c0_3, .bool a0_4] 26 (0, 0)) (by (with_reducible repeat (first | refine blk_drewN ?_ _ | refine blk_drew ?_ | refine blk_alloc ?_ _)); exact BK333.out) hb); have n3_ := Aside0.mk (blk_below (g := gb345) (o := .cells #[.bool t336, .slice Ao23 t337.length co23, .bool t340, .slice Ao24 t341.length co24, .bool t344] 26 (0, 0)) (by (with_reducible repeat (first | refine blk_drewN ?_ _ | refine blk_drew ?_ | refine blk_alloc ?_ _)); exact BK345.out) hb); have n4_ := Aside0.mk (below_step (by repeat (first | (with_reducible first | exact HB.out | apply below_alloc | apply pw_below_drewN | apply below_drew1 | refine below_set ?_ GE333.out | refine below_set ?_ GE345.out) | exact HB.out)) hb); clear HO339; clear HO343; clear BK333; clear BK345; clear HB; have HO339 := n0_; have HO343 := n1_; have BK333 := n2_; have BK345 := n3_; have HB := n4_; clear n0_ n1_ n2_ n3_ n4_; (try clear hb); (try clear hb2); (try clear hk); (try clear hi)))
        (try simp only [Act.put, List.setIfInBounds_toArray, List.set_cons_zero, List.set_cons_succ])
        go_cut [52] (fun v52 wc => ∃ (kq : Nat) (x52_16 : Bool), v52 = .bool x52_16 ∧ Aside0 (stockyardlaw04_RuleBack.j1 kq a1 t346 t347 x52_16 a0_0 l0_1 a0_2 l0_3 a0_4 = some r) ∧ Aside0 (kq ≤ kj2) ∧ Aside0 (Kd.R Kd.string 9 wc w.heap.size (fun k_ => some k_ ≠ ((.slice Ao24 t341.length co24) : Value).ownBlock) (.slice Ao23 t337.length co23) t337) ∧ Aside0 (Kd.R Kd.string 9 wc w.heap.size (fun k_ => some k_ ≠ ((.slice Ao23 t337.length co23) : Value).ownBlock) (.slice Ao24 t341.length co24) t341) ∧ Aside0 (wc.heap[gb333]? = some (.cells #[.bool a0_0, (.slice A0_1 l0_1.length c0_1), .bool a0_2, (.slice A0_3 l0_3.length c0_3), .bool a0_4] 26 (0, 0))) ∧ Aside0 (wc.heap[gb345]? = some (.cells #[.bool t336, (.slice Ao23 t337.length co23), .bool t340, (.slice Ao24 t341.length co24), .bool t344] 26 (0, 0))) ∧ Aside0 (Below w.heap.size w wc))
        case first =>
          have H := HC17.out
          clear HC17
          by_cases c29 : t346.toList = t348.toList
          · rw [if_pos c29] at H
            have c29b0 : (t346.toList == t348.toList) = true := beq_iff_eq.mpr c29
            have c29b1 : (t346.toList != t348.toList) = false := bne_eq_false_iff_eq.mpr c29
            clear c29
            (first | rw [c29b0] | (simp only [i64_w, i32_w]; rw [c29b0]) | skip)
            by_cases c30 : (t347 != t349) = true
            · rw [if_pos c30] at H
              have c30b0 : (t347 != t349) = true := c30
              (try (have c30b1 : decide (t347 = t349) = false := by simpa using c30))
              (try (have c30b2 : (t347 == t349) = false := by simpa using c30))
              (try (have c30b3 : ¬ (t347 = t349) := by simpa using c30))
              clear c30
              have H' := Aside0.mk H
              clear H
              go_wp2
              go_meet
              case rel => exact ⟨_, (true), (by first | rfl | (simp; done) | (simp [*]; done)), H', ⟨by have := HJ2.out; first | omega | exact Nat.le_refl _⟩, ⟨by (with_reducible repeat (first | apply Kd.R_alloc | apply Kd.R_drewN | apply Kd.R_drew)); exact HO339.out⟩, ⟨by (with_reducible repeat (first | apply Kd.R_alloc | apply Kd.R_drewN | apply Kd.R_drew)); exact HO343.out⟩, ⟨by (with_reducible repeat (first | refine blk_drewN ?_ _ | refine blk_drew ?_ | refine blk_alloc ?_ _)); exact BK333.out⟩, ⟨by (with_reducible repeat (first | refine blk_drewN ?_ _ | refine blk_drew ?_ | refine blk_alloc ?_ _)); exact BK345.out⟩, ⟨by repeat (first | (with_reducible first | exact HB.out | apply below_alloc | apply pw_below_drewN | apply below_drew1 | refine below_set ?_ GE333.out | refine below_set ?_ GE345.out) | exact HB.out)⟩⟩
            · rw [if_neg c30] at H
              have c30b0 : (t347 != t349) = false := by simpa using c30
              (try (have c30b1 : decide (t347 = t349) = true := by simpa using c30))
              (try (have c30b2 : (t347 == t349) = true := by simpa using c30))
              clear c30
              replace H := Option.bind_eq_some_iff.mp H
              obtain ⟨t350, A310, H⟩ := H
              replace H : (if t350 = 0 then (stockyardlaw04_RuleBack.j1 kj2 a1 t346 t347 false a0_0 l0_1 a0_2 l0_3 a0_4) else (stockyardlaw04_RuleBack.j1 kj2 a1 t346 t347 t347 a0_0 l0_1 a0_2 l0_3 a0_4)) = some r := H
              have A31 := Aside0.mk A310
              clear A310
              by_cases c32 : t350 = 0
              · rw [if_pos c32] at H
                have c32b0 : (t350 == 0) = true := beq_iff_eq.mpr c32
                have c32b1 : (t350 != 0) = false := bne_eq_false_iff_eq.mpr c32
                clear c32
                have H' := Aside0.mk H
                clear H
                have hnb33 := NB333_345.out
                have hnc33 := NB345_333.out
                have hcz34_0 : w28.cell? ⟨gb333, 0, none⟩ = some (.bool a0_0) := (blk_cell BK333.out 0).trans rfl
                have hcz34_1 : w28.cell? ⟨gb333, 1, none⟩ = some (.slice A0_1 l0_1.length c0_1) := (blk_cell BK333.out 1).trans rfl
                have hcz34_2 : w28.cell? ⟨gb333, 2, none⟩ = some (.bool a0_2) := (blk_cell BK333.out 2).trans rfl
                have hcz34_3 : w28.cell? ⟨gb333, 3, none⟩ = some (.slice A0_3 l0_3.length c0_3) := (blk_cell BK333.out 3).trans rfl
                have hcz34_4 : w28.cell? ⟨gb333, 4, none⟩ = some (.bool a0_4) := (blk_cell BK333.out 4).trans rfl
                have hfz34_0 := blk_frozen BK333.out 0
                have hfz34_1 := blk_frozen BK333.out 1
                have hfz34_2 := blk_frozen BK333.out 2
                have hfz34_3 := blk_frozen BK333.out 3
                have hfz34_4 := blk_frozen BK333.out 4
                go_wp2_with (first | (go_at_call 9; (with_reducible refine (rule_Check.calls kj2 a0_0 _ _ l0_1 a0_2 _ _ l0_3 a0_4 t350 _ ?side1 ?side2 ?side3 ?side4 A31.out).mono ?_); (case side1 => repeat (first | exact (Kd.C_below HR0_1.out HB.out) | (with_reducible refine Kd.C_alloc ?_ _) | (with_reducible refine Kd.C_drewN ?_ _) | (with_reducible refine Kd.C_drew ?_))); (case side2 => exact HC0_1.out); (case side3 => repeat (first | exact (Kd.C_below HR0_3.out HB.out) | (with_reducible refine Kd.C_alloc ?_ _) | (with_reducible refine Kd.C_drewN ?_ _) | (with_reducible refine Kd.C_drew ?_))); (case side4 => exact HC0_3.out); rintro e w35 ⟨rfl, hb⟩; have n0_ := Aside0.mk (Kd.R_below (by (with_reducible repeat (first | apply Kd.R_alloc | apply Kd.R_drewN | apply Kd.R_drew)); exact HO339.out) hb); have n1_ := Aside0.mk (Kd.R_below (by (with_reducible repeat (first | apply Kd.R_alloc | apply Kd.R_drewN | apply Kd.R_drew)); exact HO343.out) hb); have n2_ := Aside0.mk (blk_below (g := gb333) (o := .cells #[.bool a0_0, .slice A0_1 l0_1.length c0_1, .bool a0_2, .slice A0_3 l0_3.length c0_3, .bool a0_4] 26 (0, 0)) (by (with_reducible repeat (first | refine blk_drewN ?_ _ | refine blk_drew ?_ | refine blk_alloc ?_ _)); exact BK333.out) hb); have n3_ := Aside0.mk (blk_below (g := gb345) (o := .cells #[.bool t336, .slice Ao23 t337.length co23, .bool t340, .slice Ao24 t341.length co24, .bool t344] 26 (0, 0)) (by (with_reducible repeat (first | refine blk_drewN ?_ _ | refine blk_drew ?_ | refine blk_alloc ?_ _)); exact BK345.out) hb); have n4_ := Aside0.mk (below_step (by repeat (first | (with_reducible first | exact HB.out | apply below_alloc | apply pw_below_drewN | apply below_drew1 | refine below_set ?_ GE333.out | refine below_set ?_ GE345.out) | exact HB.out)) hb); clear HO339; clear HO343; clear BK333; clear BK345; clear HB; have HO339 := n0_; have HO343 := n1_; have BK333 := n2_; have BK345 := n3_; have HB := n4_; clear n0_ n1_ n2_ n3_ n4_; (try clear hb); (try clear hb2); (try clear hk); (try clear hi)))
                go_meet
                case rel => exact ⟨_, (false), (by first | rfl | (simp; done) | (simp [*]; done)), H', ⟨by have := HJ2.out; first | omega | exact Nat.le_refl _⟩, ⟨by (with_reducible repeat (first | apply Kd.R_alloc | apply Kd.R_drewN | apply Kd.R_drew)); exact HO339.out⟩, ⟨by (with_reducible repeat (first | apply Kd.R_alloc | apply Kd.R_drewN | apply Kd.R_drew)); exact HO343.out⟩, ⟨by (with_reducible repeat (first | refine blk_drewN ?_ _ | refine blk_drew ?_ | refine blk_alloc ?_ _)); exact BK333.out⟩, ⟨by (with_reducible repeat (first | refine blk_drewN ?_ _ | refine blk_drew ?_ | refine blk_alloc ?_ _)); exact BK345.out⟩, ⟨by repeat (first | (with_reducible first | exact HB.out | apply below_alloc | apply pw_below_drewN | apply below_drew1 | refine below_set ?_ GE333.out | refine below_set ?_ GE345.out) | exact HB.out)⟩⟩
              · rw [if_neg c32] at H
                have c32b0 : (t350 == 0) = false := beq_eq_false_iff_ne.mpr c32
                have c32b1 : (t350 != 0) = true := bne_iff_ne.mpr c32
                have H' := Aside0.mk H
                clear H
                have hnb36 := NB333_345.out
                have hnc36 := NB345_333.out
                have hcz37_0 : w28.cell? ⟨gb333, 0, none⟩ = some (.bool a0_0) := (blk_cell BK333.out 0).trans rfl
                have hcz37_1 : w28.cell? ⟨gb333, 1, none⟩ = some (.slice A0_1 l0_1.length c0_1) := (blk_cell BK333.out 1).trans rfl
                have hcz37_2 : w28.cell? ⟨gb333, 2, none⟩ = some (.bool a0_2) := (blk_cell BK333.out 2).trans rfl
                have hcz37_3 : w28.cell? ⟨gb333, 3, none⟩ = some (.slice A0_3 l0_3.length c0_3) := (blk_cell BK333.out 3).trans rfl
                have hcz37_4 : w28.cell? ⟨gb333, 4, none⟩ = some (.bool a0_4) := (blk_cell BK333.out 4).trans rfl
                have hfz37_0 := blk_frozen BK333.out 0
                have hfz37_1 := blk_frozen BK333.out 1
                have hfz37_2 := blk_frozen BK333.out 2
                have hfz37_3 := blk_frozen BK333.out 3
                have hfz37_4 := blk_frozen BK333.out 4
                go_wp2_with (first | (go_at_call 9; (with_reducible refine (rule_Check.calls kj2 a0_0 _ _ l0_1 a0_2 _ _ l0_3 a0_4 t350 _ ?side1 ?side2 ?side3 ?side4 A31.out).mono ?_); (case side1 => repeat (first | exact (Kd.C_below HR0_1.out HB.out) | (with_reducible refine Kd.C_alloc ?_ _) | (with_reducible refine Kd.C_drewN ?_ _) | (with_reducible refine Kd.C_drew ?_))); (case side2 => exact HC0_1.out); (case side3 => repeat (first | exact (Kd.C_below HR0_3.out HB.out) | (with_reducible refine Kd.C_alloc ?_ _) | (with_reducible refine Kd.C_drewN ?_ _) | (with_reducible refine Kd.C_drew ?_))); (case side4 => exact HC0_3.out); rintro e w38 ⟨rfl, hb⟩; have n0_ := Aside0.mk (Kd.R_below (by (with_reducible repeat (first | apply Kd.R_alloc | apply Kd.R_drewN | apply Kd.R_drew)); exact HO339.out) hb); have n1_ := Aside0.mk (Kd.R_below (by (with_reducible repeat (first | apply Kd.R_alloc | apply Kd.R_drewN | apply Kd.R_drew)); exact HO343.out) hb); have n2_ := Aside0.mk (blk_below (g := gb333) (o := .cells #[.bool a0_0, .slice A0_1 l0_1.length c0_1, .bool a0_2, .slice A0_3 l0_3.length c0_3, .bool a0_4] 26 (0, 0)) (by (with_reducible repeat (first | refine blk_drewN ?_ _ | refine blk_drew ?_ | refine blk_alloc ?_ _)); exact BK333.out) hb); have n3_ := Aside0.mk (blk_below (g := gb345) (o := .cells #[.bool t336, .slice Ao23 t337.length co23, .bool t340, .slice Ao24 t341.length co24, .bool t344] 26 (0, 0)) (by (with_reducible repeat (first | refine blk_drewN ?_ _ | refine blk_drew ?_ | refine blk_alloc ?_ _)); exact BK345.out) hb); have n4_ := Aside0.mk (below_step (by repeat (first | (with_reducible first | exact HB.out | apply below_alloc | apply pw_below_drewN | apply below_drew1 | refine below_set ?_ GE333.out | refine below_set ?_ GE345.out) | exact HB.out)) hb); clear HO339; clear HO343; clear BK333; clear BK345; clear HB; have HO339 := n0_; have HO343 := n1_; have BK333 := n2_; have BK345 := n3_; have HB := n4_; clear n0_ n1_ n2_ n3_ n4_; (try clear hb); (try clear hb2); (try clear hk); (try clear hi)))
                go_meet
                case rel => exact ⟨_, (t347), (by first | rfl | (simp; done) | (simp [*]; done)), H', ⟨by have := HJ2.out; first | omega | exact Nat.le_refl _⟩, ⟨by (with_reducible repeat (first | apply Kd.R_alloc | apply Kd.R_drewN | apply Kd.R_drew)); exact HO339.out⟩, ⟨by (with_reducible repeat (first | apply Kd.R_alloc | apply Kd.R_drewN | apply Kd.R_drew)); exact HO343.out⟩, ⟨by (with_reducible repeat (first | refine blk_drewN ?_ _ | refine blk_drew ?_ | refine blk_alloc ?_ _)); exact BK333.out⟩, ⟨by (with_reducible repeat (first | refine blk_drewN ?_ _ | refine blk_drew ?_ | refine blk_alloc ?_ _)); exact BK345.out⟩, ⟨by repeat (first | (with_reducible first | exact HB.out | apply below_alloc | apply pw_below_drewN | apply below_drew1 | refine below_set ?_ GE333.out | refine below_set ?_ GE345.out) | exact HB.out)⟩⟩
          · rw [if_neg c29] at H
            have c29b0 : (t346.toList == t348.toList) = false := beq_eq_false_iff_ne.mpr c29
            have c29b1 : (t346.toList != t348.toList) = true := bne_iff_ne.mpr c29
            (first | rw [c29b0] | (simp only [i64_w, i32_w]; rw [c29b0]) | skip)
            have H' := Aside0.mk H
            clear H
            go_wp2
            go_meet
            case rel => exact ⟨_, (true), (by first | rfl | (simp; done) | (simp [*]; done)), H', ⟨by have := HJ2.out; first | omega | exact Nat.le_refl _⟩, ⟨by (with_reducible repeat (first | apply Kd.R_alloc | apply Kd.R_drewN | apply Kd.R_drew)); exact HO339.out⟩, ⟨by (with_reducible repeat (first | apply Kd.R_alloc | apply Kd.R_drewN | apply Kd.R_drew)); exact HO343.out⟩, ⟨by (with_reducible repeat (first | refine blk_drewN ?_ _ | refine blk_drew ?_ | refine blk_alloc ?_ _)); exact BK333.out⟩, ⟨by (with_reducible repeat (first | refine blk_drewN ?_ _ | refine blk_drew ?_ | refine blk_alloc ?_ _)); exact BK345.out⟩, ⟨by repeat (first | (with_reducible first | exact HB.out | apply below_alloc | apply pw_below_drewN | apply below_drew1 | refine below_set ?_ GE333.out | refine below_set ?_ GE345.out) | exact HB.out)⟩⟩
        case rest =>
          clear HC17
          try clear c1
          try clear c2
          try clear p2
          try clear c3
          try clear c4
          try clear c6
          try clear c7
          try clear c8
          try clear c11
          try clear c13
          try clear c14
          try clear c21
          try clear c29
          try clear c29b0
          try clear c29b1
          try clear c30
          try clear c30b0
          try clear c30b1
          try clear c30b2
          try clear c32
          try clear c32b0
          try clear c32b1
          try clear c33
          try clear c36
          try clear hcz18_0
          try clear hcz18_1
          try clear hcz18_2
          try clear hcz18_3
          try clear hcz18_4
          try clear hcz22_0
          try clear hcz22_1
          try clear hcz22_2
          try clear hcz22_3
          try clear hcz22_4
          try clear hcz25_0
          try clear hcz25_1
          try clear hcz25_2
          try clear hcz25_3
          try clear hcz25_4
          try clear hcz27_0
          try clear hcz27_1
          try clear hcz27_2
          try clear hcz27_3
          try clear hcz27_4
          try clear hcz34_0
          try clear hcz34_1
          try clear hcz34_2
          try clear hcz34_3
          try clear hcz34_4
          try clear hcz37_0
          try clear hcz37_1
          try clear hcz37_2
          try clear hcz37_3
          try clear hcz37_4
          try clear hcz7_0
          try clear hcz7_1
          try clear hcz7_2
          try clear hcz7_3
          try clear hcz7_4
          try clear hcz9_0
          try clear hcz9_1
          try clear hcz9_2
          try clear hcz9_3
          try clear hcz9_4
          try clear hfz18_0
          try clear hfz18_1
          try clear hfz18_2
          try clear hfz18_3
          try clear hfz18_4
          try clear hfz22_0
          try clear hfz22_1
          try clear hfz22_2
          try clear hfz22_3
          try clear hfz22_4
          try clear hfz25_0
          try clear hfz25_1
          try clear hfz25_2
          try clear hfz25_3
          try clear hfz25_4
          try clear hfz27_0
          try clear hfz27_1
          try clear hfz27_2
          try clear hfz27_3
          try clear hfz27_4
          try clear hfz34_0
          try clear hfz34_1
          try clear hfz34_2
          try clear hfz34_3
          try clear hfz34_4
          try clear hfz37_0
          try clear hfz37_1
          try clear hfz37_2
          try clear hfz37_3
          try clear hfz37_4
          try clear hfz7_0
          try clear hfz7_1
          try clear hfz7_2
          try clear hfz7_3
          try clear hfz7_4
          try clear hfz9_0
          try clear hfz9_1
          try clear hfz9_2
          try clear hfz9_3
          try clear hfz9_4
          try clear p2
          obtain ⟨kq, x52_16, rfl, HA, HJ16, HO_346001, HO_346003, BK333, BK345, HB⟩ := hcut
          cases kq with
          | zero => exact absurd HA.out (by simp [stockyardlaw04_RuleBack.j1])
          | succ kj16 =>
            have H := HA.out
            clear HA
            simp only [stockyardlaw04_RuleBack.j1] at H
            by_cases c39 : x52_16 = true
            · subst c39
              have H1 : (some false) = some r := by rw [if_pos rfl] at H; exact H
              clear H
              have H := H1
              clear H1
              obtain rfl := Option.some.inj H
              go_wp2
              go_ret
              exact ⟨by first | rfl | (simp [errW_none, errW_some] <;> rfl) | (simp [*, errW_none, errW_some] <;> rfl), by repeat (first | (with_reducible first | exact HB.out | apply below_alloc | apply pw_below_drewN | apply below_drew1 | refine below_set ?_ GE333.out | refine below_set ?_ GE345.out) | exact HB.out)⟩
            · replace c39 := Bool.eq_false_iff.mpr c39
              subst c39
              have H1 : (if t347 = true then ((rule_Backward.f kj16 a0_0 l0_1 a0_2 l0_3 a0_4 t346).bind fun bt351 => (if bt351.1.toList = a1.toList then (if bt351.2 = true then (stockyardlaw04_RuleBack.j2 kj16 a1 a0_0 l0_1 a0_2 l0_3 a0_4) else (some false)) else (some false))) else (stockyardlaw04_RuleBack.j2 kj16 a1 a0_0 l0_1 a0_2 l0_3 a0_4)) = some r := by rw [if_neg (show ¬ (false = true) by decide)] at H; exact H
              clear H
              have H := H1
              clear H1
              have HC40 := Aside0.mk H
              clear H
              go_upto_if 53 with (fail)
              go_cut [] (fun wc => ∃ (kq : Nat), Aside0 (stockyardlaw04_RuleBack.j2 kq a1 a0_0 l0_1 a0_2 l0_3 a0_4 = some r) ∧ Aside0 (kq ≤ kj16) ∧ Aside0 (Kd.R Kd.string 9 wc w.heap.size (fun k_ => some k_ ≠ ((.slice Ao24 t341.length co24) : Value).ownBlock) (.slice Ao23 t337.length co23) t337) ∧ Aside0 (Kd.R Kd.string 9 wc w.heap.size (fun k_ => some k_ ≠ ((.slice Ao23 t337.length co23) : Value).ownBlock) (.slice Ao24 t341.length co24) t341) ∧ Aside0 (wc.heap[gb333]? = some (.cells #[.bool a0_0, (.slice A0_1 l0_1.length c0_1), .bool a0_2, (.slice A0_3 l0_3.length c0_3), .bool a0_4] 26 (0, 0))) ∧ Aside0 (wc.heap[gb345]? = some (.cells #[.bool t336, (.slice Ao23 t337.length co23), .bool t340, (.slice Ao24 t341.length co24), .bool t344] 26 (0, 0))) ∧ Aside0 (Below w.heap.size w wc))
              case first =>
                have H := HC40.out
                clear HC40
                by_cases c41 : t347 = true
                · subst c41
                  have H1 : ((rule_Backward.f kj16 a0_0 l0_1 a0_2 l0_3 a0_4 t346).bind fun bt351 => (if bt351.1.toList = a1.toList then (if bt351.2 = true then (stockyardlaw04_RuleBack.j2 kj16 a1 a0_0 l0_1 a0_2 l0_3 a0_4) else (some false)) else (some false))) = some r := by rw [if_pos rfl] at H; exact H
                  clear H
                  have H := H1
                  clear H1
                  replace H := Option.bind_eq_some_iff.mp H
                  obtain ⟨⟨t351, t352⟩, A420, H⟩ := H
                  replace H : (if t351.toList = a1.toList then (if t352 = true then (stockyardlaw04_RuleBack.j2 kj16 a1 a0_0 l0_1 a0_2 l0_3 a0_4) else (some false)) else (some false)) = some r := H
                  have A42 := Aside0.mk A420
                  clear A420
                  by_cases c43 : t351.toList = a1.toList
                  · rw [if_pos c43] at H
                    have c43b0 : (t351.toList == a1.toList) = true := beq_iff_eq.mpr c43
                    have c43b1 : (t351.toList != a1.toList) = false := bne_eq_false_iff_eq.mpr c43
                    clear c43
                    (first | rw [c43b0] | (simp only [i64_w, i32_w]; rw [c43b0]) | skip)
                    by_cases c44 : t352 = true
                    · subst c44
                      have H1 : (stockyardlaw04_RuleBack.j2 kj16 a1 a0_0 l0_1 a0_2 l0_3 a0_4) = some r := by rw [if_pos rfl] at H; exact H
                      clear H
                      have H := H1
                      clear H1
                      have H' := Aside0.mk H
                      clear H
                      have hnb45 := NB333_345.out
                      have hnc45 := NB345_333.out
                      have hcz46_0 : wc.cell? ⟨gb333, 0, none⟩ = some (.bool a0_0) := (blk_cell BK333.out 0).trans rfl
                      have hcz46_1 : wc.cell? ⟨gb333, 1, none⟩ = some (.slice A0_1 l0_1.length c0_1) := (blk_cell BK333.out 1).trans rfl
                      have hcz46_2 : wc.cell? ⟨gb333, 2, none⟩ = some (.bool a0_2) := (blk_cell BK333.out 2).trans rfl
                      have hcz46_3 : wc.cell? ⟨gb333, 3, none⟩ = some (.slice A0_3 l0_3.length c0_3) := (blk_cell BK333.out 3).trans rfl
                      have hcz46_4 : wc.cell? ⟨gb333, 4, none⟩ = some (.bool a0_4) := (blk_cell BK333.out 4).trans rfl
                      have hfz46_0 := blk_frozen BK333.out 0
                      have hfz46_1 := blk_frozen BK333.out 1
                      have hfz46_2 := blk_frozen BK333.out 2
                      have hfz46_3 := blk_frozen BK333.out 3
                      have hfz46_4 := blk_frozen BK333.out 4
                      go_wp2_with (first | ((with_reducible refine gate_callee (f := 14) rfl ?_); refine goesL_ (some 57) rfl rfl Tryd.func14 (by kernel_rfl) rfl #[.agg #[.bool a0_0, .slice A0_1 l0_1.length c0_1, .bool a0_2, .slice A0_3 l0_3.length c0_3, .bool a0_4], .string t346] rfl (by (try simp only [List.map_toArray, List.map_cons, List.map_nil]); first | done | rfl | (simp only [List.length_drop, List.length_take]; rfl)) ?_; (with_reducible refine (rule_Backward.calls kj16 a0_0 _ _ l0_1 a0_2 _ _ l0_3 a0_4 t346 t351 true _ ?side1 ?side2 ?side3 ?side4 A42.out).mono ?_); (case side1 => repeat (first | exact (Kd.C_below HR0_1.out HB.out) | (with_reducible refine Kd.C_alloc ?_ _) | (with_reducible refine Kd.C_drewN ?_ _) | (with_reducible refine Kd.C_drew ?_))); (case side2 => exact HC0_1.out); (case side3 => repeat (first | exact (Kd.C_below HR0_3.out HB.out) | (with_reducible refine Kd.C_alloc ?_ _) | (with_reducible refine Kd.C_drewN ?_ _) | (with_reducible refine Kd.C_drew ?_))); (case side4 => exact HC0_3.out); rintro e w47 ⟨rfl, hb⟩; refine ⟨_, rfl, ?_⟩; have n0_ := Aside0.mk (Kd.R_below (by (with_reducible repeat (first | apply Kd.R_alloc | apply Kd.R_drewN | apply Kd.R_drew)); exact HO_346001.out) hb); have n1_ := Aside0.mk (Kd.R_below (by (with_reducible repeat (first | apply Kd.R_alloc | apply Kd.R_drewN | apply Kd.R_drew)); exact HO_346003.out) hb); have n2_ := Aside0.mk (blk_below (g := gb333) (o := .cells #[.bool a0_0, .slice A0_1 l0_1.length c0_1, .bool a0_2, .slice A0_3 l0_3.length c0_3, .bool a0_4] 26 (0, 0)) (by (with_reducible repeat (first | refine blk_drewN ?_ _ | refine blk_drew ?_ | refine blk_alloc ?_ _)); exact BK333.out) hb); have n3_ := Aside0.mk (blk_below (g := gb345) (o := .cells #[.bool t336, .slice Ao23 t337.length co23, .bool t340, .slice Ao24 t341.length co24, .bool t344] 26 (0, 0)) (by (with_reducible repeat (first | refine blk_drewN ?_ _ | refine blk_drew ?_ | refine blk_alloc ?_ _)); exact BK345.out) hb); have n4_ := Aside0.mk (below_step (by repeat (first | (with_reducible first | exact HB.out | apply below_alloc | apply pw_below_drewN | apply below_drew1 | refine below_set ?_ GE333.out | refine below_set ?_ GE345.out) | exact HB.out)) hb); clear HO_346001; clear HO_346003; clear BK333; clear BK345; clear HB; have HO_346001 := n0_; have HO_346003 := n1_; have BK333 := n2_; have BK345 := n3_; have HB := n4_; clear n0_ n1_ n2_ n3_ n4_; (try clear hb); (try clear hb2); (try clear hk); (try clear hi)))
                      go_meet
                      case rel => exact ⟨_, H', ⟨by have := HJ2.out; have := HJ16.out; first | omega | exact Nat.le_refl _⟩, ⟨by (with_reducible repeat (first | apply Kd.R_alloc | apply Kd.R_drewN | apply Kd.R_drew)); exact HO_346001.out⟩, ⟨by (with_reducible repeat (first | apply Kd.R_alloc | apply Kd.R_drewN | apply Kd.R_drew)); exact HO_346003.out⟩, ⟨by (with_reducible repeat (first | refine blk_drewN ?_ _ | refine blk_drew ?_ | refine blk_alloc ?_ _)); exact BK333.out⟩, ⟨by (with_reducible repeat (first | refine blk_drewN ?_ _ | refine blk_drew ?_ | refine blk_alloc ?_ _)); exact BK345.out⟩, ⟨by repeat (first | (with_reducible first | exact HB.out | apply below_alloc | apply pw_below_drewN | apply below_drew1 | refine below_set ?_ GE333.out | refine below_set ?_ GE345.out) | exact HB.out)⟩⟩
                    · replace c44 := Bool.eq_false_iff.mpr c44
                      subst c44
                      have H1 : (some false) = some r := by rw [if_neg (show ¬ (false = true) by decide)] at H; exact H
                      clear H
                      have H := H1
                      clear H1
                      obtain rfl := Option.some.inj H
                      have hnb48 := NB333_345.out
                      have hnc48 := NB345_333.out
                      have hcz49_0 : wc.cell? ⟨gb333, 0, none⟩ = some (.bool a0_0) := (blk_cell BK333.out 0).trans rfl
                      have hcz49_1 : wc.cell? ⟨gb333, 1, none⟩ = some (.slice A0_1 l0_1.length c0_1) := (blk_cell BK333.out 1).trans rfl
                      have hcz49_2 : wc.cell? ⟨gb333, 2, none⟩ = some (.bool a0_2) := (blk_cell BK333.out 2).trans rfl
                      have hcz49_3 : wc.cell? ⟨gb333, 3, none⟩ = some (.slice A0_3 l0_3.length c0_3) := (blk_cell BK333.out 3).trans rfl
                      have hcz49_4 : wc.cell? ⟨gb333, 4, none⟩ = some (.bool a0_4) := (blk_cell BK333.out 4).trans rfl
                      have hfz49_0 := blk_frozen BK333.out 0
                      have hfz49_1 := blk_frozen BK333.out 1
                      have hfz49_2 := blk_frozen BK333.out 2
                      have hfz49_3 := blk_frozen BK333.out 3
                      have hfz49_4 := blk_frozen BK333.out 4
                      go_wp2_with (first | ((with_reducible refine gate_callee (f := 14) rfl ?_); refine goesL_ (some 57) rfl rfl Tryd.func14 (by kernel_rfl) rfl #[.agg #[.bool a0_0, .slice A0_1 l0_1.length c0_1, .bool a0_2, .slice A0_3 l0_3.length c0_3, .bool a0_4], .string t346] rfl (by (try simp only [List.map_toArray, List.map_cons, List.map_nil]); first | done | rfl | (simp only [List.length_drop, List.length_take]; rfl)) ?_; (with_reducible refine (rule_Backward.calls kj16 a0_0 _ _ l0_1 a0_2 _ _ l0_3 a0_4 t346 t351 false _ ?side1 ?side2 ?side3 ?side4 A42.out).mono ?_); (case side1 => repeat (first | exact (Kd.C_below HR0_1.out HB.out) | (with_reducible refine Kd.C_alloc ?_ _) | (with_reducible refine Kd.C_drewN ?_ _) | (with_reducible refine Kd.C_drew ?_))); (case side2 => exact HC0_1.out); (case side3 => repeat (first | exact (Kd.C_below HR0_3.out HB.out) | (with_reducible refine Kd.C_alloc ?_ _) | (with_reducible refine Kd.C_drewN ?_ _) | (with_reducible refine Kd.C_drew ?_))); (case side4 => exact HC0_3.out); rintro e w50 ⟨rfl, hb⟩; refine ⟨_, rfl, ?_⟩; have n0_ := Aside0.mk (Kd.R_below (by (with_reducible repeat (first | apply Kd.R_alloc | apply Kd.R_drewN | apply Kd.R_drew)); exact HO_346001.out) hb); have n1_ := Aside0.mk (Kd.R_below (by (with_reducible repeat (first | apply Kd.R_alloc | apply Kd.R_drewN | apply Kd.R_drew)); exact HO_346003.out) hb); have n2_ := Aside0.mk (blk_below (g := gb333) (o := .cells #[.bool a0_0, .slice A0_1 l0_1.length c0_1, .bool a0_2, .slice A0_3 l0_3.length c0_3, .bool a0_4] 26 (0, 0)) (by (with_reducible repeat (first | refine blk_drewN ?_ _ | refine blk_drew ?_ | refine blk_alloc ?_ _)); exact BK333.out) hb); have n3_ := Aside0.mk (blk_below (g := gb345) (o := .cells #[.bool t336, .slice Ao23 t337.length co23, .bool t340, .slice Ao24 t341.length co24, .bool t344] 26 (0, 0)) (by (with_reducible repeat (first | refine blk_drewN ?_ _ | refine blk_drew ?_ | refine blk_alloc ?_ _)); exact BK345.out) hb); have n4_ := Aside0.mk (below_step (by repeat (first | (with_reducible first | exact HB.out | apply below_alloc | apply pw_below_drewN | apply below_drew1 | refine below_set ?_ GE333.out | refine below_set ?_ GE345.out) | exact HB.out)) hb); clear HO_346001; clear HO_346003; clear BK333; clear BK345; clear HB; have HO_346001 := n0_; have HO_346003 := n1_; have BK333 := n2_; have BK345 := n3_; have HB := n4_; clear n0_ n1_ n2_ n3_ n4_; (try clear hb); (try clear hb2); (try clear hk); (try clear hi)))
                      go_ret
                      exact ⟨by first | rfl | (simp [errW_none, errW_some] <;> rfl) | (simp [*, errW_none, errW_some] <;> rfl), by repeat (first | (with_reducible first | exact HB.out | apply below_alloc | apply pw_below_drewN | apply below_drew1 | refine below_set ?_ GE333.out | refine below_set ?_ GE345.out) | exact HB.out)⟩
                  · rw [if_neg c43] at H
                    have c43b0 : (t351.toList == a1.toList) = false := beq_eq_false_iff_ne.mpr c43
                    have c43b1 : (t351.toList != a1.toList) = true := bne_iff_ne.mpr c43
                    (first | rw [c43b0] | (simp only [i64_w, i32_w]; rw [c43b0]) | skip)
                    obtain rfl := Option.some.inj H
                    have hnb51 := NB333_345.out
                    have hnc51 := NB345_333.out
                    have hcz52_0 : wc.cell? ⟨gb333, 0, none⟩ = some (.bool a0_0) := (blk_cell BK333.out 0).trans rfl
                    have hcz52_1 : wc.cell? ⟨gb333, 1, none⟩ = some (.slice A0_1 l0_1.length c0_1) := (blk_cell BK333.out 1).trans rfl
                    have hcz52_2 : wc.cell? ⟨gb333, 2, none⟩ = some (.bool a0_2) := (blk_cell BK333.out 2).trans rfl
                    have hcz52_3 : wc.cell? ⟨gb333, 3, none⟩ = some (.slice A0_3 l0_3.length c0_3) := (blk_cell BK333.out 3).trans rfl
                    have hcz52_4 : wc.cell? ⟨gb333, 4, none⟩ = some (.bool a0_4) := (blk_cell BK333.out 4).trans rfl
                    have hfz52_0 := blk_frozen BK333.out 0
                    have hfz52_1 := blk_frozen BK333.out 1
                    have hfz52_2 := blk_frozen BK333.out 2
                    have hfz52_3 := blk_frozen BK333.out 3
                    have hfz52_4 := blk_frozen BK333.out 4
                    go_wp2_with (first | ((with_reducible refine gate_callee (f := 14) rfl ?_); refine goesL_ (some 57) rfl rfl Tryd.func14 (by kernel_rfl) rfl #[.agg #[.bool a0_0, .slice A0_1 l0_1.length c0_1, .bool a0_2, .slice A0_3 l0_3.length c0_3, .bool a0_4], .string t346] rfl (by (try simp only [List.map_toArray, List.map_cons, List.map_nil]); first | done | rfl | (simp only [List.length_drop, List.length_take]; rfl)) ?_; (with_reducible refine (rule_Backward.calls kj16 a0_0 _ _ l0_1 a0_2 _ _ l0_3 a0_4 t346 t351 t352 _ ?side1 ?side2 ?side3 ?side4 A42.out).mono ?_); (case side1 => repeat (first | exact (Kd.C_below HR0_1.out HB.out) | (with_reducible refine Kd.C_alloc ?_ _) | (with_reducible refine Kd.C_drewN ?_ _) | (with_reducible refine Kd.C_drew ?_))); (case side2 => exact HC0_1.out); (case side3 => repeat (first | exact (Kd.C_below HR0_3.out HB.out) | (with_reducible refine Kd.C_alloc ?_ _) | (with_reducible refine Kd.C_drewN ?_ _) | (with_reducible refine Kd.C_drew ?_))); (case side4 => exact HC0_3.out); rintro e w53 ⟨rfl, hb⟩; refine ⟨_, rfl, ?_⟩; have n0_ := Aside0.mk (Kd.R_below (by (with_reducible repeat (first | apply Kd.R_alloc | apply Kd.R_drewN | apply Kd.R_drew)); exact HO_346001.out) hb); have n1_ := Aside0.mk (Kd.R_below (by (with_reducible repeat (first | apply Kd.R_alloc | apply Kd.R_drewN | apply Kd.R_drew)); exact HO_346003.out) hb); have n2_ := Aside0.mk (blk_below (g := gb333) (o := .cells #[.bool a0_0, .slice A0_1 l0_1.length c0_1, .bool a0_2, .slice A0_3 l0_3.length c0_3, .bool a0_4] 26 (0, 0)) (by (with_reducible repeat (first | refine blk_drewN ?_ _ | refine blk_drew ?_ | refine blk_alloc ?_ _)); exact BK333.out) hb); have n3_ := Aside0.mk (blk_below (g := gb345) (o := .cells #[.bool t336, .slice Ao23 t337.length co23, .bool t340, .slice Ao24 t341.length co24, .bool t344] 26 (0, 0)) (by (with_reducible repeat (first | refine blk_drewN ?_ _ | refine blk_drew ?_ | refine blk_alloc ?_ _)); exact BK345.out) hb); have n4_ := Aside0.mk (below_step (by repeat (first | (with_reducible first | exact HB.out | apply below_alloc | apply pw_below_drewN | apply below_drew1 | refine below_set ?_ GE333.out | refine below_set ?_ GE345.out) | exact HB.out)) hb); clear HO_346001; clear HO_346003; clear BK333; clear BK345; clear HB; have HO_346001 := n0_; have HO_346003 := n1_; have BK333 := n2_; have BK345 := n3_; have HB := n4_; clear n0_ n1_ n2_ n3_ n4_; (try clear hb); (try clear hb2); (try clear hk); (try clear hi)))
                    go_ret
                    exact ⟨by first | rfl | (simp [errW_none, errW_some] <;> rfl) | (simp [*, errW_none, errW_some] <;> rfl), by repeat (first | (with_reducible first | exact HB.out | apply below_alloc | apply pw_below_drewN | apply below_drew1 | refine below_set ?_ GE333.out | refine below_set ?_ GE345.out) | exact HB.out)⟩
                · replace c41 := Bool.eq_false_iff.mpr c41
                  subst c41
                  have H1 : (stockyardlaw04_RuleBack.j2 kj16 a1 a0_0 l0_1 a0_2 l0_3 a0_4) = some r := by rw [if_neg (show ¬ (false = true) by decide)] at H; exact H
                  clear H
                  have H := H1
                  clear H1
                  have H' := Aside0.mk H
                  clear H
                  go_wp2
                  go_meet
                  case rel => exact ⟨_, H', ⟨by have := HJ2.out; have := HJ16.out; first | omega | exact Nat.le_refl _⟩, ⟨by (with_reducible repeat (first | apply Kd.R_alloc | apply Kd.R_drewN | apply Kd.R_drew)); exact HO_346001.out⟩, ⟨by (with_reducible repeat (first | apply Kd.R_alloc | apply Kd.R_drewN | apply Kd.R_drew)); exact HO_346003.out⟩, ⟨by (with_reducible repeat (first | refine blk_drewN ?_ _ | refine blk_drew ?_ | refine blk_alloc ?_ _)); exact BK333.out⟩, ⟨by (with_reducible repeat (first | refine blk_drewN ?_ _ | refine blk_drew ?_ | refine blk_alloc ?_ _)); exact BK345.out⟩, ⟨by repeat (first | (with_reducible first | exact HB.out | apply below_alloc | apply pw_below_drewN | apply below_drew1 | refine below_set ?_ GE333.out | refine below_set ?_ GE345.out) | exact HB.out)⟩⟩
              case rest =>
                clear HC40
                try clear c1
                try clear c2
                try clear p2
                try clear c3
                try clear c4
                try clear c5
                try clear c6
                try clear c7
                try clear c8
                try clear c11
                try clear c13
                try clear c14
                try clear c21
                try clear c29
                try clear c29b0
                try clear c29b1
                try clear c30
                try clear c30b0
                try clear c30b1
                try clear c30b2
                try clear c32
                try clear c32b0
                try clear c32b1
                try clear c33
                try clear c36
                try clear c39
                try clear c41
                try clear c43
                try clear c43b0
                try clear c43b1
                try clear c44
                try clear c45
                try clear c48
                try clear c51
                try clear hcz18_0
                try clear hcz18_1
                try clear hcz18_2
                try clear hcz18_3
                try clear hcz18_4
                try clear hcz22_0
                try clear hcz22_1
                try clear hcz22_2
                try clear hcz22_3
                try clear hcz22_4
                try clear hcz25_0
                try clear hcz25_1
                try clear hcz25_2
                try clear hcz25_3
                try clear hcz25_4
                try clear hcz27_0
                try clear hcz27_1
                try clear hcz27_2
                try clear hcz27_3
                try clear hcz27_4
                try clear hcz34_0
                try clear hcz34_1
                try clear hcz34_2
                try clear hcz34_3
                try clear hcz34_4
                try clear hcz37_0
                try clear hcz37_1
                try clear hcz37_2
                try clear hcz37_3
                try clear hcz37_4
                try clear hcz46_0
                try clear hcz46_1
                try clear hcz46_2
                try clear hcz46_3
                try clear hcz46_4
                try clear hcz49_0
                try clear hcz49_1
                try clear hcz49_2
                try clear hcz49_3
                try clear hcz49_4
                try clear hcz52_0
                try clear hcz52_1
                try clear hcz52_2
                try clear hcz52_3
                try clear hcz52_4
                try clear hcz7_0
                try clear hcz7_1
                try clear hcz7_2
                try clear hcz7_3
                try clear hcz7_4
                try clear hcz9_0
                try clear hcz9_1
                try clear hcz9_2
                try clear hcz9_3
                try clear hcz9_4
                try clear hfz18_0
                try clear hfz18_1
                try clear hfz18_2
                try clear hfz18_3
                try clear hfz18_4
                try clear hfz22_0
                try clear hfz22_1
                try clear hfz22_2
                try clear hfz22_3
                try clear hfz22_4
                try clear hfz25_0
                try clear hfz25_1
                try clear hfz25_2
                try clear hfz25_3
                try clear hfz25_4
                try clear hfz27_0
                try clear hfz27_1
                try clear hfz27_2
                try clear hfz27_3
                try clear hfz27_4
                try clear hfz34_0
                try clear hfz34_1
                try clear hfz34_2
                try clear hfz34_3
                try clear hfz34_4
                try clear hfz37_0
                try clear hfz37_1
                try clear hfz37_2
                try clear hfz37_3
                try clear hfz37_4
                try clear hfz46_0
                try clear hfz46_1
                try clear hfz46_2
                try clear hfz46_3
                try clear hfz46_4
                try clear hfz49_0
                try clear hfz49_1
                try clear hfz49_2
                try clear hfz49_3
                try clear hfz49_4
                try clear hfz52_0
                try clear hfz52_1
                try clear hfz52_2
                try clear hfz52_3
                try clear hfz52_4
                try clear hfz7_0
                try clear hfz7_1
                try clear hfz7_2
                try clear hfz7_3
                try clear hfz7_4
                try clear hfz9_0
                try clear hfz9_1
                try clear hfz9_2
                try clear hfz9_3
                try clear hfz9_4
                try clear p2
                obtain ⟨kq, HA, HJ39, HO_346001, HO_346003, BK333, BK345, HB⟩ := hcut
                cases kq with
                | zero => exact absurd HA.out (by simp [stockyardlaw04_RuleBack.j2])
                | succ kj39 =>
                  have H := HA.out
                  clear HA
                  simp only [stockyardlaw04_RuleBack.j2] at H
                  replace H := Option.bind_eq_some_iff.mp H
                  obtain ⟨⟨t353, t354⟩, A540, H⟩ := H
                  replace H : (if t354 = true then ((rule_Forward.f kj39 a0_0 l0_1 a0_2 l0_3 a0_4 t353).bind fun bt355 => (if bt355.1.toList = a1.toList then (if bt355.2 = true then ((stockyardlaw04_awake.f kj39).bind fun t357 => (some t357)) else (some false)) else (some false))) else ((stockyardlaw04_awake.f kj39).bind fun t358 => (some t358))) = some r := H
                  have A54 := Aside0.mk A540
                  clear A540
                  by_cases c55 : t354 = true
                  · subst c55
                    have H1 : ((rule_Forward.f kj39 a0_0 l0_1 a0_2 l0_3 a0_4 t353).bind fun bt355 => (if bt355.1.toList = a1.toList then (if bt355.2 = true then ((stockyardlaw04_awake.f kj39).bind fun t357 => (some t357)) else (some false)) else (some false))) = some r := by rw [if_pos rfl] at H; exact H
                    clear H
                    have H := H1
                    clear H1
                    replace H := Option.bind_eq_some_iff.mp H
                    obtain ⟨⟨t355, t356⟩, A560, H⟩ := H
                    replace H : (if t355.toList = a1.toList then (if t356 = true then ((stockyardlaw04_awake.f kj39).bind fun t357 => (some t357)) else (some false)) else (some false)) = some r := H
                    have A56 := Aside0.mk A560
                    clear A560
                    by_cases c57 : t355.toList = a1.toList
                    · rw [if_pos c57] at H
                      have c57b0 : (t355.toList == a1.toList) = true := beq_iff_eq.mpr c57
                      have c57b1 : (t355.toList != a1.toList) = false := bne_eq_false_iff_eq.mpr c57
                      clear c57
                      by_cases c58 : t356 = true
                      · subst c58
                        have H1 : ((stockyardlaw04_awake.f kj39).bind fun t357 => (some t357)) = some r := by rw [if_pos rfl] at H; exact H
                        clear H
                        have H := H1
                        clear H1
                        replace H := Option.bind_eq_some_iff.mp H
                        obtain ⟨t357, A590, H⟩ := H
                        replace H : (some t357) = some r := H
                        have A59 := Aside0.mk A590
                        clear A590
                        obtain rfl := Option.some.inj H
                        have hnb60 := NB333_345.out
                        have hnc60 := NB345_333.out
                        have hcz61_0 : wc.cell? ⟨gb333, 0, none⟩ = some (.bool a0_0) := (blk_cell BK333.out 0).trans rfl
                        have hcz61_1 : wc.cell? ⟨gb333, 1, none⟩ = some (.slice A0_1 l0_1.length c0_1) := (blk_cell BK333.out 1).trans rfl
                        have hcz61_2 : wc.cell? ⟨gb333, 2, none⟩ = some (.bool a0_2) := (blk_cell BK333.out 2).trans rfl
                        have hcz61_3 : wc.cell? ⟨gb333, 3, none⟩ = some (.slice A0_3 l0_3.length c0_3) := (blk_cell BK333.out 3).trans rfl
                        have hcz61_4 : wc.cell? ⟨gb333, 4, none⟩ = some (.bool a0_4) := (blk_cell BK333.out 4).trans rfl
                        have hfz61_0 := blk_frozen BK333.out 0
                        have hfz61_1 := blk_frozen BK333.out 1
                        have hfz61_2 := blk_frozen BK333.out 2
                        have hfz61_3 := blk_frozen BK333.out 3
                        have hfz61_4 := blk_frozen BK333.out 4
                        go_wp2_with (first | ((with_reducible refine gate_callee (f := 14) rfl ?_); refine goesL_ (some 70) rfl rfl Tryd.func14 (by kernel_rfl) rfl #[.agg #[.bool a0_0, .slice A0_1 l0_1.length c0_1, .bool a0_2, .slice A0_3 l0_3.length c0_3, .bool a0_4], .string a1] rfl (by (try simp only [List.map_toArray, List.map_cons, List.map_nil]); first | done | rfl | (simp only [List.length_drop, List.length_take]; rfl)) ?_; (with_reducible refine (rule_Backward.calls kj39 a0_0 _ _ l0_1 a0_2 _ _ l0_3 a0_4 a1 t353 true _ ?side1 ?side2 ?side3 ?side4 A54.out).mono ?_); (case side1 => repeat (first | exact (Kd.C_below HR0_1.out HB.out) | (with_reducible refine Kd.C_alloc ?_ _) | (with_reducible refine Kd.C_drewN ?_ _) | (with_reducible refine Kd.C_drew ?_))); (case side2 => exact HC0_1.out); (case side3 => repeat (first | exact (Kd.C_below HR0_3.out HB.out) | (with_reducible refine Kd.C_alloc ?_ _) | (with_reducible refine Kd.C_drewN ?_ _) | (with_reducible refine Kd.C_drew ?_))); (case side4 => exact HC0_3.out); rintro e w62 ⟨rfl, hb⟩; refine ⟨_, rfl, ?_⟩; have n0_ := Aside0.mk (Kd.R_below (by (with_reducible repeat (first | apply Kd.R_alloc | apply Kd.R_drewN | apply Kd.R_drew)); exact HO_346001.out) hb); have n1_ := Aside0.mk (Kd.R_below (by (with_reducible repeat (first | apply Kd.R_alloc | apply Kd.R_drewN | apply Kd.R_drew)); exact HO_346003.out) hb); have n2_ := Aside0.mk (blk_below (g := gb333) (o := .cells #[.bool a0_0, .slice A0_1 l0_1.length c0_1, .bool a0_2, .slice A0_3 l0_3.length c0_3, .bool a0_4] 26 (0, 0)) (by (with_reducible repeat (first | refine blk_drewN ?_ _ | refine blk_drew ?_ | refine blk_alloc ?_ _)); exact BK333.out) hb); have n3_ := Aside0.mk (blk_below (g := gb345) (o := .cells #[.bool t336, .slice Ao23 t337.length co23, .bool t340, .slice Ao24 t341.length co24, .bool t344] 26 (0, 0)) (by (with_reducible repeat (first | refine blk_drewN ?_ _ | refine blk_drew ?_ | refine blk_alloc ?_ _)); exact BK345.out) hb); have n4_ := Aside0.mk (below_step (by repeat (first | (with_reducible first | exact HB.out | apply below_alloc | apply pw_below_drewN | apply below_drew1 | refine below_set ?_ GE333.out | refine below_set ?_ GE345.out) | exact HB.out)) hb); clear HO_346001; clear HO_346003; clear BK333; clear BK345; clear HB; have HO_346001 := n0_; have HO_346003 := n1_; have BK333 := n2_; have BK345 := n3_; have HB := n4_; clear n0_ n1_ n2_ n3_ n4_; (try clear hb); (try clear hb2); (try clear hk); (try clear hi); have hcz63_0 : w62.cell? ⟨gb333, 0, none⟩ = some (.bool a0_0) := (blk_cell BK333.out 0).trans rfl; have hcz63_1 : w62.cell? ⟨gb333, 1, none⟩ = some (.slice A0_1 l0_1.length c0_1) := (blk_cell BK333.out 1).trans rfl; have hcz63_2 : w62.cell? ⟨gb333, 2, none⟩ = some (.bool a0_2) := (blk_cell BK333.out 2).trans rfl; have hcz63_3 : w62.cell? ⟨gb333, 3, none⟩ = some (.slice A0_3 l0_3.length c0_3) := (blk_cell BK333.out 3).trans rfl; have hcz63_4 : w62.cell? ⟨gb333, 4, none⟩ = some (.bool a0_4) := (blk_cell BK333.out 4).trans rfl; have hfz63_0 := blk_frozen BK333.out 0; have hfz63_1 := blk_frozen BK333.out 1; have hfz63_2 := blk_frozen BK333.out 2; have hfz63_3 := blk_frozen BK333.out 3; have hfz63_4 := blk_frozen BK333.out 4) | ((with_reducible refine gate_callee (f := 13) rfl ?_); refine goesL_ (some 77) rfl rfl Tryd.func13 (by kernel_rfl) rfl #[.agg #[.bool a0_0, .slice A0_1 l0_1.length c0_1, .bool a0_2, .slice A0_3 l0_3.length c0_3, .bool a0_4], .string t353] rfl (by (try simp only [List.map_toArray, List.map_cons, List.map_nil]); first | done | rfl | (simp only [List.length_drop, List.length_take]; rfl)) ?_; (with_reducible refine (rule_Forward.calls kj39 a0_0 _ _ l0_1 a0_2 _ _ l0_3 a0_4 t353 t355 true _ ?side1 ?side2 ?side3 ?side4 A56.out).mono ?_); (case side1 => repeat (first | exact (Kd.C_below HR0_1.out HB.out) | (with_reducible refine Kd.C_alloc ?_ _) | (with_reducible refine Kd.C_drewN ?_ _) | (with_reducible refine Kd.C_drew ?_))); (case side2 => exact HC0_1.out); (case side3 => repeat (first | exact (Kd.C_below HR0_3.out HB.out) | (with_reducible refine Kd.C_alloc ?_ _) | (with_reducible refine Kd.C_drewN ?_ _) | (with_reducible refine Kd.C_drew ?_))); (case side4 => exact HC0_3.out); rintro e w64 ⟨rfl, hb⟩; refine ⟨_, rfl, ?_⟩; have n0_ := Aside0.mk (Kd.R_below (by (with_reducible repeat (first | apply Kd.R_alloc | apply Kd.R_drewN | apply Kd.R_drew)); exact HO_346001.out) hb); have n1_ := Aside0.mk (Kd.R_below (by (with_reducible repeat (first | apply Kd.R_alloc | apply Kd.R_drewN | apply Kd.R_drew)); exact HO_346003.out) hb); have n2_ := Aside0.mk (blk_below (g := gb333) (o := .cells #[.bool a0_0, .slice A0_1 l0_1.length c0_1, .bool a0_2, .slice A0_3 l0_3.length c0_3, .bool a0_4] 26 (0, 0)) (by (with_reducible repeat (first | refine blk_drewN ?_ _ | refine blk_drew ?_ | refine blk_alloc ?_ _)); exact BK333.out) hb); have n3_ := Aside0.mk (blk_below (g := gb345) (o := .cells #[.bool t336, .slice Ao23 t337.length co23, .bool t340, .slice Ao24 t341.length co24, .bool t344] 26 (0, 0)) (by (with_reducible repeat (first | refine blk_drewN ?_ _ | refine blk_drew ?_ | refine blk_alloc ?_ _)); exact BK345.out) hb); have n4_ := Aside0.mk (below_step (by repeat (first | (with_reducible first | exact HB.out | apply below_alloc | apply pw_below_drewN | apply below_drew1 | refine below_set ?_ GE333.out | refine below_set ?_ GE345.out) | exact HB.out)) hb); clear HO_346001; clear HO_346003; clear BK333; clear BK345; clear HB; have HO_346001 := n0_; have HO_346003 := n1_; have BK333 := n2_; have BK345 := n3_; have HB := n4_; clear n0_ n1_ n2_ n3_ n4_; (try clear hb); (try clear hb2); (try clear hk); (try clear hi)) | ((with_reducible refine gate_callee (f := 7) rfl ?_); refine goesL_ (some 87) rfl rfl Tryd.func7 (by kernel_rfl) rfl #[] rfl (by (try simp only [List.map_toArray, List.map_cons, List.map_nil]); first | done | rfl | (simp only [List.length_drop, List.length_take]; rfl)) ?_; (with_reducible refine (stockyardlaw04_awake.calls kj39  t357 _ A59.out).mono ?_); rintro e w65 ⟨rfl, hb⟩; refine ⟨_, rfl, ?_⟩; have n0_ := Aside0.mk (Kd.R_below (by (with_reducible repeat (first | apply Kd.R_alloc | apply Kd.R_drewN | apply Kd.R_drew)); exact HO_346001.out) hb); have n1_ := Aside0.mk (Kd.R_below (by (with_reducible repeat (first | apply Kd.R_alloc | apply Kd.R_drewN | apply Kd.R_drew)); exact HO_346003.out) hb); have n2_ := Aside0.mk (blk_below (g := gb333) (o := .cells #[.bool a0_0, .slice A0_1 l0_1.length c0_1, .bool a0_2, .slice A0_3 l0_3.length c0_3, .bool a0_4] 26 (0, 0)) (by (with_reducible repeat (first | refine blk_drewN ?_ _ | refine blk_drew ?_ | refine blk_alloc ?_ _)); exact BK333.out) hb); have n3_ := Aside0.mk (blk_below (g := gb345) (o := .cells #[.bool t336, .slice Ao23 t337.length co23, .bool t340, .slice Ao24 t341.length co24, .bool t344] 26 (0, 0)) (by (with_reducible repeat (first | refine blk_drewN ?_ _ | refine blk_drew ?_ | refine blk_alloc ?_ _)); exact BK345.out) hb); have n4_ := Aside0.mk (below_step (by repeat (first | (with_reducible first | exact HB.out | apply below_alloc | apply pw_below_drewN | apply below_drew1 | refine below_set ?_ GE333.out | refine below_set ?_ GE345.out) | exact HB.out)) hb); clear HO_346001; clear HO_346003; clear BK333; clear BK345; clear HB; have HO_346001 := n0_; have HO_346003 := n1_; have BK333 := n2_; have BK345 := n3_; have HB := n4_; clear n0_ n1_ n2_ n3_ n4_; (try clear hb); (try clear hb2); (try clear hk); (try clear hi)))
                        go_ret
                        exact ⟨by first | rfl | (simp [errW_none, errW_some] <;> rfl) | (simp [*, errW_none, errW_some] <;> rfl), by repeat (first | (with_reducible first | exact HB.out | apply below_alloc | apply pw_below_drewN | apply below_drew1 | refine below_set ?_ GE333.out | refine below_set ?_ GE345.out) | exact HB.out)⟩
                      · replace c58 := Bool.eq_false_iff.mpr c58
                        subst c58
                        have H1 : (some false) = some r := by rw [if_neg (show ¬ (false = true) by decide)] at H; exact H
                        clear H
                        have H := H1
                        clear H1
                        obtain rfl := Option.some.inj H
                        have hnb66 := NB333_345.out
                        have hnc66 := NB345_333.out
                        have hcz67_0 : wc.cell? ⟨gb333, 0, none⟩ = some (.bool a0_0) := (blk_cell BK333.out 0).trans rfl
                        have hcz67_1 : wc.cell? ⟨gb333, 1, none⟩ = some (.slice A0_1 l0_1.length c0_1) := (blk_cell BK333.out 1).trans rfl
                        have hcz67_2 : wc.cell? ⟨gb333, 2, none⟩ = some (.bool a0_2) := (blk_cell BK333.out 2).trans rfl
                        have hcz67_3 : wc.cell? ⟨gb333, 3, none⟩ = some (.slice A0_3 l0_3.length c0_3) := (blk_cell BK333.out 3).trans rfl
                        have hcz67_4 : wc.cell? ⟨gb333, 4, none⟩ = some (.bool a0_4) := (blk_cell BK333.out 4).trans rfl
                        have hfz67_0 := blk_frozen BK333.out 0
                        have hfz67_1 := blk_frozen BK333.out 1
                        have hfz67_2 := blk_frozen BK333.out 2
                        have hfz67_3 := blk_frozen BK333.out 3
                        have hfz67_4 := blk_frozen BK333.out 4
                        go_wp2_with (first | ((with_reducible refine gate_callee (f := 14) rfl ?_); refine goesL_ (some 70) rfl rfl Tryd.func14 (by kernel_rfl) rfl #[.agg #[.bool a0_0, .slice A0_1 l0_1.length c0_1, .bool a0_2, .slice A0_3 l0_3.length c0_3, .bool a0_4], .string a1] rfl (by (try simp only [List.map_toArray, List.map_cons, List.map_nil]); first | done | rfl | (simp only [List.length_drop, List.length_take]; rfl)) ?_; (with_reducible refine (rule_Backward.calls kj39 a0_0 _ _ l0_1 a0_2 _ _ l0_3 a0_4 a1 t353 true _ ?side1 ?side2 ?side3 ?side4 A54.out).mono ?_); (case side1 => repeat (first | exact (Kd.C_below HR0_1.out HB.out) | (with_reducible refine Kd.C_alloc ?_ _) | (with_reducible refine Kd.C_drewN ?_ _) | (with_reducible refine Kd.C_drew ?_))); (case side2 => exact HC0_1.out); (case side3 => repeat (first | exact (Kd.C_below HR0_3.out HB.out) | (with_reducible refine Kd.C_alloc ?_ _) | (with_reducible refine Kd.C_drewN ?_ _) | (with_reducible refine Kd.C_drew ?_))); (case side4 => exact HC0_3.out); rintro e w68 ⟨rfl, hb⟩; refine ⟨_, rfl, ?_⟩; have n0_ := Aside0.mk (Kd.R_below (by (with_reducible repeat (first | apply Kd.R_alloc | apply Kd.R_drewN | apply Kd.R_drew)); exact HO_346001.out) hb); have n1_ := Aside0.mk (Kd.R_below (by (with_reducible repeat (first | apply Kd.R_alloc | apply Kd.R_drewN | apply Kd.R_drew)); exact HO_346003.out) hb); have n2_ := Aside0.mk (blk_below (g := gb333) (o := .cells #[.bool a0_0, .slice A0_1 l0_1.length c0_1, .bool a0_2, .slice A0_3 l0_3.length c0_3, .bool a0_4] 26 (0, 0)) (by (with_reducible repeat (first | refine blk_drewN ?_ _ | refine blk_drew ?_ | refine blk_alloc ?_ _)); exact BK333.out) hb); have n3_ := Aside0.mk (blk_below (g := gb345) (o := .cells #[.bool t336, .slice Ao23 t337.length co23, .bool t340, .slice Ao24 t341.length co24, .bool t344] 26 (0, 0)) (by (with_reducible repeat (first | refine blk_drewN ?_ _ | refine blk_drew ?_ | refine blk_alloc ?_ _)); exact BK345.out) hb); have n4_ := Aside0.mk (below_step (by repeat (first | (with_reducible first | exact HB.out | apply below_alloc | apply pw_below_drewN | apply below_drew1 | refine below_set ?_ GE333.out | refine below_set ?_ GE345.out) | exact HB.out)) hb); clear HO_346001; clear HO_346003; clear BK333; clear BK345; clear HB; have HO_346001 := n0_; have HO_346003 := n1_; have BK333 := n2_; have BK345 := n3_; have HB := n4_; clear n0_ n1_ n2_ n3_ n4_; (try clear hb); (try clear hb2); (try clear hk); (try clear hi); have hcz69_0 : w68.cell? ⟨gb333, 0, none⟩ = some (.bool a0_0) := (blk_cell BK333.out 0).trans rfl; have hcz69_1 : w68.cell? ⟨gb333, 1, none⟩ = some (.slice A0_1 l0_1.length c0_1) := (blk_cell BK333.out 1).trans rfl; have hcz69_2 : w68.cell? ⟨gb333, 2, none⟩ = some (.bool a0_2) := (blk_cell BK333.out 2).trans rfl; have hcz69_3 : w68.cell? ⟨gb333, 3, none⟩ = some (.slice A0_3 l0_3.length c0_3) := (blk_cell BK333.out 3).trans rfl; have hcz69_4 : w68.cell? ⟨gb333, 4, none⟩ = some (.bool a0_4) := (blk_cell BK333.out 4).trans rfl; have hfz69_0 := blk_frozen BK333.out 0; have hfz69_1 := blk_frozen BK333.out 1; have hfz69_2 := blk_frozen BK333.out 2; have hfz69_3 := blk_frozen BK333.out 3; have hfz69_4 := blk_frozen BK333.out 4) | ((with_reducible refine gate_callee (f := 13) rfl ?_); refine goesL_ (some 77) rfl rfl Tryd.func13 (by kernel_rfl) rfl #[.agg #[.bool a0_0, .slice A0_1 l0_1.length c0_1, .bool a0_2, .slice A0_3 l0_3.length c0_3, .bool a0_4], .string t353] rfl (by (try simp only [List.map_toArray, List.map_cons, List.map_nil]); first | done | rfl | (simp only [List.length_drop, List.length_take]; rfl)) ?_; (with_reducible refine (rule_Forward.calls kj39 a0_0 _ _ l0_1 a0_2 _ _ l0_3 a0_4 t353 t355 false _ ?side1 ?side2 ?side3 ?side4 A56.out).mono ?_); (case side1 => repeat (first | exact (Kd.C_below HR0_1.out HB.out) | (with_reducible refine Kd.C_alloc ?_ _) | (with_reducible refine Kd.C_drewN ?_ _) | (with_reducible refine Kd.C_drew ?_))); (case side2 => exact HC0_1.out); (case side3 => repeat (first | exact (Kd.C_below HR0_3.out HB.out) | (with_reducible refine Kd.C_alloc ?_ _) | (with_reducible refine Kd.C_drewN ?_ _) | (with_reducible refine Kd.C_drew ?_))); (case side4 => exact HC0_3.out); rintro e w70 ⟨rfl, hb⟩; refine ⟨_, rfl, ?_⟩; have n0_ := Aside0.mk (Kd.R_below (by (with_reducible repeat (first | apply Kd.R_alloc | apply Kd.R_drewN | apply Kd.R_drew)); exact HO_346001.out) hb); have n1_ := Aside0.mk (Kd.R_below (by (with_reducible repeat (first | apply Kd.R_alloc | apply Kd.R_drewN | apply Kd.R_drew)); exact HO_346003.out) hb); have n2_ := Aside0.mk (blk_below (g := gb333) (o := .cells #[.bool a0_0, .slice A0_1 l0_1.length c0_1, .bool a0_2, .slice A0_3 l0_3.length c0_3, .bool a0_4] 26 (0, 0)) (by (with_reducible repeat (first | refine blk_drewN ?_ _ | refine blk_drew ?_ | refine blk_alloc ?_ _)); exact BK333.out) hb); have n3_ := Aside0.mk (blk_below (g := gb345) (o := .cells #[.bool t336, .slice Ao23 t337.length co23, .bool t340, .slice Ao24 t341.length co24, .bool t344] 26 (0, 0)) (by (with_reducible repeat (first | refine blk_drewN ?_ _ | refine blk_drew ?_ | refine blk_alloc ?_ _)); exact BK345.out) hb); have n4_ := Aside0.mk (below_step (by repeat (first | (with_reducible first | exact HB.out | apply below_alloc | apply pw_below_drewN | apply below_drew1 | refine below_set ?_ GE333.out | refine below_set ?_ GE345.out) | exact HB.out)) hb); clear HO_346001; clear HO_346003; clear BK333; clear BK345; clear HB; have HO_346001 := n0_; have HO_346003 := n1_; have BK333 := n2_; have BK345 := n3_; have HB := n4_; clear n0_ n1_ n2_ n3_ n4_; (try clear hb); (try clear hb2); (try clear hk); (try clear hi)))
                        go_ret
                        exact ⟨by first | rfl | (simp [errW_none, errW_some] <;> rfl) | (simp [*, errW_none, errW_some] <;> rfl), by repeat (first | (with_reducible first | exact HB.out | apply below_alloc | apply pw_below_drewN | apply below_drew1 | refine below_set ?_ GE333.out | refine below_set ?_ GE345.out) | exact HB.out)⟩
                    · rw [if_neg c57] at H
                      have c57b0 : (t355.toList == a1.toList) = false := beq_eq_false_iff_ne.mpr c57
                      have c57b1 : (t355.toList != a1.toList) = true := bne_iff_ne.mpr c57
                      obtain rfl := Option.some.inj H
                      have hnb71 := NB333_345.out
                      have hnc71 := NB345_333.out
                      have hcz72_0 : wc.cell? ⟨gb333, 0, none⟩ = some (.bool a0_0) := (blk_cell BK333.out 0).trans rfl
                      have hcz72_1 : wc.cell? ⟨gb333, 1, none⟩ = some (.slice A0_1 l0_1.length c0_1) := (blk_cell BK333.out 1).trans rfl
                      have hcz72_2 : wc.cell? ⟨gb333, 2, none⟩ = some (.bool a0_2) := (blk_cell BK333.out 2).trans rfl
                      have hcz72_3 : wc.cell? ⟨gb333, 3, none⟩ = some (.slice A0_3 l0_3.length c0_3) := (blk_cell BK333.out 3).trans rfl
                      have hcz72_4 : wc.cell? ⟨gb333, 4, none⟩ = some (.bool a0_4) := (blk_cell BK333.out 4).trans rfl
                      have hfz72_0 := blk_frozen BK333.out 0
                      have hfz72_1 := blk_frozen BK333.out 1
                      have hfz72_2 := blk_frozen BK333.out 2
                      have hfz72_3 := blk_frozen BK333.out 3
                      have hfz72_4 := blk_frozen BK333.out 4
                      go_wp2_with (first | ((with_reducible refine gate_callee (f := 14) rfl ?_); refine goesL_ (some 70) rfl rfl Tryd.func14 (by kernel_rfl) rfl #[.agg #[.bool a0_0, .slice A0_1 l0_1.length c0_1, .bool a0_2, .slice A0_3 l0_3.length c0_3, .bool a0_4], .string a1] rfl (by (try simp only [List.map_toArray, List.map_cons, List.map_nil]); first | done | rfl | (simp only [List.length_drop, List.length_take]; rfl)) ?_; (with_reducible refine (rule_Backward.calls kj39 a0_0 _ _ l0_1 a0_2 _ _ l0_3 a0_4 a1 t353 true _ ?side1 ?side2 ?side3 ?side4 A54.out).mono ?_); (case side1 => repeat (first | exact (Kd.C_below HR0_1.out HB.out) | (with_reducible refine Kd.C_alloc ?_ _) | (with_reducible refine Kd.C_drewN ?_ _) | (with_reducible refine Kd.C_drew ?_))); (case side2 => exact HC0_1.out); (case side3 => repeat (first | exact (Kd.C_below HR0_3.out HB.out) | (with_reducible refine Kd.C_alloc ?_ _) | (with_reducible refine Kd.C_drewN ?_ _) | (with_reducible refine Kd.C_drew ?_))); (case side4 => exact HC0_3.out); rintro e w73 ⟨rfl, hb⟩; refine ⟨_, rfl, ?_⟩; have n0_ := Aside0.mk (Kd.R_below (by (with_reducible repeat (first | apply Kd.R_alloc | apply Kd.R_drewN | apply Kd.R_drew)); exact HO_346001.out) hb); have n1_ := Aside0.mk (Kd.R_below (by (with_reducible repeat (first | apply Kd.R_alloc | apply Kd.R_drewN | apply Kd.R_drew)); exact HO_346003.out) hb); have n2_ := Aside0.mk (blk_below (g := gb333) (o := .cells #[.bool a0_0, .slice A0_1 l0_1.length c0_1, .bool a0_2, .slice A0_3 l0_3.length c0_3, .bool a0_4] 26 (0, 0)) (by (with_reducible repeat (first | refine blk_drewN ?_ _ | refine blk_drew ?_ | refine blk_alloc ?_ _)); exact BK333.out) hb); have n3_ := Aside0.mk (blk_below (g := gb345) (o := .cells #[.bool t336, .slice Ao23 t337.length co23, .bool t340, .slice Ao24 t341.length co24, .bool t344] 26 (0, 0)) (by (with_reducible repeat (first | refine blk_drewN ?_ _ | refine blk_drew ?_ | refine blk_alloc ?_ _)); exact BK345.out) hb); have n4_ := Aside0.mk (below_step (by repeat (first | (with_reducible first | exact HB.out | apply below_alloc | apply pw_below_drewN | apply below_drew1 | refine below_set ?_ GE333.out | refine below_set ?_ GE345.out) | exact HB.out)) hb); clear HO_346001; clear HO_346003; clear BK333; clear BK345; clear HB; have HO_346001 := n0_; have HO_346003 := n1_; have BK333 := n2_; have BK345 := n3_; have HB := n4_; clear n0_ n1_ n2_ n3_ n4_; (try clear hb); (try clear hb2); (try clear hk); (try clear hi); have hcz74_0 : w73.cell? ⟨gb333, 0, none⟩ = some (.bool a0_0) := (blk_cell BK333.out 0).trans rfl; have hcz74_1 : w73.cell? ⟨gb333, 1, none⟩ = some (.slice A0_1 l0_1.length c0_1) := (blk_cell BK333.out 1).trans rfl; have hcz74_2 : w73.cell? ⟨gb333, 2, none⟩ = some (.bool a0_2) := (blk_cell BK333.out 2).trans rfl; have hcz74_3 : w73.cell? ⟨gb333, 3, none⟩ = some (.slice A0_3 l0_3.length c0_3) := (blk_cell BK333.out 3).trans rfl; have hcz74_4 : w73.cell? ⟨gb333, 4, none⟩ = some (.bool a0_4) := (blk_cell BK333.out 4).trans rfl; have hfz74_0 := blk_frozen BK333.out 0; have hfz74_1 := blk_frozen BK333.out 1; have hfz74_2 := blk_frozen BK333.out 2; have hfz74_3 := blk_frozen BK333.out 3; have hfz74_4 := blk_frozen BK333.out 4) | ((with_reducible refine gate_callee (f := 13) rfl ?_); refine goesL_ (some 77) rfl rfl Tryd.func13 (by kernel_rfl) rfl #[.agg #[.bool a0_0, .slice A0_1 l0_1.length c0_1, .bool a0_2, .slice A0_3 l0_3.length c0_3, .bool a0_4], .string t353] rfl (by (try simp only [List.map_toArray, List.map_cons, List.map_nil]); first | done | rfl | (simp only [List.length_drop, List.length_take]; rfl)) ?_; (with_reducible refine (rule_Forward.calls kj39 a0_0 _ _ l0_1 a0_2 _ _ l0_3 a0_4 t353 t355 t356 _ ?side1 ?side2 ?side3 ?side4 A56.out).mono ?_); (case side1 => repeat (first | exact (Kd.C_below HR0_1.out HB.out) | (with_reducible refine Kd.C_alloc ?_ _) | (with_reducible refine Kd.C_drewN ?_ _) | (with_reducible refine Kd.C_drew ?_))); (case side2 => exact HC0_1.out); (case side3 => repeat (first | exact (Kd.C_below HR0_3.out HB.out) | (with_reducible refine Kd.C_alloc ?_ _) | (with_reducible refine Kd.C_drewN ?_ _) | (with_reducible refine Kd.C_drew ?_))); (case side4 => exact HC0_3.out); rintro e w75 ⟨rfl, hb⟩; refine ⟨_, rfl, ?_⟩; have n0_ := Aside0.mk (Kd.R_below (by (with_reducible repeat (first | apply Kd.R_alloc | apply Kd.R_drewN | apply Kd.R_drew)); exact HO_346001.out) hb); have n1_ := Aside0.mk (Kd.R_below (by (with_reducible repeat (first | apply Kd.R_alloc | apply Kd.R_drewN | apply Kd.R_drew)); exact HO_346003.out) hb); have n2_ := Aside0.mk (blk_below (g := gb333) (o := .cells #[.bool a0_0, .slice A0_1 l0_1.length c0_1, .bool a0_2, .slice A0_3 l0_3.length c0_3, .bool a0_4] 26 (0, 0)) (by (with_reducible repeat (first | refine blk_drewN ?_ _ | refine blk_drew ?_ | refine blk_alloc ?_ _)); exact BK333.out) hb); have n3_ := Aside0.mk (blk_below (g := gb345) (o := .cells #[.bool t336, .slice Ao23 t337.length co23, .bool t340, .slice Ao24 t341.length co24, .bool t344] 26 (0, 0)) (by (with_reducible repeat (first | refine blk_drewN ?_ _ | refine blk_drew ?_ | refine blk_alloc ?_ _)); exact BK345.out) hb); have n4_ := Aside0.mk (below_step (by repeat (first | (with_reducible first | exact HB.out | apply below_alloc | apply pw_below_drewN | apply below_drew1 | refine below_set ?_ GE333.out | refine below_set ?_ GE345.out) | exact HB.out)) hb); clear HO_346001; clear HO_346003; clear BK333; clear BK345; clear HB; have HO_346001 := n0_; have HO_346003 := n1_; have BK333 := n2_; have BK345 := n3_; have HB := n4_; clear n0_ n1_ n2_ n3_ n4_; (try clear hb); (try clear hb2); (try clear hk); (try clear hi)))
                      go_ret
                      exact ⟨by first | rfl | (simp [errW_none, errW_some] <;> rfl) | (simp [*, errW_none, errW_some] <;> rfl), by repeat (first | (with_reducible first | exact HB.out | apply below_alloc | apply pw_below_drewN | apply below_drew1 | refine below_set ?_ GE333.out | refine below_set ?_ GE345.out) | exact HB.out)⟩
                  · replace c55 := Bool.eq_false_iff.mpr c55
                    subst c55
                    have H1 : ((stockyardlaw04_awake.f kj39).bind fun t358 => (some t358)) = some r := by rw [if_neg (show ¬ (false = true) by decide)] at H; exact H
                    clear H
                    have H := H1
                    clear H1
                    replace H := Option.bind_eq_some_iff.mp H
                    obtain ⟨t358, A760, H⟩ := H
                    replace H : (some t358) = some r := H
                    have A76 := Aside0.mk A760
                    clear A760
                    obtain rfl := Option.some.inj H
                    have hnb77 := NB333_345.out
                    have hnc77 := NB345_333.out
                    have hcz78_0 : wc.cell? ⟨gb333, 0, none⟩ = some (.bool a0_0) := (blk_cell BK333.out 0).trans rfl
                    have hcz78_1 : wc.cell? ⟨gb333, 1, none⟩ = some (.slice A0_1 l0_1.length c0_1) := (blk_cell BK333.out 1).trans rfl
                    have hcz78_2 : wc.cell? ⟨gb333, 2, none⟩ = some (.bool a0_2) := (blk_cell BK333.out 2).trans rfl
                    have hcz78_3 : wc.cell? ⟨gb333, 3, none⟩ = some (.slice A0_3 l0_3.length c0_3) := (blk_cell BK333.out 3).trans rfl
                    have hcz78_4 : wc.cell? ⟨gb333, 4, none⟩ = some (.bool a0_4) := (blk_cell BK333.out 4).trans rfl
                    have hfz78_0 := blk_frozen BK333.out 0
                    have hfz78_1 := blk_frozen BK333.out 1
                    have hfz78_2 := blk_frozen BK333.out 2
                    have hfz78_3 := blk_frozen BK333.out 3
                    have hfz78_4 := blk_frozen BK333.out 4
                    go_wp2_with (first | ((with_reducible refine gate_callee (f := 14) rfl ?_); refine goesL_ (some 70) rfl rfl Tryd.func14 (by kernel_rfl) rfl #[.agg #[.bool a0_0, .slice A0_1 l0_1.length c0_1, .bool a0_2, .slice A0_3 l0_3.length c0_3, .bool a0_4], .string a1] rfl (by (try simp only [List.map_toArray, List.map_cons, List.map_nil]); first | done | rfl | (simp only [List.length_drop, List.length_take]; rfl)) ?_; (with_reducible refine (rule_Backward.calls kj39 a0_0 _ _ l0_1 a0_2 _ _ l0_3 a0_4 a1 t353 false _ ?side1 ?side2 ?side3 ?side4 A54.out).mono ?_); (case side1 => repeat (first | exact (Kd.C_below HR0_1.out HB.out) | (with_reducible refine Kd.C_alloc ?_ _) | (with_reducible refine Kd.C_drewN ?_ _) | (with_reducible refine Kd.C_drew ?_))); (case side2 => exact HC0_1.out); (case side3 => repeat (first | exact (Kd.C_below HR0_3.out HB.out) | (with_reducible refine Kd.C_alloc ?_ _) | (with_reducible refine Kd.C_drewN ?_ _) | (with_reducible refine Kd.C_drew ?_))); (case side4 => exact HC0_3.out); rintro e w79 ⟨rfl, hb⟩; refine ⟨_, rfl, ?_⟩; have n0_ := Aside0.mk (Kd.R_below (by (with_reducible repeat (first | apply Kd.R_alloc | apply Kd.R_drewN | apply Kd.R_drew)); exact HO_346001.out) hb); have n1_ := Aside0.mk (Kd.R_below (by (with_reducible repeat (first | apply Kd.R_alloc | apply Kd.R_drewN | apply Kd.R_drew)); exact HO_346003.out) hb); have n2_ := Aside0.mk (blk_below (g := gb333) (o := .cells #[.bool a0_0, .slice A0_1 l0_1.length c0_1, .bool a0_2, .slice A0_3 l0_3.length c0_3, .bool a0_4] 26 (0, 0)) (by (with_reducible repeat (first | refine blk_drewN ?_ _ | refine blk_drew ?_ | refine blk_alloc ?_ _)); exact BK333.out) hb); have n3_ := Aside0.mk (blk_below (g := gb345) (o := .cells #[.bool t336, .slice Ao23 t337.length co23, .bool t340, .slice Ao24 t341.length co24, .bool t344] 26 (0, 0)) (by (with_reducible repeat (first | refine blk_drewN ?_ _ | refine blk_drew ?_ | refine blk_alloc ?_ _)); exact BK345.out) hb); have n4_ := Aside0.mk (below_step (by repeat (first | (with_reducible first | exact HB.out | apply below_alloc | apply pw_below_drewN | apply below_drew1 | refine below_set ?_ GE333.out | refine below_set ?_ GE345.out) | exact HB.out)) hb); clear HO_346001; clear HO_346003; clear BK333; clear BK345; clear HB; have HO_346001 := n0_; have HO_346003 := n1_; have BK333 := n2_; have BK345 := n3_; have HB := n4_; clear n0_ n1_ n2_ n3_ n4_; (try clear hb); (try clear hb2); (try clear hk); (try clear hi)) | ((with_reducible refine gate_callee (f := 7) rfl ?_); refine goesL_ (some 87) rfl rfl Tryd.func7 (by kernel_rfl) rfl #[] rfl (by (try simp only [List.map_toArray, List.map_cons, List.map_nil]); first | done | rfl | (simp only [List.length_drop, List.length_take]; rfl)) ?_; (with_reducible refine (stockyardlaw04_awake.calls kj39  t358 _ A76.out).mono ?_); rintro e w80 ⟨rfl, hb⟩; refine ⟨_, rfl, ?_⟩; have n0_ := Aside0.mk (Kd.R_below (by (with_reducible repeat (first | apply Kd.R_alloc | apply Kd.R_drewN | apply Kd.R_drew)); exact HO_346001.out) hb); have n1_ := Aside0.mk (Kd.R_below (by (with_reducible repeat (first | apply Kd.R_alloc | apply Kd.R_drewN | apply Kd.R_drew)); exact HO_346003.out) hb); have n2_ := Aside0.mk (blk_below (g := gb333) (o := .cells #[.bool a0_0, .slice A0_1 l0_1.length c0_1, .bool a0_2, .slice A0_3 l0_3.length c0_3, .bool a0_4] 26 (0, 0)) (by (with_reducible repeat (first | refine blk_drewN ?_ _ | refine blk_drew ?_ | refine blk_alloc ?_ _)); exact BK333.out) hb); have n3_ := Aside0.mk (blk_below (g := gb345) (o := .cells #[.bool t336, .slice Ao23 t337.length co23, .bool t340, .slice Ao24 t341.length co24, .bool t344] 26 (0, 0)) (by (with_reducible repeat (first | refine blk_drewN ?_ _ | refine blk_drew ?_ | refine blk_alloc ?_ _)); exact BK345.out) hb); have n4_ := Aside0.mk (below_step (by repeat (first | (with_reducible first | exact HB.out | apply below_alloc | apply pw_below_drewN | apply below_drew1 | refine below_set ?_ GE333.out | refine below_set ?_ GE345.out) | exact HB.out)) hb); clear HO_346001; clear HO_346003; clear BK333; clear BK345; clear HB; have HO_346001 := n0_; have HO_346003 := n1_; have BK333 := n2_; have BK345 := n3_; have HB := n4_; clear n0_ n1_ n2_ n3_ n4_; (try clear hb); (try clear hb2); (try clear hk); (try clear hi)))
                    go_ret
                    exact ⟨by first | rfl | (simp [errW_none, errW_some] <;> rfl) | (simp [*, errW_none, errW_some] <;> rfl), by repeat (first | (with_reducible first | exact HB.out | apply below_alloc | apply pw_below_drewN | apply below_drew1 | refine below_set ?_ GE333.out | refine below_set ?_ GE345.out) | exact HB.out)⟩

end Go.Proofs.YtnfpbnnhijiflaaDoor.P

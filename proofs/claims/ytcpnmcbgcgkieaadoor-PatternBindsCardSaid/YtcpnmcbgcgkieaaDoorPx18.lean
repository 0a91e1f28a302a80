-- Written by a program of this session (wip/gen.py) over the kit's print: each Go function as a plain Lean function, and the proof that the Go code comes to it. Nothing here is trusted: Lean checks it.
import Derived.Test.YtcpnmcbgcgkieaaDoorPx0
import Derived.Test.YtcpnmcbgcgkieaaDoorPx1
import Derived.Test.YtcpnmcbgcgkieaaDoorPx2
import Derived.Test.YtcpnmcbgcgkieaaDoorPx3
import Derived.Test.YtcpnmcbgcgkieaaDoorPx9
namespace Go.Proofs.YtcpnmcbgcgkieaaDoor.P
open Go.RowKit Go.Proofs.YtcpnmcbgcgkieaaDoorW.PrintWords Go.Proofs.YtcpnmcbgcgkieaaDoorW.PrintLast Go.Proofs.YtcpnmcbgcgkieaaDoorW.PrintMore
attribute [local go_sem] str_gtr str_leq str_geq max2_int min2_int max_two min_two max_three min_three max_four min_four   -- for this text's walks alone
set_option linter.unusedVariables false
set_option linter.unusedSimpArgs false

/-! ### stockyardlaw03_PatternBinds: function 9 -/
mutual
def stockyardlaw03_PatternBinds.j0 : Nat → Bool → List ByteArray → Bool → List ByteArray → Bool → Option (Bool)
  | 0, _, _, _, _, _ => none
  | k + 1, x17, x574000, x574001, x575000, x575001 => if x17 = true then ((stockyardlaw03_awake.f k).bind fun t577 => (some t577)) else ((pattern_Bind.f k x574000 x574001 x575000 x575001).bind fun bt578 => ((stockyardref03_Bind.f k x574000 x574001 x575000 x575001).bind fun bt582 => (if (bt578.2 != bt582.2) = true then (stockyardlaw03_PatternBinds.j1 k bt578.1 bt582.1 true) else (stockyardlaw03_PatternBinds.j1 k bt578.1 bt582.1 ((bt578.1.length : Int) != (bt582.1.length : Int))))))
def stockyardlaw03_PatternBinds.j1 : Nat → List (S39) → List (S39) → Bool → Option (Bool)
  | 0, _, _, _ => none
  | k + 1, x5, x7, x40 => if x40 = true then (some false) else (stockyardlaw03_PatternBinds.l0 k x5 x7 (x5.length : Int) 0)
def stockyardlaw03_PatternBinds.l0 : Nat → List (S39) → List (S39) → Int → Int → Option (Bool)
  | 0, _, _, _, _ => none
  | k + 1, x5, x7, x42, x43 => if x43 < x42 then (if 0 ≤ x43 then (if x43 < (x5.length : Int) then (if x43 < (x7.length : Int) then (if (((rd_T39 x5 x43).f1) != ((rd_T39 x7 x43).f1)) = true then (some false) else ((stockyardlaw03_equal.f k ((rd_T39 x5 x43).f0) ((rd_T39 x7 x43).f0)).bind fun t590 => (if t590 = true then (stockyardlaw03_PatternBinds.l0 k x5 x7 x42 (wrap64 (x43 + 1))) else (some false)))) else (none)) else (none)) else (none)) else ((stockyardlaw03_awake.f k).bind fun t591 => (some t591))
end
def stockyardlaw03_PatternBinds.f (k : Nat) (l0_0 : List ByteArray) (a0_1 : Bool) (l1_0 : List ByteArray) (a1_1 : Bool) : Option (Bool) := (stockyardlaw03_small.f k l0_0 a0_1).bind fun t575 => (if t575 = true then ((stockyardlaw03_small.f k l1_0 a1_1).bind fun t576 => (stockyardlaw03_PatternBinds.j0 k (!t576) l0_0 a0_1 l1_0 a1_1)) else (stockyardlaw03_PatternBinds.j0 k true l0_0 a0_1 l1_0 a1_1))
theorem stockyardlaw03_PatternBinds.mono_l : ∀ k, (∀ y0 y1 y2 y3 y4, LeO (stockyardlaw03_PatternBinds.j0 k y0 y1 y2 y3 y4) (stockyardlaw03_PatternBinds.j0 (k + 1) y0 y1 y2 y3 y4)) ∧ (∀ y0 y1 y2, LeO (stockyardlaw03_PatternBinds.j1 k y0 y1 y2) (stockyardlaw03_PatternBinds.j1 (k + 1) y0 y1 y2)) ∧ (∀ y0 y1 y2 y3, LeO (stockyardlaw03_PatternBinds.l0 k y0 y1 y2 y3) (stockyardlaw03_PatternBinds.l0 (k + 1) y0 y1 y2 y3))
  | 0 => ⟨fun _ _ _ _ _ r h => by simp [stockyardlaw03_PatternBinds.j0] at h, fun _ _ _ r h => by simp [stockyardlaw03_PatternBinds.j1] at h, fun _ _ _ _ r h => by simp [stockyardlaw03_PatternBinds.l0] at h⟩
  | k + 1 => by
    obtain ⟨ih0, ih1, ih2⟩ := stockyardlaw03_PatternBinds.mono_l k
    refine ⟨?_, ?_, ?_⟩
    · intro y0 y1 y2 y3 y4
      unfold stockyardlaw03_PatternBinds.j0
      repeat' first
      | (with_reducible exact ih0 _ _ _ _ _)
      | (with_reducible exact ih1 _ _ _)
      | (with_reducible exact ih2 _ _ _ _)
      | (with_reducible exact pattern_Bind.mono _ _ _ _ _)
      | (with_reducible exact stockyardlaw03_awake.mono _)
      | (with_reducible exact stockyardlaw03_equal.mono _ _ _)
      | (with_reducible exact stockyardlaw03_small.mono _ _ _)
      | (with_reducible exact stockyardref03_Bind.mono _ _ _ _ _)
      | (with_reducible exact LeO.refl _)
      | (with_reducible exact LeO.none _)
      | (with_reducible refine LeO.ite ?_ ?_)
      | (with_reducible refine LeO.bind ?_ (fun _ => ?_))
      | exact ih0 _ _ _ _ _
      | exact ih1 _ _ _
      | exact ih2 _ _ _ _
      | exact pattern_Bind.mono _ _ _ _ _
      | exact stockyardlaw03_awake.mono _
      | exact stockyardlaw03_equal.mono _ _ _
      | exact stockyardlaw03_small.mono _ _ _
      | exact stockyardref03_Bind.mono _ _ _ _ _
      | exact LeO.none _
      | refine LeO.ite ?_ ?_
      | refine LeO.bind ?_ (fun _ => ?_)
    · intro y0 y1 y2
      unfold stockyardlaw03_PatternBinds.j1
      repeat' first
      | (with_reducible exact ih0 _ _ _ _ _)
      | (with_reducible exact ih1 _ _ _)
      | (with_reducible exact ih2 _ _ _ _)
      | (with_reducible exact pattern_Bind.mono _ _ _ _ _)
      | (with_reducible exact stockyardlaw03_awake.mono _)
      | (with_reducible exact stockyardlaw03_equal.mono _ _ _)
      | (with_reducible exact stockyardlaw03_small.mono _ _ _)
      | (with_reducible exact stockyardref03_Bind.mono _ _ _ _ _)
      | (with_reducible exact LeO.refl _)
      | (with_reducible exact LeO.none _)
      | (with_reducible refine LeO.ite ?_ ?_)
      | (with_reducible refine LeO.bind ?_ (fun _ => ?_))
      | exact ih0 _ _ _ _ _
      | exact ih1 _ _ _
      | exact ih2 _ _ _ _
      | exact pattern_Bind.mono _ _ _ _ _
      | exact stockyardlaw03_awake.mono _
      | exact stockyardlaw03_equal.mono _ _ _
      | exact stockyardlaw03_small.mono _ _ _
      | exact stockyardref03_Bind.mono _ _ _ _ _
      | exact LeO.none _
      | refine LeO.ite ?_ ?_
      | refine LeO.bind ?_ (fun _ => ?_)
    · intro y0 y1 y2 y3
      unfold stockyardlaw03_PatternBinds.l0
      repeat' first
      | (with_reducible exact ih0 _ _ _ _ _)
      | (with_reducible exact ih1 _ _ _)
      | (with_reducible exact ih2 _ _ _ _)
      | (with_reducible exact pattern_Bind.mono _ _ _ _ _)
      | (with_reducible exact stockyardlaw03_awake.mono _)
      | (with_reducible exact stockyardlaw03_equal.mono _ _ _)
      | (with_reducible exact stockyardlaw03_small.mono _ _ _)
      | (with_reducible exact stockyardref03_Bind.mono _ _ _ _ _)
      | (with_reducible exact LeO.refl _)
      | (with_reducible exact LeO.none _)
      | (with_reducible refine LeO.ite ?_ ?_)
      | (with_reducible refine LeO.bind ?_ (fun _ => ?_))
      | exact ih0 _ _ _ _ _
      | exact ih1 _ _ _
      | exact ih2 _ _ _ _
      | exact pattern_Bind.mono _ _ _ _ _
      | exact stockyardlaw03_awake.mono _
      | exact stockyardlaw03_equal.mono _ _ _
      | exact stockyardlaw03_small.mono _ _ _
      | exact stockyardref03_Bind.mono _ _ _ _ _
      | exact LeO.none _
      | refine LeO.ite ?_ ?_
      | refine LeO.bind ?_ (fun _ => ?_)
theorem stockyardlaw03_PatternBinds.mono : ∀ a0 a1 a2 a3 k, LeO (stockyardlaw03_PatternBinds.f k a0 a1 a2 a3) (stockyardlaw03_PatternBinds.f (k + 1) a0 a1 a2 a3) := by
  intro a0 a1 a2 a3 k
  obtain ⟨ih0, ih1, ih2⟩ := stockyardlaw03_PatternBinds.mono_l k
  unfold stockyardlaw03_PatternBinds.f
  repeat' first
      | (with_reducible exact ih0 _ _ _ _ _)
      | (with_reducible exact ih1 _ _ _)
      | (with_reducible exact ih2 _ _ _ _)
      | (with_reducible exact pattern_Bind.mono _ _ _ _ _)
      | (with_reducible exact stockyardlaw03_awake.mono _)
      | (with_reducible exact stockyardlaw03_equal.mono _ _ _)
      | (with_reducible exact stockyardlaw03_small.mono _ _ _)
      | (with_reducible exact stockyardref03_Bind.mono _ _ _ _ _)
      | (with_reducible exact LeO.refl _)
      | (with_reducible exact LeO.none _)
      | (with_reducible refine LeO.ite ?_ ?_)
      | (with_reducible refine LeO.bind ?_ (fun _ => ?_))
      | exact ih0 _ _ _ _ _
      | exact ih1 _ _ _
      | exact ih2 _ _ _ _
      | exact pattern_Bind.mono _ _ _ _ _
      | exact stockyardlaw03_awake.mono _
      | exact stockyardlaw03_equal.mono _ _ _
      | exact stockyardlaw03_small.mono _ _ _
      | exact stockyardref03_Bind.mono _ _ _ _ _
      | exact LeO.none _
      | refine LeO.ite ?_ ?_
      | refine LeO.bind ?_ (fun _ => ?_)
set_option maxHeartbeats 8000000 in
set_option maxRecDepth 100000 in
theorem stockyardlaw03_PatternBinds.calls (k : Nat) (A0_0 : Option Addr) (c0_0 : Nat) (l0_0 : List ByteArray) (a0_1 : Bool) (A1_0 : Option Addr) (c1_0 : Nat) (l1_0 : List ByteArray) (a1_1 : Bool) (r : Bool) (w : World) (hr0_0 : Kd.C Kd.string w A0_0 l0_0.length l0_0) (hc0_0 : l0_0.length ≤ c0_0) (hr1_0 : Kd.C Kd.string w A1_0 l1_0.length l1_0) (hc1_0 : l1_0.length ≤ c1_0) (h : stockyardlaw03_PatternBinds.f k l0_0 a0_1 l1_0 a1_1 = some r) :
    Calls Tryd.prog 9 #[.agg #[.slice A0_0 l0_0.length c0_0, .bool a0_1], .agg #[.slice A1_0 l1_0.length c1_0, .bool a1_1]] w fun e w' => e = .returned (.bool r) ∧ Below w.heap.size w w' := by
  have hu24 := Tryd.underlying24
  have HR0_0 := Aside0.mk hr0_0
  have HC0_0 := Aside0.mk hc0_0
  clear hr0_0 hc0_0
  have HR1_0 := Aside0.mk hr1_0
  have HC1_0 := Aside0.mk hc1_0
  clear hr1_0 hc1_0
  have HB := Aside0.mk (Below.refl w.heap.size w)
  have H : ((stockyardlaw03_small.f k l0_0 a0_1).bind fun t575 => (if t575 = true then ((stockyardlaw03_small.f k l1_0 a1_1).bind fun t576 => (stockyardlaw03_PatternBinds.j0 k (!t576) l0_0 a0_1 l1_0 a1_1)) else (stockyardlaw03_PatternBinds.j0 k true l0_0 a0_1 l1_0 a1_1))) = some r := h
  clear h
  have HC3 := Aside0.mk H
  clear H
  go_enter Tryd.func9, Tryd.ntmps9
  go_upto_region 1 with (first | ((with_reducible refine gate_dst (N := 2) rfl ?_); (try (refine gate_guard (by rfl) ?_; dsimp only)); refine box_event ?hg (N := 2) ?hd (cs := #[.slice A0_0 l0_0.length c0_0, .bool a0_1]) (t := 24) ?hr ?_; (case hd => rfl); (case hg => rfl); (case hr => first | (go_simp; done) | (go_simp; rfl)); intro gb573 hg w4 hbox hb; have n0_ := Aside0.mk (below_step (by repeat (first | (with_reducible first | exact HB.out | apply below_alloc | apply pw_below_drewN | apply below_drew1) | exact HB.out)) hb); have n1_ := Aside0.mk (hbox); have n2_ := Aside0.mk ((by rw [hg]; exact (below_size (by repeat (first | (with_reducible first | exact HB.out | apply below_alloc | apply pw_below_drewN | apply below_drew1) | exact HB.out))) : w.heap.size ≤ gb573)); have n3_ := Aside0.mk ((by rw [hg]; exact (below_size (by repeat (first | (with_reducible first | exact HB.out | apply below_alloc | apply pw_below_drewN | apply below_drew1) | exact HB.out))) : w.heap.size ≤ gb573)); clear HB; have HB := n0_; have BK573 := n1_; have GW573 := n2_; have GE573 := n3_; clear n0_ n1_ n2_ n3_; clear hb hbox hg) | ((with_reducible refine gate_dst (N := 3) rfl ?_); (try (refine gate_guard (by rfl) ?_; dsimp only)); refine box_event ?hg (N := 3) ?hd (cs := #[.slice A1_0 l1_0.length c1_0, .bool a1_1]) (t := 24) ?hr ?_; (case hd => rfl); (case hg => rfl); (case hr => first | (go_simp; done) | (go_simp; rfl)); intro gb574 hg w5 hbox hb; have n0_ := Aside0.mk (blk_below (g := gb573) (o := .cells #[.slice A0_0 l0_0.length c0_0, .bool a0_1] 24 (0, 0)) (by (with_reducible repeat (first | refine blk_drewN ?_ _ | refine blk_drew ?_ | refine blk_alloc ?_ _)); exact BK573.out) hb); have n1_ := Aside0.mk (below_step (by repeat (first | (with_reducible first | exact HB.out | apply below_alloc | apply pw_below_drewN | apply below_drew1 | refine below_set ?_ GE573.out) | exact HB.out)) hb); have n2_ := Aside0.mk (hbox); have n3_ := Aside0.mk ((by rw [hg]; exact (below_size (by repeat (first | (with_reducible first | exact HB.out | apply below_alloc | apply pw_below_drewN | apply below_drew1 | refine below_set ?_ GE573.out) | exact HB.out))) : w.heap.size ≤ gb574)); have n4_ := Aside0.mk ((by rw [hg]; exact (below_size (by repeat (first | (with_reducible first | exact HB.out | apply below_alloc | apply pw_below_drewN | apply below_drew1 | refine below_set ?_ GE573.out) | exact HB.out))) : w.heap.size ≤ gb574)); have n5_ := Aside0.mk ((by rw [hg]; exact Nat.ne_of_lt (blk_lt (g := gb573) (o := .cells #[.slice A0_0 l0_0.length c0_0, .bool a0_1] 24 (0, 0)) (by (with_reducible repeat (first | refine blk_drewN ?_ _ | refine blk_drew ?_ | refine blk_alloc ?_ _)); exact BK573.out)) : gb573 ≠ gb574)); have n6_ := Aside0.mk ((by rw [hg]; exact Nat.ne_of_gt (blk_lt (g := gb573) (o := .cells #[.slice A0_0 l0_0.length c0_0, .bool a0_1] 24 (0, 0)) (by (with_reducible repeat (first | refine blk_drewN ?_ _ | refine blk_drew ?_ | refine blk_alloc ?_ _)); exact BK573.out)) : gb574 ≠ gb573)); clear BK573; clear HB; have BK573 := n0_; have HB := n1_; have BK574 := n2_; have GW574 := n3_; have GE574 := n4_; have NB573_574 := n5_; have NB574_573 := n6_; clear n0_ n1_ n2_ n3_ n4_ n5_ n6_; clear hb hbox hg))
  repeat (go_quiet (first | ((with_reducible refine gate_dst (N := 2) rfl ?_); (try (refine gate_guard (by rfl) ?_; dsimp only)); refine box_event ?hg (N := 2) ?hd (cs := #[.slice A0_0 l0_0.length c0_0, .bool a0_1]) (t := 24) ?hr ?_; (case hd => rfl); (case hg => rfl); (case hr => first | (go_simp; done) | (go_simp; rfl)); intro gb573 hg w4 hbox hb; have n0_ := Aside0.mk (below_step (by repeat (first | (with_reducible first | exact HB.out | apply below_alloc | apply pw_below_drewN | apply below_drew1) | exact HB.out)) hb); have n1_ := Aside0.mk (hbox); have n2_ := Aside0.mk ((by rw [hg]; exact (below_size (by repeat (first | (with_reducible first | exact HB.out | apply below_alloc | apply pw_below_drewN | apply below_drew1) | exact HB.out))) : w.heap.size ≤ gb573)); have n3_ := Aside0.mk ((by rw [hg]; exact (below_size (by repeat (first | (with_reducible first | exact HB.out | apply below_alloc | apply pw_below_drewN | apply below_drew1) | exact HB.out))) : w.heap.size ≤ gb573)); clear HB; have HB := n0_; have BK573 := n1_; have GW573 := n2_; have GE573 := n3_; clear n0_ n1_ n2_ n3_; clear hb hbox hg) | ((with_reducible refine gate_dst (N := 3) rfl ?_); (try (refine gate_guard (by rfl) ?_; dsimp only)); refine box_event ?hg (N := 3) ?hd (cs := #[.slice A1_0 l1_0.length c1_0, .bool a1_1]) (t := 24) ?hr ?_; (case hd => rfl); (case hg => rfl); (case hr => first | (go_simp; done) | (go_simp; rfl)); intro gb574 hg w5 hbox hb; have n0_ := Aside0.mk (blk_below (g := gb573) (o := .cells #[.slice A0_0 l0_0.length c0_0, .bool a0_1] 24 (0, 0)) (by (with_reducible repeat (first | refine blk_drewN ?_ _ | refine blk_drew ?_ | refine blk_alloc ?_ _)); exact BK573.out) hb); have n1_ := Aside0.mk (below_step (by repeat (first | (with_reducible first | exact HB.out | apply below_alloc | apply pw_below_drewN | apply below_drew1 | refine below_set ?_ GE573.out) | exact HB.out)) hb); have n2_ := Aside0.mk (hbox); have n3_ := Aside0.mk ((by rw [hg]; exact (below_size (by repeat (first | (with_reducible first | exact HB.out | apply below_alloc | apply pw_below_drewN | apply below_drew1 | refine below_set ?_ GE573.out) | exact HB.out))) : w.heap.size ≤ gb574)); have n4_ := Aside0.mk ((by rw [hg]; exact (below_size (by repeat (first | (with_reducible first | exact HB.out | apply below_alloc | apply pw_below_drewN | apply below_drew1 | refine below_set ?_ GE573.out) | exact HB.out))) : w.heap.size ≤ gb574)); have n5_ := Aside0.mk ((by rw [hg]; exact Nat.ne_of_lt (blk_lt (g := gb573) (o := .cells #[.slice A0_0 l0_0.length c0_0, .bool a0_1] 24 (0, 0)) (by (with_reducible repeat (first | refine blk_drewN ?_ _ | refine blk_drew ?_ | refine blk_alloc ?_ _)); exact BK573.out)) : gb573 ≠ gb574)); have n6_ := Aside0.mk ((by rw [hg]; exact Nat.ne_of_gt (blk_lt (g := gb573) (o := .cells #[.slice A0_0 l0_0.length c0_0, .bool a0_1] 24 (0, 0)) (by (with_reducible repeat (first | refine blk_drewN ?_ _ | refine blk_drew ?_ | refine blk_alloc ?_ _)); exact BK573.out)) : gb574 ≠ gb573)); clear BK573; clear HB; have BK573 := n0_; have HB := n1_; have BK574 := n2_; have GW574 := n3_; have GE574 := n4_; have NB573_574 := n5_; have NB574_573 := n6_; clear n0_ n1_ n2_ n3_ n4_ n5_ n6_; clear hb hbox hg)); go_upto_region 1 with (first | ((with_reducible refine gate_dst (N := 2) rfl ?_); (try (refine gate_guard (by rfl) ?_; dsimp only)); refine box_event ?hg (N := 2) ?hd (cs := #[.slice A0_0 l0_0.length c0_0, .bool a0_1]) (t := 24) ?hr ?_; (case hd => rfl); (case hg => rfl); (case hr => first | (go_simp; done) | (go_simp; rfl)); intro gb573 hg w4 hbox hb; have n0_ := Aside0.mk (below_step (by repeat (first | (with_reducible first | exact HB.out | apply below_alloc | apply pw_below_drewN | apply below_drew1) | exact HB.out)) hb); have n1_ := Aside0.mk (hbox); have n2_ := Aside0.mk ((by rw [hg]; exact (below_size (by repeat (first | (with_reducible first | exact HB.out | apply below_alloc | apply pw_below_drewN | apply below_drew1) | exact HB.out))) : w.heap.size ≤ gb573)); have n3_ := Aside0.mk ((by rw [hg]; exact (below_size (by repeat (first | (with_reducible first | exact HB.out | apply below_alloc | apply pw_below_drewN | apply below_drew1) | exact HB.out))) : w.heap.size ≤ gb573)); clear HB; have HB := n0_; have BK573 := n1_; have GW573 := n2_; have GE573 := n3_; clear n0_ n1_ n2_ n3_; clear hb hbox hg) | ((with_reducible refine gate_dst (N := 3) rfl ?_); (try (refine gate_guard (by rfl) ?_; dsimp only)); refine box_event ?hg (N := 3) ?hd (cs := #[.slice A1_0 l1_0.length c1_0, .bool a1_1]) (t := 24) ?hr ?_; (case hd => rfl); (case hg => rfl); (case hr => first | (go_simp; done) | (go_simp; rfl)); intro gb574 hg w5 hbox hb; have n0_ := Aside0.mk (blk_below (g := gb573) (o := .cells #[.slice A0_0 l0_0.length c0_0, .bool a0_1] 24 (0, 0)) (by (with_reducible repeat (first | refine blk_drewN ?_ _ | refine blk_drew ?_ | refine blk_alloc ?_ _)); exact BK573.out) hb); have n1_ := Aside0.mk (below_step (by repeat (first | (with_reducible first | exact HB.out | apply below_alloc | apply pw_below_drewN | apply below_drew1 | refine below_set ?_ GE573.out) | exact HB.out)) hb); have n2_ := Aside0.mk (hbox); have n3_ := Aside0.mk ((by rw [hg]; exact (below_size (by repeat (first | (with_reducible first | exact HB.out | apply below_alloc | apply pw_below_drewN | apply below_drew1 | refine below_set ?_ GE573.out) | exact HB.out))) : w.heap.size ≤ gb574)); have n4_ := Aside0.mk ((by rw [hg]; exact (below_size (by repeat (first | (with_reducible first | exact HB.out | apply below_alloc | apply pw_below_drewN | apply below_drew1 | refine below_set ?_ GE573.out) | exact HB.out))) : w.heap.size ≤ gb574)); have n5_ := Aside0.mk ((by rw [hg]; exact Nat.ne_of_lt (blk_lt (g := gb573) (o := .cells #[.slice A0_0 l0_0.length c0_0, .bool a0_1] 24 (0, 0)) (by (with_reducible repeat (first | refine blk_drewN ?_ _ | refine blk_drew ?_ | refine blk_alloc ?_ _)); exact BK573.out)) : gb573 ≠ gb574)); have n6_ := Aside0.mk ((by rw [hg]; exact Nat.ne_of_gt (blk_lt (g := gb573) (o := .cells #[.slice A0_0 l0_0.length c0_0, .bool a0_1] 24 (0, 0)) (by (with_reducible repeat (first | refine blk_drewN ?_ _ | refine blk_drew ?_ | refine blk_alloc ?_ _)); exact BK573.out)) : gb574 ≠ gb573)); clear BK573; clear HB; have BK573 := n0_; have HB := n1_; have BK574 := n2_; have GW574 := n3_; have GE574 := n4_; have NB573_574 := n5_; have NB574_573 := n6_; clear n0_ n1_ n2_ n3_ n4_ n5_ n6_; clear hb hbox hg)))
  (try simp only [Act.put, List.setIfInBounds_toArray, List.set_cons_zero, List.set_cons_succ])
  go_cut [17] (fun v17 wc => ∃ (kq : Nat) (x17_2 : Bool), v17 = .bool x17_2 ∧ Aside0 (stockyardlaw03_PatternBinds.j0 kq x17_2 l0_0 a0_1 l1_0 a1_1 = some r) ∧ Aside0 (kq ≤ k) ∧ Aside0 (wc.heap[gb573]? = some (.cells #[(.slice A0_0 l0_0.length c0_0), .bool a0_1] 24 (0, 0))) ∧ Aside0 (wc.heap[gb574]? = some (.cells #[(.slice A1_0 l1_0.length c1_0), .bool a1_1] 24 (0, 0))) ∧ Aside0 (Below w.heap.size w wc))
  case first =>
    have H := HC3.out
    clear HC3
    replace H := Option.bind_eq_some_iff.mp H
    obtain ⟨t575, A60, H⟩ := H
    replace H : (if t575 = true then ((stockyardlaw03_small.f k l1_0 a1_1).bind fun t576 => (stockyardlaw03_PatternBinds.j0 k (!t576) l0_0 a0_1 l1_0 a1_1)) else (stockyardlaw03_PatternBinds.j0 k true l0_0 a0_1 l1_0 a1_1)) = some r := H
    have A6 := Aside0.mk A60
    clear A60
    by_cases c7 : t575 = true
    · subst c7
      have H1 : ((stockyardlaw03_small.f k l1_0 a1_1).bind fun t576 => (stockyardlaw03_PatternBinds.j0 k (!t576) l0_0 a0_1 l1_0 a1_1)) = some r := by rw [if_pos rfl] at H; exact H
      clear H
      have H := H1
      clear H1
      replace H := Option.bind_eq_some_iff.mp H
      obtain ⟨t576, A80, H⟩ := H
      replace H : (stockyardlaw03_PatternBinds.j0 k (!t576) l0_0 a0_1 l1_0 a1_1) = some r := H
      have A8 := Aside0.mk A80
      clear A80
      have H' := Aside0.mk H
      clear H
      have hnb9 := NB573_574.out
      have hnc9 := NB574_573.out
      have hcz10_0 : w5.cell? ⟨gb573, 0, none⟩ = some (.slice A0_0 l0_0.length c0_0) := (blk_cell BK573.out 0).trans rfl
      have hcz10_1 : w5.cell? ⟨gb573, 1, none⟩ = some (.bool a0_1) := (blk_cell BK573.out 1).trans rfl
      have hfz10_0 := blk_frozen BK573.out 0
      have hfz10_1 := blk_frozen BK573.out 1
      go_wp2_with (first | (go_at_call 11; (with_reducible refine (stockyardlaw03_small.calls k _ _ l0_0 a0_1 true _ ?side1 ?side2 A6.out).mono ?_); (case side1 => repeat (first | exact (Kd.C_below HR0_0.out HB.out) | (with_reducible refine Kd.C_alloc ?_ _) | (with_reducible refine Kd.C_drewN ?_ _) | (with_reducible refine Kd.C_drew ?_))); (case side2 => exact HC0_0.out); rintro e w11 ⟨rfl, hb⟩; have n0_ := Aside0.mk (blk_below (g := gb573) (o := .cells #[.slice A0_0 l0_0.length c0_0, .bool a0_1] 24 (0, 0)) (by (with_reducible repeat (first | refine blk_drewN ?_ _ | refine blk_drew ?_ | refine blk_alloc ?_ _)); exact BK573.out) hb); have n1_ := Aside0.mk (blk_below (g := gb574) (o := .cells #[.slice A1_0 l1_0.length c1_0, .bool a1_1] 24 (0, 0)) (by (with_reducible repeat (first | refine blk_drewN ?_ _ | refine blk_drew ?_ | refine blk_alloc ?_ _)); exact BK574.out) hb); have n2_ := Aside0.mk (below_step (by repeat (first | (with_reducible first | exact HB.out | apply below_alloc | apply pw_below_drewN | apply below_drew1 | refine below_set ?_ GE573.out | refine below_set ?_ GE574.out) | exact HB.out)) hb); clear BK573; clear BK574; clear HB; have BK573 := n0_; have BK574 := n1_; have HB := n2_; clear n0_ n1_ n2_; (try clear hb); (try clear hb2); (try clear hk); (try clear hi); have hcz12_0 : w11.cell? ⟨gb574, 0, none⟩ = some (.slice A1_0 l1_0.length c1_0) := (blk_cell BK574.out 0).trans rfl; have hcz12_1 : w11.cell? ⟨gb574, 1, none⟩ = some (.bool a1_1) := (blk_cell BK574.out 1).trans rfl; have hfz12_0 := blk_frozen BK574.out 0; have hfz12_1 := blk_frozen BK574.out 1) | (go_at_call 11; (with_reducible refine (stockyardlaw03_small.calls k _ _ l1_0 a1_1 t576 _ ?side1 ?side2 A8.out).mono ?_); (case side1 => repeat (first | exact (Kd.C_below HR1_0.out HB.out) | (with_reducible refine Kd.C_alloc ?_ _) | (with_reducible refine Kd.C_drewN ?_ _) | (with_reducible refine Kd.C_drew ?_))); (case side2 => exact HC1_0.out); rintro e w13 ⟨rfl, hb⟩; have n0_ := Aside0.mk (blk_below (g := gb573) (o := .cells #[.slice A0_0 l0_0.length c0_0, .bool a0_1] 24 (0, 0)) (by (with_reducible repeat (first | refine blk_drewN ?_ _ | refine blk_drew ?_ | refine blk_alloc ?_ _)); exact BK573.out) hb); have n1_ := Aside0.mk (blk_below (g := gb574) (o := .cells #[.slice A1_0 l1_0.length c1_0, .bool a1_1] 24 (0, 0)) (by (with_reducible repeat (first | refine blk_drewN ?_ _ | refine blk_drew ?_ | refine blk_alloc ?_ _)); exact BK574.out) hb); have n2_ := Aside0.mk (below_step (by repeat (first | (with_reducible first | exact HB.out | apply below_alloc | apply pw_below_drewN | apply below_drew1 | refine below_set ?_ GE573.out | refine below_set ?_ GE574.out) | exact HB.out)) hb); clear BK573; clear BK574; clear HB; have BK573 := n0_; have BK574 := n1_; have HB := n2_; clear n0_ n1_ n2_; (try clear hb); (try clear hb2); (try clear hk); (try clear hi)))
      repeat (go_quiet (first | (go_at_call 11; (with_reducible refine (stockyardlaw03_small.calls k _ _ l0_0 a0_1 true _ ?side1 ?side2 A6.out).mono ?_); (case side1 => repeat (first | exact (Kd.C_below HR0_0.out HB.out) | (with_reducible refine Kd.C_alloc ?_ _) | (with_reducible refine Kd.C_drewN ?_ _) | (with_reducible refine Kd.C_drew ?_))); (case side2 => exact HC0_0.out); rintro e w11 ⟨rfl, hb⟩; have n0_ := Aside0.mk (blk_below (g := gb573) (o := .cells #[.slice A0_0 l0_0.length c0_0, .bool a0_1] 24 (0, 0)) (by (with_reducible repeat (first | refine blk_drewN ?_ _ | refine blk_drew ?_ | refine blk_alloc ?_ _)); exact BK573.out) hb); have n1_ := Aside0.mk (blk_below (g := gb574) (o := .cells #[.slice A1_0 l1_0.length c1_0, .bool a1_1] 24 (0, 0)) (by (with_reducible repeat (first | refine blk_drewN ?_ _ | refine blk_drew ?_ | refine blk_alloc ?_ _)); exact BK574.out) hb); have n2_ := Aside0.mk (below_step (by repeat (first | (with_reducible first | exact HB.out | apply below_alloc | apply pw_below_drewN | apply below_drew1 | refine below_set ?_ GE573.out | refine below_set ?_ GE574.out) | exact HB.out)) hb); clear BK573; clear BK574; clear HB; have BK573 := n0_; have BK574 := n1_; have HB := n2_; clear n0_ n1_ n2_; (try clear hb); (try clear hb2); (try clear hk); (try clear hi); have hcz12_0 : w11.cell? ⟨gb574, 0, none⟩ = some (.slice A1_0 l1_0.length c1_0) := (blk_cell BK574.out 0).trans rfl; have hcz12_1 : w11.cell? ⟨gb574, 1, none⟩ = some (.bool a1_1) := (blk_cell BK574.out 1).trans rfl; have hfz12_0 := blk_frozen BK574.out 0; have hfz12_1 := blk_frozen BK574.out 1) | (go_at_call 11; (with_reducible refine (stockyardlaw03_small.calls k _ _ l1_0 a1_1 t576 _ ?side1 ?side2 A8.out).mono ?_); (case side1 => repeat (first | exact (Kd.C_below HR1_0.out HB.out) | (with_reducible refine Kd.C_alloc ?_ _) | (with_reducible refine Kd.C_drewN ?_ _) | (with_reducible refine Kd.C_drew ?_))); (case side2 => exact HC1_0.out); rintro e w13 ⟨rfl, hb⟩; have n0_ := Aside0.mk (blk_below (g := gb573) (o := .cells #[.slice A0_0 l0_0.length c0_0, .bool a0_1] 24 (0, 0)) (by (with_reducible repeat (first | refine blk_drewN ?_ _ | refine blk_drew ?_ | refine blk_alloc ?_ _)); exact BK573.out) hb); have n1_ := Aside0.mk (blk_below (g := gb574) (o := .cells #[.slice A1_0 l1_0.length c1_0, .bool a1_1] 24 (0, 0)) (by (with_reducible repeat (first | refine blk_drewN ?_ _ | refine blk_drew ?_ | refine blk_alloc ?_ _)); exact BK574.out) hb); have n2_ := Aside0.mk (below_step (by repeat (first | (with_reducible first | exact HB.out | apply below_alloc | apply pw_below_drewN | apply below_drew1 | refine below_set ?_ GE573.out | refine below_set ?_ GE574.out) | exact HB.out)) hb); clear BK573; clear BK574; clear HB; have BK573 := n0_; have BK574 := n1_; have HB := n2_; clear n0_ n1_ n2_; (try clear hb); (try clear hb2); (try clear hk); (try clear hi))); try go_wp2_with (first | (go_at_call 11; (with_reducible refine (stockyardlaw03_small.calls k _ _ l0_0 a0_1 true _ ?side1 ?side2 A6.out).mono ?_); (case side1 => repeat (first | exact (Kd.C_below HR0_0.out HB.out) | (with_reducible refine Kd.C_alloc ?_ _) | (with_reducible refine Kd.C_drewN ?_ _) | (with_reducible refine Kd.C_drew ?_))); (case side2 => exact HC0_0.out); rintro e w11 ⟨rfl, hb⟩; have n0_ := Aside0.mk (blk_below (g := gb573) (o := .cells #[.slice A0_0 l0_0.length c0_0, .bool a0_1] 24 (0, 0)) (by (with_reducible repeat (first | refine blk_drewN ?_ _ | refine blk_drew ?_ | refine blk_alloc ?_ _)); exact BK573.out) hb); have n1_ := Aside0.mk (blk_below (g := gb574) (o := .cells #[.slice A1_0 l1_0.length c1_0, .bool a1_1] 24 (0, 0)) (by (with_reducible repeat (first | refine blk_drewN ?_ _ | refine blk_drew ?_ | refine blk_alloc ?_ _)); exact BK574.out) hb); have n2_ := Aside0.mk (below_step (by repeat (first | (with_reducible first | exact HB.out | apply below_alloc | apply pw_below_drewN | apply below_drew1 | refine below_set ?_ GE573.out | refine below_set ?_ GE574.out) | exact HB.out)) hb); clear BK573; clear BK574; clear HB; have BK573 := n0_; have BK574 := n1_; have HB := n2_; clear n0_ n1_ n2_; (try clear hb); (try clear hb2); (try clear hk); (try clear hi); have hcz12_0 : w11.cell? ⟨gb574, 0, none⟩ = some (.slice A1_0 l1_0.length c1_0) := (blk_cell BK574.out 0).trans rfl; have hcz12_1 : w11.cell? ⟨gb574, 1, none⟩ = some (.bool a1_1) := (blk_cell BK574.out 1).trans rfl; have hfz12_0 := blk_frozen BK574.out 0; have hfz12_1 := blk_frozen BK574.out 1) | (go_at_call 11; (with_reducible refine (stockyardlaw03_small.calls k _ _ l1_0 a1_1 t576 _ ?side1 ?side2 A8.out).mono ?_); (case side1 => repeat (first | exact (Kd.C_below HR1_0.out HB.out) | (with_reducible refine Kd.C_alloc ?_ _) | (with_reducible refine Kd.C_drewN ?_ _) | (with_reducible refine Kd.C_drew ?_))); (case side2 => exact HC1_0.out); rintro e w13 ⟨rfl, hb⟩; have n0_ := Aside0.mk (blk_below (g := gb573) (o := .cells #[.slice A0_0 l0_0.length c0_0, .bool a0_1] 24 (0, 0)) (by (with_reducible repeat (first | refine blk_drewN ?_ _ | refine blk_drew ?_ | refine blk_alloc ?_ _)); exact BK573.out) hb); have n1_ := Aside0.mk (blk_below (g := gb574) (o := .cells #[.slice A1_0 l1_0.length c1_0, .bool a1_1] 24 (0, 0)) (by (with_reducible repeat (first | refine blk_drewN ?_ _ | refine blk_drew ?_ | refine blk_alloc ?_ _)); exact BK574.out) hb); have n2_ := Aside0.mk (below_step (by repeat (first | (with_reducible first | exact HB.out | apply below_alloc | apply pw_below_drewN | apply below_drew1 | refine below_set ?_ GE573.out | refine below_set ?_ GE574.out) | exact HB.out)) hb); clear BK573; clear BK574; clear HB; have BK573 := n0_; have BK574 := n1_; have HB := n2_; clear n0_ n1_ n2_; (try clear hb); (try clear hb2); (try clear hk); (try clear hi))))
      go_meet
      case rel => exact ⟨_, (!t576), (by first | rfl | (simp; done) | (simp [*]; done)), H', ⟨by first | omega | exact Nat.le_refl _⟩, ⟨by (with_reducible repeat (first | refine blk_drewN ?_ _ | refine blk_drew ?_ | refine blk_alloc ?_ _)); exact BK573.out⟩, ⟨by (with_reducible repeat (first | refine blk_drewN ?_ _ | refine blk_drew ?_ | refine blk_alloc ?_ _)); exact BK574.out⟩, ⟨by repeat (first | (with_reducible first | exact HB.out | apply below_alloc | apply pw_below_drewN | apply below_drew1 | refine below_set ?_ GE573.out | refine below_set ?_ GE574.out) | exact HB.out)⟩⟩
    · replace c7 := Bool.eq_false_iff.mpr c7
      subst c7
      have H1 : (stockyardlaw03_PatternBinds.j0 k true l0_0 a0_1 l1_0 a1_1) = some r := by rw [if_neg (show ¬ (false = true) by decide)] at H; exact H
      clear H
      have H := H1
      clear H1
      have H' := Aside0.mk H
      clear H
      have hnb14 := NB573_574.out
      have hnc14 := NB574_573.out
      have hcz15_0 : w5.cell? ⟨gb573, 0, none⟩ = some (.slice A0_0 l0_0.length c0_0) := (blk_cell BK573.out 0).trans rfl
      have hcz15_1 : w5.cell? ⟨gb573, 1, none⟩ = some (.bool a0_1) := (blk_cell BK573.out 1).trans rfl
      have hfz15_0 := blk_frozen BK573.out 0
      have hfz15_1 := blk_frozen BK573.out 1
      go_wp2_with (first | (go_at_call 11; (with_reducible refine (stockyardlaw03_small.calls k _ _ l0_0 a0_1 false _ ?side1 ?side2 A6.out).mono ?_); (case side1 => repeat (first | exact (Kd.C_below HR0_0.out HB.out) | (with_reducible refine Kd.C_alloc ?_ _) | (with_reducible refine Kd.C_drewN ?_ _) | (with_reducible refine Kd.C_drew ?_))); (case side2 => exact HC0_0.out); rintro e w16 ⟨rfl, hb⟩; have n0_ := Aside0.mk (blk_below (g := gb573) (o := .cells #[.slice A0_0 l0_0.length c0_0, .bool a0_1] 24 (0, 0)) (by (with_reducible repeat (first | refine blk_drewN ?_ _ | refine blk_drew ?_ | refine blk_alloc ?_ _)); exact BK573.out) hb); have n1_ := Aside0.mk (blk_below (g := gb574) (o := .cells #[.slice A1_0 l1_0.length c1_0, .bool a1_1] 24 (0, 0)) (by (with_reducible repeat (first | refine blk_drewN ?_ _ | refine blk_drew ?_ | refine blk_alloc ?_ _)); exact BK574.out) hb); have n2_ := Aside0.mk (below_step (by repeat (first | (with_reducible first | exact HB.out | apply below_alloc | apply pw_below_drewN | apply below_drew1 | refine below_set ?_ GE573.out | refine below_set ?_ GE574.out) | exact HB.out)) hb); clear BK573; clear BK574; clear HB; have BK573 := n0_; have BK574 := n1_; have HB := n2_; clear n0_ n1_ n2_; (try clear hb); (try clear hb2); (try clear hk); (try clear hi)))
      repeat (go_quiet (first | (go_at_call 11; (with_reducible refine (stockyardlaw03_small.calls k _ _ l0_0 a0_1 false _ ?side1 ?side2 A6.out).mono ?_); (case side1 => repeat (first | exact (Kd.C_below HR0_0.out HB.out) | (with_reducible refine Kd.C_alloc ?_ _) | (with_reducible refine Kd.C_drewN ?_ _) | (with_reducible refine Kd.C_drew ?_))); (case side2 => exact HC0_0.out); rintro e w16 ⟨rfl, hb⟩; have n0_ := Aside0.mk (blk_below (g := gb573) (o := .cells #[.slice A0_0 l0_0.length c0_0, .bool a0_1] 24 (0, 0)) (by (with_reducible repeat (first | refine blk_drewN ?_ _ | refine blk_drew ?_ | refine blk_alloc ?_ _)); exact BK573.out) hb); have n1_ := Aside0.mk (blk_below (g := gb574) (o := .cells #[.slice A1_0 l1_0.length c1_0, .bool a1_1] 24 (0, 0)) (by (with_reducible repeat (first | refine blk_drewN ?_ _ | refine blk_drew ?_ | refine blk_alloc ?_ _)); exact BK574.out) hb); have n2_ := Aside0.mk (below_step (by repeat (first | (with_reducible first | exact HB.out | apply below_alloc | apply pw_below_drewN | apply below_drew1 | refine below_set ?_ GE573.out | refine below_set ?_ GE574.out) | exact HB.out)) hb); clear BK573; clear BK574; clear HB; have BK573 := n0_; have BK574 := n1_; have HB := n2_; clear n0_ n1_ n2_; (try clear hb); (try clear hb2); (try clear hk); (try clear hi))); try go_wp2_with (first | (go_at_call 11; (with_reducible refine (stockyardlaw03_small.calls k _ _ l0_0 a0_1 false _ ?side1 ?side2 A6.out).mono ?_); (case side1 => repeat (first | exact (Kd.C_below HR0_0.out HB.out) | (with_reducible refine Kd.C_alloc ?_ _) | (with_reducible refine Kd.C_drewN ?_ _) | (with_reducible refine Kd.C_drew ?_))); (case side2 => exact HC0_0.out); rintro e w16 ⟨rfl, hb⟩; have n0_ := Aside0.mk (blk_below (g := gb573) (o := .cells #[.slice A0_0 l0_0.length c0_0, .bool a0_1] 24 (0, 0)) (by (with_reducible repeat (first | refine blk_drewN ?_ _ | refine blk_drew ?_ | refine blk_alloc ?_ _)); exact BK573.out) hb); have n1_ := Aside0.mk (blk_below (g := gb574) (o := .cells #[.slice A1_0 l1_0.length c1_0, .bool a1_1] 24 (0, 0)) (by (with_reducible repeat (first | refine blk_drewN ?_ _ | refine blk_drew ?_ | refine blk_alloc ?_ _)); exact BK574.out) hb); have n2_ := Aside0.mk (below_step (by repeat (first | (with_reducible first | exact HB.out | apply below_alloc | apply pw_below_drewN | apply below_drew1 | refine below_set ?_ GE573.out | refine below_set ?_ GE574.out) | exact HB.out)) hb); clear BK573; clear BK574; clear HB; have BK573 := n0_; have BK574 := n1_; have HB := n2_; clear n0_ n1_ n2_; (try clear hb); (try clear hb2); (try clear hk); (try clear hi))))
      go_meet
      case rel => exact ⟨_, (true), (by first | rfl | (simp; done) | (simp [*]; done)), H', ⟨by first | omega | exact Nat.le_refl _⟩, ⟨by (with_reducible repeat (first | refine blk_drewN ?_ _ | refine blk_drew ?_ | refine blk_alloc ?_ _)); exact BK573.out⟩, ⟨by (with_reducible repeat (first | refine blk_drewN ?_ _ | refine blk_drew ?_ | refine blk_alloc ?_ _)); exact BK574.out⟩, ⟨by repeat (first | (with_reducible first | exact HB.out | apply below_alloc | apply pw_below_drewN | apply below_drew1 | refine below_set ?_ GE573.out | refine below_set ?_ GE574.out) | exact HB.out)⟩⟩
  case rest =>
    clear HC3
    try clear c1
    try clear p2
    try clear c7
    try clear c9
    try clear c14
    try clear hcz10_0
    try clear hcz10_1
    try clear hcz12_0
    try clear hcz12_1
    try clear hcz15_0
    try clear hcz15_1
    try clear hfz10_0
    try clear hfz10_1
    try clear hfz12_0
    try clear hfz12_1
    try clear hfz15_0
    try clear hfz15_1
    obtain ⟨kq, x17_2, rfl, HA, HJ2, BK573, BK574, HB⟩ := hcut
    cases kq with
    | zero => exact absurd HA.out (by simp [stockyardlaw03_PatternBinds.j0])
    | succ kj2 =>
      have H := HA.out
      clear HA
      simp only [stockyardlaw03_PatternBinds.j0] at H
      by_cases c17 : x17_2 = true
      · subst c17
        have H1 : ((stockyardlaw03_awake.f kj2).bind fun t577 => (some t577)) = some r := by rw [if_pos rfl] at H; exact H
        clear H
        have H := H1
        clear H1
        replace H := Option.bind_eq_some_iff.mp H
        obtain ⟨t577, A180, H⟩ := H
        replace H : (some t577) = some r := H
        have A18 := Aside0.mk A180
        clear A180
        obtain rfl := Option.some.inj H
        go_wp2_with (first | (go_at_call 12; (with_reducible refine (stockyardlaw03_awake.calls kj2  t577 _ A18.out).mono ?_); rintro e w19 ⟨rfl, hb⟩; have n0_ := Aside0.mk (blk_below (g := gb573) (o := .cells #[.slice A0_0 l0_0.length c0_0, .bool a0_1] 24 (0, 0)) (by (with_reducible repeat (first | refine blk_drewN ?_ _ | refine blk_drew ?_ | refine blk_alloc ?_ _)); exact BK573.out) hb); have n1_ := Aside0.mk (blk_below (g := gb574) (o := .cells #[.slice A1_0 l1_0.length c1_0, .bool a1_1] 24 (0, 0)) (by (with_reducible repeat (first | refine blk_drewN ?_ _ | refine blk_drew ?_ | refine blk_alloc ?_ _)); exact BK574.out) hb); have n2_ := Aside0.mk (below_step (by repeat (first | (with_reducible first | exact HB.out | apply below_alloc | apply pw_below_drewN | apply below_drew1 | refine below_set ?_ GE573.out | refine below_set ?_ GE574.out) | exact HB.out)) hb); clear BK573; clear BK574; clear HB; have BK573 := n0_; have BK574 := n1_; have HB := n2_; clear n0_ n1_ n2_; (try clear hb); (try clear hb2); (try clear hk); (try clear hi)))
        repeat (go_quiet (first | (go_at_call 12; (with_reducible refine (stockyardlaw03_awake.calls kj2  t577 _ A18.out).mono ?_); rintro e w19 ⟨rfl, hb⟩; have n0_ := Aside0.mk (blk_below (g := gb573) (o := .cells #[.slice A0_0 l0_0.length c0_0, .bool a0_1] 24 (0, 0)) (by (with_reducible repeat (first | refine blk_drewN ?_ _ | refine blk_drew ?_ | refine blk_alloc ?_ _)); exact BK573.out) hb); have n1_ := Aside0.mk (blk_below (g := gb574) (o := .cells #[.slice A1_0 l1_0.length c1_0, .bool a1_1] 24 (0, 0)) (by (with_reducible repeat (first | refine blk_drewN ?_ _ | refine blk_drew ?_ | refine blk_alloc ?_ _)); exact BK574.out) hb); have n2_ := Aside0.mk (below_step (by repeat (first | (with_reducible first | exact HB.out | apply below_alloc | apply pw_below_drewN | apply below_drew1 | refine below_set ?_ GE573.out | refine below_set ?_ GE574.out) | exact HB.out)) hb); clear BK573; clear BK574; clear HB; have BK573 := n0_; have BK574 := n1_; have HB := n2_; clear n0_ n1_ n2_; (try clear hb); (try clear hb2); (try clear hk); (try clear hi))); try go_wp2_with (first | (go_at_call 12; (with_reducible refine (stockyardlaw03_awake.calls kj2  t577 _ A18.out).mono ?_); rintro e w19 ⟨rfl, hb⟩; have n0_ := Aside0.mk (blk_below (g := gb573) (o := .cells #[.slice A0_0 l0_0.length c0_0, .bool a0_1] 24 (0, 0)) (by (with_reducible repeat (first | refine blk_drewN ?_ _ | refine blk_drew ?_ | refine blk_alloc ?_ _)); exact BK573.out) hb); have n1_ := Aside0.mk (blk_below (g := gb574) (o := .cells #[.slice A1_0 l1_0.length c1_0, .bool a1_1] 24 (0, 0)) (by (with_reducible repeat (first | refine blk_drewN ?_ _ | refine blk_drew ?_ | refine blk_alloc ?_ _)); exact BK574.out) hb); have n2_ := Aside0.mk (below_step (by repeat (first | (with_reducible first | exact HB.out | apply below_alloc | apply pw_below_drewN | apply below_drew1 | refine below_set ?_ GE573.out | refine below_set ?_ GE574.out) | exact HB.out)) hb); clear BK573; clear BK574; clear HB; have BK573 := n0_; have BK574 := n1_; have HB := n2_; clear n0_ n1_ n2_; (try clear hb); (try clear hb2); (try clear hk); (try clear hi))))
        go_ret
        exact ⟨by first | rfl | (simp [errW_none, errW_some] <;> rfl) | (simp [*, errW_none, errW_some] <;> rfl), by repeat (first | (with_reducible first | exact HB.out | apply below_alloc | apply pw_below_drewN | apply below_drew1 | refine below_set ?_ GE573.out | refine below_set ?_ GE574.out) | exact HB.out)⟩
      · replace c17 := Bool.eq_false_iff.mpr c17
        subst c17
        have H1 : ((pattern_Bind.f kj2 l0_0 a0_1 l1_0 a1_1).bind fun bt578 => ((stockyardref03_Bind.f kj2 l0_0 a0_1 l1_0 a1_1).bind fun bt582 => (if (bt578.2 != bt582.2) = true then (stockyardlaw03_PatternBinds.j1 kj2 bt578.1 bt582.1 true) else (stockyardlaw03_PatternBinds.j1 kj2 bt578.1 bt582.1 ((bt578.1.length : Int) != (bt582.1.length : Int)))))) = some r := by rw [if_neg (show ¬ (false = true) by decide)] at H; exact H
        clear H
        have H := H1
        clear H1
        replace H := Option.bind_eq_some_iff.mp H
        obtain ⟨⟨t578, t581⟩, A200, H⟩ := H
        replace H : ((stockyardref03_Bind.f kj2 l0_0 a0_1 l1_0 a1_1).bind fun bt582 => (if (t581 != bt582.2) = true then (stockyardlaw03_PatternBinds.j1 kj2 t578 bt582.1 true) else (stockyardlaw03_PatternBinds.j1 kj2 t578 bt582.1 ((t578.length : Int) != (bt582.1.length : Int))))) = some r := H
        have A20 := Aside0.mk A200
        clear A200
        replace H := Option.bind_eq_some_iff.mp H
        obtain ⟨⟨t582, t585⟩, A210, H⟩ := H
        replace H : (if (t581 != t585) = true then (stockyardlaw03_PatternBinds.j1 kj2 t578 t582 true) else (stockyardlaw03_PatternBinds.j1 kj2 t578 t582 ((t578.length : Int) != (t582.length : Int)))) = some r := H
        have A21 := Aside0.mk A210
        clear A210
        have HC22 := Aside0.mk H
        clear H
        have hnb23 := NB573_574.out
        have hnc23 := NB574_573.out
        have hcz24_0 : wc.cell? ⟨gb573, 0, none⟩ = some (.slice A0_0 l0_0.length c0_0) := (blk_cell BK573.out 0).trans rfl
        have hcz24_1 : wc.cell? ⟨gb573, 1, none⟩ = some (.bool a0_1) := (blk_cell BK573.out 1).trans rfl
        have hfz24_0 := blk_frozen BK573.out 0
        have hfz24_1 := blk_frozen BK573.out 1
        have hcz25_0 : wc.cell? ⟨gb574, 0, none⟩ = some (.slice A1_0 l1_0.length c1_0) := (blk_cell BK574.out 0).trans rfl
        have hcz25_1 : wc.cell? ⟨gb574, 1, none⟩ = some (.bool a1_1) := (blk_cell BK574.out 1).trans rfl
        have hfz25_0 := blk_frozen BK574.out 0
        have hfz25_1 := blk_frozen BK574.out 1
        go_upto_region 5 with (first | (go_at_call 25; (with_reducible refine (pattern_Bind.calls kj2 _ _ l0_0 a0_1 _ _ l1_0 a1_1 t578 t581 _ ?side1 ?side2 ?side3 ?side4 A20.out).mono ?_); (case side1 => repeat (first | exact (Kd.C_below HR0_0.out HB.out) | (with_reducible refine Kd.C_alloc ?_ _) | (with_reducible refine Kd.C_drewN ?_ _) | (with_reducible refine Kd.C_drew ?_))); (case side2 => exact HC0_0.out); (case side3 => repeat (first | exact (Kd.C_below HR1_0.out HB.out) | (with_reducible refine Kd.C_alloc ?_ _) | (with_reducible refine Kd.C_drewN ?_ _) | (with_reducible refine Kd.C_drew ?_))); (case side4 => exact HC1_0.out); rintro e w26 ⟨v579, rfl, ho0, hb⟩; have n0_ := Aside0.mk (Kd.S_lower ho0 (below_size (by repeat (first | (with_reducible first | exact HB.out | apply below_alloc | apply pw_below_drewN | apply below_drew1 | refine below_set ?_ GE573.out | refine below_set ?_ GE574.out) | exact HB.out)))); have n1_ := Aside0.mk (blk_below (g := gb573) (o := .cells #[.slice A0_0 l0_0.length c0_0, .bool a0_1] 24 (0, 0)) (by (with_reducible repeat (first | refine blk_drewN ?_ _ | refine blk_drew ?_ | refine blk_alloc ?_ _)); exact BK573.out) hb); have n2_ := Aside0.mk (blk_below (g := gb574) (o := .cells #[.slice A1_0 l1_0.length c1_0, .bool a1_1] 24 (0, 0)) (by (with_reducible repeat (first | refine blk_drewN ?_ _ | refine blk_drew ?_ | refine blk_alloc ?_ _)); exact BK574.out) hb); have n3_ := Aside0.mk (below_step (by repeat (first | (with_reducible first | exact HB.out | apply below_alloc | apply pw_below_drewN | apply below_drew1 | refine below_set ?_ GE573.out | refine below_set ?_ GE574.out) | exact HB.out)) hb); clear BK573; clear BK574; clear HB; have HO580 := n0_; have BK573 := n1_; have BK574 := n2_; have HB := n3_; clear n0_ n1_ n2_ n3_; (try clear hb); (try clear hb2); (try clear hk); (try clear hi); (try clear ho0); have hcz27_0 : w26.cell? ⟨gb573, 0, none⟩ = some (.slice A0_0 l0_0.length c0_0) := (blk_cell BK573.out 0).trans rfl; have hcz27_1 : w26.cell? ⟨gb573, 1, none⟩ = some (.bool a0_1) := (blk_cell BK573.out 1).trans rfl; have hfz27_0 := blk_frozen BK573.out 0; have hfz27_1 := blk_frozen BK573.out 1; have hcz28_0 : w26.cell? ⟨gb574, 0, none⟩ = some (.slice A1_0 l1_0.length c1_0) := (blk_cell BK574.out 0).trans rfl; have hcz28_1 : w26.cell? ⟨gb574, 1, none⟩ = some (.bool a1_1) := (blk_cell BK574.out 1).trans rfl; have hfz28_0 := blk_frozen BK574.out 0; have hfz28_1 := blk_frozen BK574.out 1) | (go_at_call 26; (with_reducible refine (stockyardref03_Bind.calls kj2 _ _ l0_0 a0_1 _ _ l1_0 a1_1 t582 t585 _ ?side1 ?side2 ?side3 ?side4 A21.out).mono ?_); (case side1 => repeat (first | exact (Kd.C_below HR0_0.out HB.out) | (with_reducible refine Kd.C_alloc ?_ _) | (with_reducible refine Kd.C_drewN ?_ _) | (with_reducible refine Kd.C_drew ?_))); (case side2 => exact HC0_0.out); (case side3 => repeat (first | exact (Kd.C_below HR1_0.out HB.out) | (with_reducible refine Kd.C_alloc ?_ _) | (with_reducible refine Kd.C_drewN ?_ _) | (with_reducible refine Kd.C_drew ?_))); (case side4 => exact HC1_0.out); rintro e w29 ⟨v583, rfl, ho0, hb⟩; have n0_ := Aside0.mk (Kd.S_elder' (by (with_reducible repeat (first | apply Kd.S_alloc | apply Kd.S_drewN | apply Kd.S_drew)); exact HO580.out) (Kd.S_base ho0) hb); have n1_ := Aside0.mk (Kd.S_lower (Kd.S_new' ho0 (Kd.S_lt (by (with_reducible repeat (first | apply Kd.S_alloc | apply Kd.S_drewN | apply Kd.S_drew)); exact HO580.out))) (below_size (by repeat (first | (with_reducible first | exact HB.out | apply below_alloc | apply pw_below_drewN | apply below_drew1 | refine below_set ?_ GE573.out | refine below_set ?_ GE574.out) | exact HB.out)))); have n2_ := Aside0.mk (blk_below (g := gb573) (o := .cells #[.slice A0_0 l0_0.length c0_0, .bool a0_1] 24 (0, 0)) (by (with_reducible repeat (first | refine blk_drewN ?_ _ | refine blk_drew ?_ | refine blk_alloc ?_ _)); exact BK573.out) hb); have n3_ := Aside0.mk (blk_below (g := gb574) (o := .cells #[.slice A1_0 l1_0.length c1_0, .bool a1_1] 24 (0, 0)) (by (with_reducible repeat (first | refine blk_drewN ?_ _ | refine blk_drew ?_ | refine blk_alloc ?_ _)); exact BK574.out) hb); have n4_ := Aside0.mk (below_step (by repeat (first | (with_reducible first | exact HB.out | apply below_alloc | apply pw_below_drewN | apply below_drew1 | refine below_set ?_ GE573.out | refine below_set ?_ GE574.out) | exact HB.out)) hb); clear HO580; clear BK573; clear BK574; clear HB; have HO580 := n0_; have HO584 := n1_; have BK573 := n2_; have BK574 := n3_; have HB := n4_; clear n0_ n1_ n2_ n3_ n4_; (try clear hb); (try clear hb2); (try clear hk); (try clear hi); (try clear ho0)))
        repeat (go_quiet (first | (go_at_call 25; (with_reducible refine (pattern_Bind.calls kj2 _ _ l0_0 a0_1 _ _ l1_0 a1_1 t578 t581 _ ?side1 ?side2 ?side3 ?side4 A20.out).mono ?_); (case side1 => repeat (first | exact (Kd.C_below HR0_0.out HB.out) | (with_reducible refine Kd.C_alloc ?_ _) | (with_reducible refine Kd.C_drewN ?_ _) | (with_reducible refine Kd.C_drew ?_))); (case side2 => exact HC0_0.out); (case side3 => repeat (first | exact (Kd.C_below HR1_0.out HB.out) | (with_reducible refine Kd.C_alloc ?_ _) | (with_reducible refine Kd.C_drewN ?_ _) | (with_reducible refine Kd.C_drew ?_))); (case side4 => exact HC1_0.out); rintro e w26 ⟨v579, rfl, ho0, hb⟩; have n0_ := Aside0.mk (Kd.S_lower ho0 (below_size (by repeat (first | (with_reducible first | exact HB.out | apply below_alloc | apply pw_below_drewN | apply below_drew1 | refine below_set ?_ GE573.out | refine below_set ?_ GE574.out) | exact HB.out)))); have n1_ := Aside0.mk (blk_below (g := gb573) (o := .cells #[.slice A0_0 l0_0.length c0_0, .bool a0_1] 24 (0, 0)) (by (with_reducible repeat (first | refine blk_drewN ?_ _ | refine blk_drew ?_ | refine blk_alloc ?_ _)); exact BK573.out) hb); have n2_ := Aside0.mk (blk_below (g := gb574) (o := .cells #[.slice A1_0 l1_0.length c1_0, .bool a1_1] 24 (0, 0)) (by (with_reducible repeat (first | refine blk_drewN ?_ _ | refine blk_drew ?_ | refine blk_alloc ?_ _)); exact BK574.out) hb); have n3_ := Aside0.mk (below_step (by repeat (first | (with_reducible first | exact HB.out | apply below_alloc | apply pw_below_drewN | apply below_drew1 | refine below_set ?_ GE573.out | refine below_set ?_ GE574.out) | exact HB.out)) hb); clear BK573; clear BK574; clear HB; have HO580 := n0_; have BK573 := n1_; have BK574 := n2_; have HB := n3_; clear n0_ n1_ n2_ n3_; (try clear hb); (try clear hb2); (try clear hk); (try clear hi); (try clear ho0); have hcz27_0 : w26.cell? ⟨gb573, 0, none⟩ = some (.slice A0_0 l0_0.length c0_0) := (blk_cell BK573.out 0).trans rfl; have hcz27_1 : w26.cell? ⟨gb573, 1, none⟩ = some (.bool a0_1) := (blk_cell BK573.out 1).trans rfl; have hfz27_0 := blk_frozen BK573.out 0; have hfz27_1 := blk_frozen BK573.out 1; have hcz28_0 : w26.cell? ⟨gb574, 0, none⟩ = some (.slice A1_0 l1_0.length c1_0) := (blk_cell BK574.out 0).trans rfl; have hcz28_1 : w26.cell? ⟨gb574, 1, none⟩ = some (.bool a1_1) := (blk_cell BK574.out 1).trans rfl; have hfz28_0 := blk_frozen BK574.out 0; have hfz28_1 := blk_frozen BK574.out 1) | (go_at_call 26; (with_reducible refine (stockyardref03_Bind.calls kj2 _ _ l0_0 a0_1 _ _ l1_0 a1_1 t582 t585 _ ?side1 ?side2 ?side3 ?side4 A21.out).mono ?_); (case side1 => repeat (first | exact (Kd.C_below HR0_0.out HB.out) | (with_reducible refine Kd.C_alloc ?_ _) | (with_reducible refine Kd.C_drewN ?_ _) | (with_reducible refine Kd.C_drew ?_))); (case side2 => exact HC0_0.out); (case side3 => repeat (first | exact (Kd.C_below HR1_0.out HB.out) | (with_reducible refine Kd.C_alloc ?_ _) | (with_reducible refine Kd.C_drewN ?_ _) | (with_reducible refine Kd.C_drew ?_))); (case side4 => exact HC1_0.out); rintro e w29 ⟨v583, rfl, ho0, hb⟩; have n0_ := Aside0.mk (Kd.S_elder' (by (with_reducible repeat (first | apply Kd.S_alloc | apply Kd.S_drewN | apply Kd.S_drew)); exact HO580.out) (Kd.S_base ho0) hb); have n1_ := Aside0.mk (Kd.S_lower (Kd.S_new' ho0 (Kd.S_lt (by (with_reducible repeat (first | apply Kd.S_alloc | apply Kd.S_drewN | apply Kd.S_drew)); exact HO580.out))) (below_size (by repeat (first | (with_reducible first | exact HB.out | apply below_alloc | apply pw_below_drewN | apply below_drew1 | refine below_set ?_ GE573.out | refine below_set ?_ GE574.out) | exact HB.out)))); have n2_ := Aside0.mk (blk_below (g := gb573) (o := .cells #[.slice A0_0 l0_0.length c0_0, .bool a0_1] 24 (0, 0)) (by (with_reducible repeat (first | refine blk_drewN ?_ _ | refine blk_drew ?_ | refine blk_alloc ?_ _)); exact BK573.out) hb); have n3_ := Aside0.mk (blk_below (g := gb574) (o := .cells #[.slice A1_0 l1_0.length c1_0, .bool a1_1] 24 (0, 0)) (by (with_reducible repeat (first | refine blk_drewN ?_ _ | refine blk_drew ?_ | refine blk_alloc ?_ _)); exact BK574.out) hb); have n4_ := Aside0.mk (below_step (by repeat (first | (with_reducible first | exact HB.out | apply below_alloc | apply pw_below_drewN | apply below_drew1 | refine below_set ?_ GE573.out | refine below_set ?_ GE574.out) | exact HB.out)) hb); clear HO580; clear BK573; clear BK574; clear HB; have HO580 := n0_; have HO584 := n1_; have BK573 := n2_; have BK574 := n3_; have HB := n4_; clear n0_ n1_ n2_ n3_ n4_; (try clear hb); (try clear hb2); (try clear hk); (try clear hi); (try clear ho0))); go_upto_region 5 with (first | (go_at_call 25; (with_reducible refine (pattern_Bind.calls kj2 _ _ l0_0 a0_1 _ _ l1_0 a1_1 t578 t581 _ ?side1 ?side2 ?side3 ?side4 A20.out).mono ?_); (case side1 => repeat (first | exact (Kd.C_below HR0_0.out HB.out) | (with_reducible refine Kd.C_alloc ?_ _) | (with_reducible refine Kd.C_drewN ?_ _) | (with_reducible refine Kd.C_drew ?_))); (case side2 => exact HC0_0.out); (case side3 => repeat (first | exact (Kd.C_below HR1_0.out HB.out) | (with_reducible refine Kd.C_alloc ?_ _) | (with_reducible refine Kd.C_drewN ?_ _) | (with_reducible refine Kd.C_drew ?_))); (case side4 => exact HC1_0.out); rintro e w26 ⟨v579, rfl, ho0, hb⟩; have n0_ := Aside0.mk (Kd.S_lower ho0 (below_size (by repeat (first | (with_reducible first | exact HB.out | apply below_alloc | apply pw_below_drewN | apply below_drew1 | refine below_set ?_ GE573.out | refine below_set ?_ GE574.out) | exact HB.out)))); have n1_ := Aside0.mk (blk_below (g := gb573) (o := .cells #[.slice A0_0 l0_0.length c0_0, .bool a0_1] 24 (0, 0)) (by (with_reducible repeat (first | refine blk_drewN ?_ _ | refine blk_drew ?_ | refine blk_alloc ?_ _)); exact BK573.out) hb); have n2_ := Aside0.mk (blk_below (g := gb574) (o := .cells #[.slice A1_0 l1_0.length c1_0, .bool a1_1] 24 (0, 0)) (by (with_reducible repeat (first | refine blk_drewN ?_ _ | refine blk_drew ?_ | refine blk_alloc ?_ _)); exact BK574.out) hb); have n3_ := Aside0.mk (below_step (by repeat (first | (with_reducible first | exact HB.out | apply below_alloc | apply pw_below_drewN | apply below_drew1 | refine below_set ?_ GE573.out | refine below_set ?_ GE574.out) | exact HB.out)) hb); clear BK573; clear BK574; clear HB; have HO580 := n0_; have BK573 := n1_; have BK574 := n2_; have HB := n3_; clear n0_ n1_ n2_ n3_; (try clear hb); (try clear hb2); (try clear hk); (try clear hi); (try clear ho0); have hcz27_0 : w26.cell? ⟨gb573, 0, none⟩ = some (.slice A0_0 l0_0.length c0_0) := (blk_cell BK573.out 0).trans rfl; have hcz27_1 : w26.cell? ⟨gb573, 1, none⟩ = some (.bool a0_1) := (blk_cell BK573.out 1).trans rfl; have hfz27_0 := blk_frozen BK573.out 0; have hfz27_1 := blk_frozen BK573.out 1; have hcz28_0 : w26.cell? ⟨gb574, 0, none⟩ = some (.slice A1_0 l1_0.length c1_0) := (blk_cell BK574.out 0).trans rfl; have hcz28_1 : w26.cell? ⟨gb574, 1, none⟩ = some (.bool a1_1) := (blk_cell BK574.out 1).trans rfl; have hfz28_0 := blk_frozen BK574.out 0; have hfz28_1 := blk_frozen BK574.out 1) | (go_at_call 26; (with_reducible refine (stockyardref03_Bind.calls kj2 _ _ l0_0 a0_1 _ _ l1_0 a1_1 t582 t585 _ ?side1 ?side2 ?side3 ?side4 A21.out).mono ?_); (case side1 => repeat (first | exact (Kd.C_below HR0_0.out HB.out) | (with_reducible refine Kd.C_alloc ?_ _) | (with_reducible refine Kd.C_drewN ?_ _) | (with_reducible refine Kd.C_drew ?_))); (case side2 => exact HC0_0.out); (case side3 => repeat (first | exact (Kd.C_below HR1_0.out HB.out) | (with_reducible refine Kd.C_alloc ?_ _) | (with_reducible refine Kd.C_drewN ?_ _) | (with_reducible refine Kd.C_drew ?_))); (case side4 => exact HC1_0.out); rintro e w29 ⟨v583, rfl, ho0, hb⟩; have n0_ := Aside0.mk (Kd.S_elder' (by (with_reducible repeat (first | apply Kd.S_alloc | apply Kd.S_drewN | apply Kd.S_drew)); exact HO580.out) (Kd.S_base ho0) hb); have n1_ := Aside0.mk (Kd.S_lower (Kd.S_new' ho0 (Kd.S_lt (by (with_reducible repeat (first | apply Kd.S_alloc | apply Kd.S_drewN | apply Kd.S_drew)); exact HO580.out))) (below_size (by repeat (first | (with_reducible first | exact HB.out | apply below_alloc | apply pw_below_drewN | apply below_drew1 | refine below_set ?_ GE573.out | refine below_set ?_ GE574.out) | exact HB.out)))); have n2_ := Aside0.mk (blk_below (g := gb573) (o := .cells #[.slice A0_0 l0_0.length c0_0, .bool a0_1] 24 (0, 0)) (by (with_reducible repeat (first | refine blk_drewN ?_ _ | refine blk_drew ?_ | refine blk_alloc ?_ _)); exact BK573.out) hb); have n3_ := Aside0.mk (blk_below (g := gb574) (o := .cells #[.slice A1_0 l1_0.length c1_0, .bool a1_1] 24 (0, 0)) (by (with_reducible repeat (first | refine blk_drewN ?_ _ | refine blk_drew ?_ | refine blk_alloc ?_ _)); exact BK574.out) hb); have n4_ := Aside0.mk (below_step (by repeat (first | (with_reducible first | exact HB.out | apply below_alloc | apply pw_below_drewN | apply below_drew1 | refine below_set ?_ GE573.out | refine below_set ?_ GE574.out) | exact HB.out)) hb); clear HO580; clear BK573; clear BK574; clear HB; have HO580 := n0_; have HO584 := n1_; have BK573 := n2_; have BK574 := n3_; have HB := n4_; clear n0_ n1_ n2_ n3_ n4_; (try clear hb); (try clear hb2); (try clear hk); (try clear hi); (try clear ho0))))
        (try simp only [Act.put, List.setIfInBounds_toArray, List.set_cons_zero, List.set_cons_succ])
        go_cut [40] (fun v40 wc => ∃ (kq : Nat) (x40_21 : Bool), v40 = .bool x40_21 ∧ Aside0 (stockyardlaw03_PatternBinds.j1 kq t578 t582 x40_21 = some r) ∧ Aside0 (kq ≤ kj2) ∧ Aside0 (Kd.S k39 39 wc w.heap.size (fun k_ => some k_ ≠ (v583 : Value).ownBlock) v579 t578) ∧ Aside0 (Kd.S k39 39 wc w.heap.size (fun k_ => some k_ ≠ (v579 : Value).ownBlock) v583 t582) ∧ Aside0 (wc.heap[gb573]? = some (.cells #[(.slice A0_0 l0_0.length c0_0), .bool a0_1] 24 (0, 0))) ∧ Aside0 (wc.heap[gb574]? = some (.cells #[(.slice A1_0 l1_0.length c1_0), .bool a1_1] 24 (0, 0))) ∧ Aside0 (Below w.heap.size w wc))
        case first =>
          have H := HC22.out
          clear HC22
          by_cases c30 : (t581 != t585) = true
          · rw [if_pos c30] at H
            have c30b0 : (t581 != t585) = true := c30
            (try (have c30b1 : decide (t581 = t585) = false := by simpa using c30))
            (try (have c30b2 : (t581 == t585) = false := by simpa using c30))
            (try (have c30b3 : ¬ (t581 = t585) := by simpa using c30))
            clear c30
            (first | rw [c30b0] | (simp only [i64_w, i32_w]; rw [c30b0]) | skip)
            have H' := Aside0.mk H
            clear H
            go_wp2
            repeat (go_quiet (fail); try go_wp2)
            go_meet
            case rel => exact ⟨_, (true), (by first | rfl | (simp; done) | (simp [*]; done)), H', ⟨by have := HJ2.out; first | omega | exact Nat.le_refl _⟩, ⟨by (with_reducible repeat (first | apply Kd.S_alloc | apply Kd.S_drewN | apply Kd.S_drew)); exact Kd.S_mono HO580.out (fun _ hk => hk.2)⟩, ⟨by (with_reducible repeat (first | apply Kd.S_alloc | apply Kd.S_drewN | apply Kd.S_drew)); exact Kd.S_mono HO584.out (fun _ hk => hk.2)⟩, ⟨by (with_reducible repeat (first | refine blk_drewN ?_ _ | refine blk_drew ?_ | refine blk_alloc ?_ _)); exact BK573.out⟩, ⟨by (with_reducible repeat (first | refine blk_drewN ?_ _ | refine blk_drew ?_ | refine blk_alloc ?_ _)); exact BK574.out⟩, ⟨by repeat (first | (with_reducible first | exact HB.out | apply below_alloc | apply pw_below_drewN | apply below_drew1 | refine below_set ?_ GE573.out | refine below_set ?_ GE574.out) | exact HB.out)⟩⟩
          · rw [if_neg c30] at H
            have c30b0 : (t581 != t585) = false := by simpa using c30
            (try (have c30b1 : decide (t581 = t585) = true := by simpa using c30))
            (try (have c30b2 : (t581 == t585) = true := by simpa using c30))
            clear c30
            (first | rw [c30b0] | (simp only [i64_w, i32_w]; rw [c30b0]) | skip)
            have H' := Aside0.mk H
            clear H
            obtain ⟨Ao31, co31, eo31⟩ := Kd.S_slice HO580.out
            subst eo31
            obtain ⟨Ao32, co32, eo32⟩ := Kd.S_slice HO584.out
            subst eo32
            go_wp2
            repeat (go_quiet (fail); try go_wp2)
            go_meet
            case rel => exact ⟨_, (((t578.length : Int) != (t582.length : Int))), (by first | rfl | (simp; done) | (simp [*]; done)), H', ⟨by have := HJ2.out; first | omega | exact Nat.le_refl _⟩, ⟨by (with_reducible repeat (first | apply Kd.S_alloc | apply Kd.S_drewN | apply Kd.S_drew)); exact Kd.S_mono HO580.out (fun _ hk => hk.2)⟩, ⟨by (with_reducible repeat (first | apply Kd.S_alloc | apply Kd.S_drewN | apply Kd.S_drew)); exact Kd.S_mono HO584.out (fun _ hk => hk.2)⟩, ⟨by (with_reducible repeat (first | refine blk_drewN ?_ _ | refine blk_drew ?_ | refine blk_alloc ?_ _)); exact BK573.out⟩, ⟨by (with_reducible repeat (first | refine blk_drewN ?_ _ | refine blk_drew ?_ | refine blk_alloc ?_ _)); exact BK574.out⟩, ⟨by repeat (first | (with_reducible first | exact HB.out | apply below_alloc | apply pw_below_drewN | apply below_drew1 | refine below_set ?_ GE573.out | refine below_set ?_ GE574.out) | exact HB.out)⟩⟩
        case rest =>
          clear HC22
          try clear c1
          try clear c2
          try clear p2
          try clear c3
          try clear c7
          try clear c9
          try clear c14
          try clear c17
          try clear c23
          try clear c30
          try clear c30b0
          try clear c30b1
          try clear c30b2
          try clear hcz10_0
          try clear hcz10_1
          try clear hcz12_0
          try clear hcz12_1
          try clear hcz15_0
          try clear hcz15_1
          try clear hcz24_0
          try clear hcz24_1
          try clear hcz25_0
          try clear hcz25_1
          try clear hcz27_0
          try clear hcz27_1
          try clear hcz28_0
          try clear hcz28_1
          try clear hfz10_0
          try clear hfz10_1
          try clear hfz12_0
          try clear hfz12_1
          try clear hfz15_0
          try clear hfz15_1
          try clear hfz24_0
          try clear hfz24_1
          try clear hfz25_0
          try clear hfz25_1
          try clear hfz27_0
          try clear hfz27_1
          try clear hfz28_0
          try clear hfz28_1
          try clear p2
          obtain ⟨kq, x40_21, rfl, HA, HJ21, HO_5, HO_7, BK573, BK574, HB⟩ := hcut
          cases kq with
          | zero => exact absurd HA.out (by simp [stockyardlaw03_PatternBinds.j1])
          | succ kj21 =>
            have H := HA.out
            clear HA
            simp only [stockyardlaw03_PatternBinds.j1] at H
            by_cases c33 : x40_21 = true
            · subst c33
              have H1 : (some false) = some r := by rw [if_pos rfl] at H; exact H
              clear H
              have H := H1
              clear H1
              obtain rfl := Option.some.inj H
              go_wp2
              repeat (go_quiet (fail); try go_wp2)
              go_ret
              exact ⟨by first | rfl | (simp [errW_none, errW_some] <;> rfl) | (simp [*, errW_none, errW_some] <;> rfl), by repeat (first | (with_reducible first | exact HB.out | apply below_alloc | apply pw_below_drewN | apply below_drew1 | refine below_set ?_ GE573.out | refine below_set ?_ GE574.out) | exact HB.out)⟩
            · replace c33 := Bool.eq_false_iff.mpr c33
              subst c33
              have H1 : (stockyardlaw03_PatternBinds.l0 kj21 t578 t582 (t578.length : Int) 0) = some r := by rw [if_neg (show ¬ (false = true) by decide)] at H; exact H
              clear H
              have H := H1
              clear H1
              have H' := Aside0.mk H
              clear H
              obtain ⟨Ao34, co34, eo34⟩ := Kd.S_slice HO_5.out
              subst eo34
              go_wp2
              repeat (go_quiet (fail); try go_wp2)
              go_loopg [43] kj21 (fun kq v43 w' => ∃ (x43_3 : Int), v43 = .int .i64 x43_3 ∧ Aside0 (stockyardlaw03_PatternBinds.l0 kq t578 t582 (t578.length : Int) x43_3 = some r) ∧ Aside0 (kq ≤ kj21) ∧ Aside0 (Kd.S k39 39 w' w.heap.size (fun k_ => some k_ ≠ (v583 : Value).ownBlock) (.slice Ao34 t578.length co34) t578) ∧ Aside0 (Kd.S k39 39 w' w.heap.size (fun k_ => some k_ ≠ ((.slice Ao34 t578.length co34) : Value).ownBlock) v583 t582) ∧ Aside0 (w'.heap[gb573]? = some (.cells #[(.slice A0_0 l0_0.length c0_0), .bool a0_1] 24 (0, 0))) ∧ Aside0 (w'.heap[gb574]? = some (.cells #[(.slice A1_0 l1_0.length c1_0), .bool a1_1] 24 (0, 0))) ∧ Aside0 (Below w.heap.size w w'))
              case atStart => exact ⟨(0), (by first | rfl | (simp; done) | (simp [*]; done)), H', ⟨Nat.le_refl _⟩, ⟨by (with_reducible repeat (first | apply Kd.S_alloc | apply Kd.S_drewN | apply Kd.S_drew)); exact HO_5.out⟩, ⟨by (with_reducible repeat (first | apply Kd.S_alloc | apply Kd.S_drewN | apply Kd.S_drew)); exact HO_7.out⟩, ⟨by (with_reducible repeat (first | refine blk_drewN ?_ _ | refine blk_drew ?_ | refine blk_alloc ?_ _)); exact BK573.out⟩, ⟨by (with_reducible repeat (first | refine blk_drewN ?_ _ | refine blk_drew ?_ | refine blk_alloc ?_ _)); exact BK574.out⟩, ⟨by repeat (first | (with_reducible first | exact HB.out | apply below_alloc | apply pw_below_drewN | apply below_drew1 | refine below_set ?_ GE573.out | refine below_set ?_ GE574.out) | exact HB.out)⟩⟩
              case round =>
                clear H'
                try clear c1
                try clear c2
                try clear p2
                try clear c3
                try clear c7
                try clear c9
                try clear c14
                try clear c17
                try clear c23
                try clear c30
                try clear c30b0
                try clear c30b1
                try clear c30b2
                try clear c33
                try clear hcz10_0
                try clear hcz10_1
                try clear hcz12_0
                try clear hcz12_1
                try clear hcz15_0
                try clear hcz15_1
                try clear hcz24_0
                try clear hcz24_1
                try clear hcz25_0
                try clear hcz25_1
                try clear hcz27_0
                try clear hcz27_1
                try clear hcz28_0
                try clear hcz28_1
                try clear hfz10_0
                try clear hfz10_1
                try clear hfz12_0
                try clear hfz12_1
                try clear hfz15_0
                try clear hfz15_1
                try clear hfz24_0
                try clear hfz24_1
                try clear hfz25_0
                try clear hfz25_1
                try clear hfz27_0
                try clear hfz27_1
                try clear hfz28_0
                try clear hfz28_1
                try clear p2
                obtain ⟨x43_3, rfl, HA, HK3, HO_5, HO_7, BK573, BK574, HB⟩ := hrel
                cases gk with
                | zero => exact absurd HA.out (by simp [stockyardlaw03_PatternBinds.l0])
                | succ k3 =>
                  have H := HA.out
                  clear HA
                  simp only [stockyardlaw03_PatternBinds.l0] at H
                  by_cases c35 : x43_3 < (t578.length : Int)
                  · rw [if_pos c35] at H
                    have c35b0 : decide (x43_3 < (t578.length : Int)) = true := decide_eq_true c35
                    clear c35
                    by_cases c36 : 0 ≤ x43_3
                    · rw [if_pos c36] at H
                      have c36b0 : decide (0 ≤ x43_3) = true := decide_eq_true c36
                      clear c36
                      by_cases c37 : x43_3 < (t578.length : Int)
                      · rw [if_pos c37] at H
                        have c37b0 : decide (x43_3 < (t578.length : Int)) = true := decide_eq_true c37
                        clear c37
                        by_cases c38 : x43_3 < (t582.length : Int)
                        · rw [if_pos c38] at H
                          have c38b0 : decide (x43_3 < (t582.length : Int)) = true := decide_eq_true c38
                          clear c38
                          by_cases c39 : (((rd_T39 t578 x43_3).f1) != ((rd_T39 t582 x43_3).f1)) = true
                          · rw [if_pos c39] at H
                            have c39b0 : (((rd_T39 t578 x43_3).f1) != ((rd_T39 t582 x43_3).f1)) = true := c39
                            (try (have c39b1 : decide (((rd_T39 t578 x43_3).f1) = ((rd_T39 t582 x43_3).f1)) = false := by simpa using c39))
                            (try (have c39b2 : (((rd_T39 t578 x43_3).f1) == ((rd_T39 t582 x43_3).f1)) = false := by simpa using c39))
                            (try (have c39b3 : ¬ (((rd_T39 t578 x43_3).f1) = ((rd_T39 t582 x43_3).f1)) := by simpa using c39))
                            clear c39
                            obtain rfl := Option.some.inj H
                            have p586 : 0 ≤ (x43_3 : Int) := of_decide_eq_true (by first | (with_reducible assumption) | assumption)
                            have q586 : x43_3 < (t578.length : Int) := of_decide_eq_true (by first | (with_reducible assumption) | assumption)
                            obtain ⟨ad586, A586_0, c586_0, e586, hx586_0, hx586_1, hl586_0, hi586_0⟩ := at_T39 (Kd.S_reads' HO_5.out).2.2 x43_3 p586 q586
                            cases e586
                            obtain ⟨ce586, hce586, hMe586, hcc586⟩ := Kd.S_get HO_5.out z39 x43_3 p586 (by first | exact q586 | exact of_decide_eq_true (by first | (with_reducible assumption) | assumption) | (have e_ := (Kd.S_reads' HO_5.out).1; omega))
                            obtain ⟨ve586_0, rfl, ge586_0⟩ := k39_openM hMe586
                            have hv586_0 := hcc586 0 _ rfl
                            rw [Nat.add_zero] at hv586_0
                            replace hv586_0 := Option.some.inj (hv586_0.symm.trans hx586_0)
                            rw [hv586_0] at ge586_0
                            have HL586_0 := Aside0.mk (show Kd.R Kd.string 9 _ _ _ _ ((rd_T39 t578 x43_3).f0) from ge586_0)
                            clear hv586_0 ge586_0
                            clear hcc586 hce586
                            have HR586_0 := Aside0.mk hi586_0
                            have HC586_0 := Aside0.mk hl586_0
                            clear hi586_0 hl586_0
                            replace p586 := eq_true p586
                            replace q586 := eq_true q586
                            obtain ⟨Ao40, co40, eo40⟩ := Kd.S_slice HO_7.out
                            subst eo40
                            have p587 : 0 ≤ (x43_3 : Int) := of_decide_eq_true (by first | (with_reducible assumption) | assumption)
                            have q587 : x43_3 < (t582.length : Int) := of_decide_eq_true (by first | (with_reducible assumption) | assumption)
                            obtain ⟨ad587, A587_0, c587_0, e587, hx587_0, hx587_1, hl587_0, hi587_0⟩ := at_T39 (Kd.S_reads' HO_7.out).2.2 x43_3 p587 q587
                            cases e587
                            obtain ⟨ce587, hce587, hMe587, hcc587⟩ := Kd.S_get HO_7.out z39 x43_3 p587 (by first | exact q587 | exact of_decide_eq_true (by first | (with_reducible assumption) | assumption) | (have e_ := (Kd.S_reads' HO_7.out).1; omega))
                            obtain ⟨ve587_0, rfl, ge587_0⟩ := k39_openM hMe587
                            have hv587_0 := hcc587 0 _ rfl
                            rw [Nat.add_zero] at hv587_0
                            replace hv587_0 := Option.some.inj (hv587_0.symm.trans hx587_0)
                            rw [hv587_0] at ge587_0
                            have HL587_0 := Aside0.mk (show Kd.R Kd.string 9 _ _ _ _ ((rd_T39 t582 x43_3).f0) from ge587_0)
                            clear hv587_0 ge587_0
                            clear hcc587 hce587
                            have HR587_0 := Aside0.mk hi587_0
                            have HC587_0 := Aside0.mk hl587_0
                            clear hi587_0 hl587_0
                            replace p587 := eq_true p587
                            replace q587 := eq_true q587
                            go_wp2
                            repeat (go_quiet (fail); try go_wp2)
                            go_ret
                            exact ⟨by first | rfl | (simp [errW_none, errW_some] <;> rfl) | (simp [*, errW_none, errW_some] <;> rfl), by repeat (first | (with_reducible first | exact HB.out | apply below_alloc | apply pw_below_drewN | apply below_drew1 | refine below_set ?_ GE573.out | refine below_set ?_ GE574.out) | exact HB.out)⟩
                          · rw [if_neg c39] at H
                            have c39b0 : (((rd_T39 t578 x43_3).f1) != ((rd_T39 t582 x43_3).f1)) = false := by simpa using c39
                            (try (have c39b1 : decide (((rd_T39 t578 x43_3).f1) = ((rd_T39 t582 x43_3).f1)) = true := by simpa using c39))
                            (try (have c39b2 : (((rd_T39 t578 x43_3).f1) == ((rd_T39 t582 x43_3).f1)) = true := by simpa using c39))
                            clear c39
                            replace H := Option.bind_eq_some_iff.mp H
                            obtain ⟨t590, A410, H⟩ := H
                            replace H : (if t590 = true then (stockyardlaw03_PatternBinds.l0 k3 t578 t582 (t578.length : Int) (wrap64 (x43_3 + 1))) else (some false)) = some r := H
                            have A41 := Aside0.mk A410
                            clear A410
                            by_cases c42 : t590 = true
                            · subst c42
                              have H1 : (stockyardlaw03_PatternBinds.l0 k3 t578 t582 (t578.length : Int) (wrap64 (x43_3 + 1))) = some r := by rw [if_pos rfl] at H; exact H
                              clear H
                              have H := H1
                              clear H1
                              have H' := Aside0.mk H
                              clear H
                              have p586 : 0 ≤ (x43_3 : Int) := of_decide_eq_true (by first | (with_reducible assumption) | assumption)
                              have q586 : x43_3 < (t578.length : Int) := of_decide_eq_true (by first | (with_reducible assumption) | assumption)
                              obtain ⟨ad586, A586_0, c586_0, e586, hx586_0, hx586_1, hl586_0, hi586_0⟩ := at_T39 (Kd.S_reads' HO_5.out).2.2 x43_3 p586 q586
                              cases e586
                              obtain ⟨ce586, hce586, hMe586, hcc586⟩ := Kd.S_get HO_5.out z39 x43_3 p586 (by first | exact q586 | exact of_decide_eq_true (by first | (with_reducible assumption) | assumption) | (have e_ := (Kd.S_reads' HO_5.out).1; omega))
                              obtain ⟨ve586_0, rfl, ge586_0⟩ := k39_openM hMe586
                              have hv586_0 := hcc586 0 _ rfl
                              rw [Nat.add_zero] at hv586_0
                              replace hv586_0 := Option.some.inj (hv586_0.symm.trans hx586_0)
                              rw [hv586_0] at ge586_0
                              have HL586_0 := Aside0.mk (show Kd.R Kd.string 9 _ _ _ _ ((rd_T39 t578 x43_3).f0) from ge586_0)
                              clear hv586_0 ge586_0
                              clear hcc586 hce586
                              have HR586_0 := Aside0.mk hi586_0
                              have HC586_0 := Aside0.mk hl586_0
                              clear hi586_0 hl586_0
                              replace p586 := eq_true p586
                              replace q586 := eq_true q586
                              obtain ⟨Ao43, co43, eo43⟩ := Kd.S_slice HO_7.out
                              subst eo43
                              have p587 : 0 ≤ (x43_3 : Int) := of_decide_eq_true (by first | (with_reducible assumption) | assumption)
                              have q587 : x43_3 < (t582.length : Int) := of_decide_eq_true (by first | (with_reducible assumption) | assumption)
                              obtain ⟨ad587, A587_0, c587_0, e587, hx587_0, hx587_1, hl587_0, hi587_0⟩ := at_T39 (Kd.S_reads' HO_7.out).2.2 x43_3 p587 q587
                              cases e587
                              obtain ⟨ce587, hce587, hMe587, hcc587⟩ := Kd.S_get HO_7.out z39 x43_3 p587 (by first | exact q587 | exact of_decide_eq_true (by first | (with_reducible assumption) | assumption) | (have e_ := (Kd.S_reads' HO_7.out).1; omega))
                              obtain ⟨ve587_0, rfl, ge587_0⟩ := k39_openM hMe587
                              have hv587_0 := hcc587 0 _ rfl
                              rw [Nat.add_zero] at hv587_0
                              replace hv587_0 := Option.some.inj (hv587_0.symm.trans hx587_0)
                              rw [hv587_0] at ge587_0
                              have HL587_0 := Aside0.mk (show Kd.R Kd.string 9 _ _ _ _ ((rd_T39 t582 x43_3).f0) from ge587_0)
                              clear hv587_0 ge587_0
                              clear hcc587 hce587
                              have HR587_0 := Aside0.mk hi587_0
                              have HC587_0 := Aside0.mk hl587_0
                              clear hi587_0 hl587_0
                              replace p587 := eq_true p587
                              replace q587 := eq_true q587
                              have p588 : 0 ≤ (x43_3 : Int) := of_decide_eq_true (by first | (with_reducible assumption) | assumption)
                              have q588 : x43_3 < (t578.length : Int) := of_decide_eq_true (by first | (with_reducible assumption) | assumption)
                              obtain ⟨ad588, A588_0, c588_0, e588, hx588_0, hx588_1, hl588_0, hi588_0⟩ := at_T39 (Kd.S_reads' HO_5.out).2.2 x43_3 p588 q588
                              obtain rfl : ad586 = ad588 := (by injection e588)
                              obtain ⟨ce588, hce588, hMe588, hcc588⟩ := Kd.S_get HO_5.out z39 x43_3 p588 (by first | exact q588 | exact of_decide_eq_true (by first | (with_reducible assumption) | assumption) | (have e_ := (Kd.S_reads' HO_5.out).1; omega))
                              obtain ⟨ve588_0, rfl, ge588_0⟩ := k39_openM hMe588
                              have hv588_0 := hcc588 0 _ rfl
                              rw [Nat.add_zero] at hv588_0
                              replace hv588_0 := Option.some.inj (hv588_0.symm.trans hx588_0)
                              rw [hv588_0] at ge588_0
                              have HL588_0 := Aside0.mk (show Kd.R Kd.string 9 _ _ _ _ ((rd_T39 t578 x43_3).f0) from ge588_0)
                              clear hv588_0 ge588_0
                              clear hcc588 hce588
                              have HR588_0 := Aside0.mk hi588_0
                              have HC588_0 := Aside0.mk hl588_0
                              clear hi588_0 hl588_0
                              replace p588 := eq_true p588
                              replace q588 := eq_true q588
                              have ea_ := Option.some.inj (hx586_0.symm.trans hx588_0)
                              injection ea_ with ea_ en_ ec_
                              subst ea_
                              subst ec_
                              clear en_
                              have p589 : 0 ≤ (x43_3 : Int) := of_decide_eq_true (by first | (with_reducible assumption) | assumption)
                              have q589 : x43_3 < (t582.length : Int) := of_decide_eq_true (by first | (with_reducible assumption) | assumption)
                              obtain ⟨ad589, A589_0, c589_0, e589, hx589_0, hx589_1, hl589_0, hi589_0⟩ := at_T39 (Kd.S_reads' HO_7.out).2.2 x43_3 p589 q589
                              obtain rfl : ad587 = ad589 := (by injection e589)
                              obtain ⟨ce589, hce589, hMe589, hcc589⟩ := Kd.S_get HO_7.out z39 x43_3 p589 (by first | exact q589 | exact of_decide_eq_true (by first | (with_reducible assumption) | assumption) | (have e_ := (Kd.S_reads' HO_7.out).1; omega))
                              obtain ⟨ve589_0, rfl, ge589_0⟩ := k39_openM hMe589
                              have hv589_0 := hcc589 0 _ rfl
                              rw [Nat.add_zero] at hv589_0
                              replace hv589_0 := Option.some.inj (hv589_0.symm.trans hx589_0)
                              rw [hv589_0] at ge589_0
                              have HL589_0 := Aside0.mk (show Kd.R Kd.string 9 _ _ _ _ ((rd_T39 t582 x43_3).f0) from ge589_0)
                              clear hv589_0 ge589_0
                              clear hcc589 hce589
                              have HR589_0 := Aside0.mk hi589_0
                              have HC589_0 := Aside0.mk hl589_0
                              clear hi589_0 hl589_0
                              replace p589 := eq_true p589
                              replace q589 := eq_true q589
                              have ea_ := Option.some.inj (hx587_0.symm.trans hx589_0)
                              injection ea_ with ea_ en_ ec_
                              subst ea_
                              subst ec_
                              clear en_
                              go_wp2_with (first | (go_at_call 20; (with_reducible refine (stockyardlaw03_equal.calls k3 _ _ ((rd_T39 t578 x43_3).f0) _ _ ((rd_T39 t582 x43_3).f0) true _ ?side1 ?side2 ?side3 ?side4 A41.out).mono ?_); (case side1 => repeat (first | exact (by repeat (first | (with_reducible exact HR588_0.out) | (with_reducible refine Kd.C_alloc ?_ _) | (with_reducible refine Kd.C_drewN ?_ _) | (with_reducible refine Kd.C_drew ?_) | exact HR588_0.out)) | (with_reducible refine Kd.C_alloc ?_ _) | (with_reducible refine Kd.C_drewN ?_ _) | (with_reducible refine Kd.C_drew ?_))); (case side2 => exact HC588_0.out); (case side3 => repeat (first | exact (by repeat (first | (with_reducible exact HR589_0.out) | (with_reducible refine Kd.C_alloc ?_ _) | (with_reducible refine Kd.C_drewN ?_ _) | (with_reducible refine Kd.C_drew ?_) | exact HR589_0.out)) | (with_reducible refine Kd.C_alloc ?_ _) | (with_reducible refine Kd.C_drewN ?_ _) | (with_reducible refine Kd.C_drew ?_))); (case side4 => exact HC589_0.out); rintro e w' ⟨rfl, ⟨nd, rfl⟩⟩; (try first | exact ⟨rfl, _, World.drewN_drewN _ _ _⟩ | exact ⟨rfl, _, Eq.trans (World.drewN_drewN _ _ _) (congrArg (World.drewN _) (Nat.add_assoc _ _ _))⟩)))
                              repeat (go_quiet (first | (go_at_call 20; (with_reducible refine (stockyardlaw03_equal.calls k3 _ _ ((rd_T39 t578 x43_3).f0) _ _ ((rd_T39 t582 x43_3).f0) true _ ?side1 ?side2 ?side3 ?side4 A41.out).mono ?_); (case side1 => repeat (first | exact (by repeat (first | (with_reducible exact HR588_0.out) | (with_reducible refine Kd.C_alloc ?_ _) | (with_reducible refine Kd.C_drewN ?_ _) | (with_reducible refine Kd.C_drew ?_) | exact HR588_0.out)) | (with_reducible refine Kd.C_alloc ?_ _) | (with_reducible refine Kd.C_drewN ?_ _) | (with_reducible refine Kd.C_drew ?_))); (case side2 => exact HC588_0.out); (case side3 => repeat (first | exact (by repeat (first | (with_reducible exact HR589_0.out) | (with_reducible refine Kd.C_alloc ?_ _) | (with_reducible refine Kd.C_drewN ?_ _) | (with_reducible refine Kd.C_drew ?_) | exact HR589_0.out)) | (with_reducible refine Kd.C_alloc ?_ _) | (with_reducible refine Kd.C_drewN ?_ _) | (with_reducible refine Kd.C_drew ?_))); (case side4 => exact HC589_0.out); rintro e w' ⟨rfl, ⟨nd, rfl⟩⟩; (try first | exact ⟨rfl, _, World.drewN_drewN _ _ _⟩ | exact ⟨rfl, _, Eq.trans (World.drewN_drewN _ _ _) (congrArg (World.drewN _) (Nat.add_assoc _ _ _))⟩))); try go_wp2_with (first | (go_at_call 20; (with_reducible refine (stockyardlaw03_equal.calls k3 _ _ ((rd_T39 t578 x43_3).f0) _ _ ((rd_T39 t582 x43_3).f0) true _ ?side1 ?side2 ?side3 ?side4 A41.out).mono ?_); (case side1 => repeat (first | exact (by repeat (first | (with_reducible exact HR588_0.out) | (with_reducible refine Kd.C_alloc ?_ _) | (with_reducible refine Kd.C_drewN ?_ _) | (with_reducible refine Kd.C_drew ?_) | exact HR588_0.out)) | (with_reducible refine Kd.C_alloc ?_ _) | (with_reducible refine Kd.C_drewN ?_ _) | (with_reducible refine Kd.C_drew ?_))); (case side2 => exact HC588_0.out); (case side3 => repeat (first | exact (by repeat (first | (with_reducible exact HR589_0.out) | (with_reducible refine Kd.C_alloc ?_ _) | (with_reducible refine Kd.C_drewN ?_ _) | (with_reducible refine Kd.C_drew ?_) | exact HR589_0.out)) | (with_reducible refine Kd.C_alloc ?_ _) | (with_reducible refine Kd.C_drewN ?_ _) | (with_reducible refine Kd.C_drew ?_))); (case side4 => exact HC589_0.out); rintro e w' ⟨rfl, ⟨nd, rfl⟩⟩; (try first | exact ⟨rfl, _, World.drewN_drewN _ _ _⟩ | exact ⟨rfl, _, Eq.trans (World.drewN_drewN _ _ _) (congrArg (World.drewN _) (Nat.add_assoc _ _ _))⟩))))
                              go_roundg k3
                              case measure => have := HJ2.out; have := HJ21.out; have := HK3.out; omega
                              case rel => exact ⟨(wrap64 (x43_3 + 1)), (by first | rfl | (simp; done) | (simp [*]; done)), H', ⟨by have := HJ2.out; have := HJ21.out; have := HK3.out; omega⟩, ⟨by (with_reducible repeat (first | apply Kd.S_alloc | apply Kd.S_drewN | apply Kd.S_drew)); exact HO_5.out⟩, ⟨by (with_reducible repeat (first | apply Kd.S_alloc | apply Kd.S_drewN | apply Kd.S_drew)); exact HO_7.out⟩, ⟨by (with_reducible repeat (first | refine blk_drewN ?_ _ | refine blk_drew ?_ | refine blk_alloc ?_ _)); exact BK573.out⟩, ⟨by (with_reducible repeat (first | refine blk_drewN ?_ _ | refine blk_drew ?_ | refine blk_alloc ?_ _)); exact BK574.out⟩, ⟨by repeat (first | (with_reducible first | exact HB.out | apply below_alloc | apply pw_below_drewN | apply below_drew1 | refine below_set ?_ GE573.out | refine below_set ?_ GE574.out) | exact HB.out)⟩⟩
                            · replace c42 := Bool.eq_false_iff.mpr c42
                              subst c42
                              have H1 : (some false) = some r := by rw [if_neg (show ¬ (false = true) by decide)] at H; exact H
                              clear H
                              have H := H1
                              clear H1
                              obtain rfl := Option.some.inj H
                              have p586 : 0 ≤ (x43_3 : Int) := of_decide_eq_true (by first | (with_reducible assumption) | assumption)
                              have q586 : x43_3 < (t578.length : Int) := of_decide_eq_true (by first | (with_reducible assumption) | assumption)
                              obtain ⟨ad586, A586_0, c586_0, e586, hx586_0, hx586_1, hl586_0, hi586_0⟩ := at_T39 (Kd.S_reads' HO_5.out).2.2 x43_3 p586 q586
                              cases e586
                              obtain ⟨ce586, hce586, hMe586, hcc586⟩ := Kd.S_get HO_5.out z39 x43_3 p586 (by first | exact q586 | exact of_decide_eq_true (by first | (with_reducible assumption) | assumption) | (have e_ := (Kd.S_reads' HO_5.out).1; omega))
                              obtain ⟨ve586_0, rfl, ge586_0⟩ := k39_openM hMe586
                              have hv586_0 := hcc586 0 _ rfl
                              rw [Nat.add_zero] at hv586_0
                              replace hv586_0 := Option.some.inj (hv586_0.symm.trans hx586_0)
                              rw [hv586_0] at ge586_0
                              have HL586_0 := Aside0.mk (show Kd.R Kd.string 9 _ _ _ _ ((rd_T39 t578 x43_3).f0) from ge586_0)
                              clear hv586_0 ge586_0
                              clear hcc586 hce586
                              have HR586_0 := Aside0.mk hi586_0
                              have HC586_0 := Aside0.mk hl586_0
                              clear hi586_0 hl586_0
                              replace p586 := eq_true p586
                              replace q586 := eq_true q586
                              obtain ⟨Ao44, co44, eo44⟩ := Kd.S_slice HO_7.out
                              subst eo44
                              have p587 : 0 ≤ (x43_3 : Int) := of_decide_eq_true (by first | (with_reducible assumption) | assumption)
                              have q587 : x43_3 < (t582.length : Int) := of_decide_eq_true (by first | (with_reducible assumption) | assumption)
                              obtain ⟨ad587, A587_0, c587_0, e587, hx587_0, hx587_1, hl587_0, hi587_0⟩ := at_T39 (Kd.S_reads' HO_7.out).2.2 x43_3 p587 q587
                              cases e587
                              obtain ⟨ce587, hce587, hMe587, hcc587⟩ := Kd.S_get HO_7.out z39 x43_3 p587 (by first | exact q587 | exact of_decide_eq_true (by first | (with_reducible assumption) | assumption) | (have e_ := (Kd.S_reads' HO_7.out).1; omega))
                              obtain ⟨ve587_0, rfl, ge587_0⟩ := k39_openM hMe587
                              have hv587_0 := hcc587 0 _ rfl
                              rw [Nat.add_zero] at hv587_0
                              replace hv587_0 := Option.some.inj (hv587_0.symm.trans hx587_0)
                              rw [hv587_0] at ge587_0
                              have HL587_0 := Aside0.mk (show Kd.R Kd.string 9 _ _ _ _ ((rd_T39 t582 x43_3).f0) from ge587_0)
                              clear hv587_0 ge587_0
                              clear hcc587 hce587
                              have HR587_0 := Aside0.mk hi587_0
                              have HC587_0 := Aside0.mk hl587_0
                              clear hi587_0 hl587_0
                              replace p587 := eq_true p587
                              replace q587 := eq_true q587
                              have p588 : 0 ≤ (x43_3 : Int) := of_decide_eq_true (by first | (with_reducible assumption) | assumption)
                              have q588 : x43_3 < (t578.length : Int) := of_decide_eq_true (by first | (with_reducible assumption) | assumption)
                              obtain ⟨ad588, A588_0, c588_0, e588, hx588_0, hx588_1, hl588_0, hi588_0⟩ := at_T39 (Kd.S_reads' HO_5.out).2.2 x43_3 p588 q588
                              obtain rfl : ad586 = ad588 := (by injection e588)
                              obtain ⟨ce588, hce588, hMe588, hcc588⟩ := Kd.S_get HO_5.out z39 x43_3 p588 (by first | exact q588 | exact of_decide_eq_true (by first | (with_reducible assumption) | assumption) | (have e_ := (Kd.S_reads' HO_5.out).1; omega))
                              obtain ⟨ve588_0, rfl, ge588_0⟩ := k39_openM hMe588
                              have hv588_0 := hcc588 0 _ rfl
                              rw [Nat.add_zero] at hv588_0
                              replace hv588_0 := Option.some.inj (hv588_0.symm.trans hx588_0)
                              rw [hv588_0] at ge588_0
                              have HL588_0 := Aside0.mk (show Kd.R Kd.string 9 _ _ _ _ ((rd_T39 t578 x43_3).f0) from ge588_0)
                              clear hv588_0 ge588_0
                              clear hcc588 hce588
                              have HR588_0 := Aside0.mk hi588_0
                              have HC588_0 := Aside0.mk hl588_0
                              clear hi588_0 hl588_0
                              replace p588 := eq_true p588
                              replace q588 := eq_true q588
                              have ea_ := Option.some.inj (hx586_0.symm.trans hx588_0)
                              injection ea_ with ea_ en_ ec_
                              subst ea_
                              subst ec_
                              clear en_
                              have p589 : 0 ≤ (x43_3 : Int) := of_decide_eq_true (by first | (with_reducible assumption) | assumption)
                              have q589 : x43_3 < (t582.length : Int) := of_decide_eq_true (by first | (with_reducible assumption) | assumption)
                              obtain ⟨ad589, A589_0, c589_0, e589, hx589_0, hx589_1, hl589_0, hi589_0⟩ := at_T39 (Kd.S_reads' HO_7.out).2.2 x43_3 p589 q589
                              obtain rfl : ad587 = ad589 := (by injection e589)
                              obtain ⟨ce589, hce589, hMe589, hcc589⟩ := Kd.S_get HO_7.out z39 x43_3 p589 (by first | exact q589 | exact of_decide_eq_true (by first | (with_reducible assumption) | assumption) | (have e_ := (Kd.S_reads' HO_7.out).1; omega))
                              obtain ⟨ve589_0, rfl, ge589_0⟩ := k39_openM hMe589
                              have hv589_0 := hcc589 0 _ rfl
                              rw [Nat.add_zero] at hv589_0
                              replace hv589_0 := Option.some.inj (hv589_0.symm.trans hx589_0)
                              rw [hv589_0] at ge589_0
                              have HL589_0 := Aside0.mk (show Kd.R Kd.string 9 _ _ _ _ ((rd_T39 t582 x43_3).f0) from ge589_0)
                              clear hv589_0 ge589_0
                              clear hcc589 hce589
                              have HR589_0 := Aside0.mk hi589_0
                              have HC589_0 := Aside0.mk hl589_0
                              clear hi589_0 hl589_0
                              replace p589 := eq_true p589
                              replace q589 := eq_true q589
                              have ea_ := Option.some.inj (hx587_0.symm.trans hx589_0)
                              injection ea_ with ea_ en_ ec_
                              subst ea_
                              subst ec_
                              clear en_
                              go_wp2_with (first | (go_at_call 20; (with_reducible refine (stockyardlaw03_equal.calls k3 _ _ ((rd_T39 t578 x43_3).f0) _ _ ((rd_T39 t582 x43_3).f0) false _ ?side1 ?side2 ?side3 ?side4 A41.out).mono ?_); (case side1 => repeat (first | exact (by repeat (first | (with_reducible exact HR588_0.out) | (with_reducible refine Kd.C_alloc ?_ _) | (with_reducible refine Kd.C_drewN ?_ _) | (with_reducible refine Kd.C_drew ?_) | exact HR588_0.out)) | (with_reducible refine Kd.C_alloc ?_ _) | (with_reducible refine Kd.C_drewN ?_ _) | (with_reducible refine Kd.C_drew ?_))); (case side2 => exact HC588_0.out); (case side3 => repeat (first | exact (by repeat (first | (with_reducible exact HR589_0.out) | (with_reducible refine Kd.C_alloc ?_ _) | (with_reducible refine Kd.C_drewN ?_ _) | (with_reducible refine Kd.C_drew ?_) | exact HR589_0.out)) | (with_reducible refine Kd.C_alloc ?_ _) | (with_reducible refine Kd.C_drewN ?_ _) | (with_reducible refine Kd.C_drew ?_))); (case side4 => exact HC589_0.out); rintro e w' ⟨rfl, ⟨nd, rfl⟩⟩; (try first | exact ⟨rfl, _, World.drewN_drewN _ _ _⟩ | exact ⟨rfl, _, Eq.trans (World.drewN_drewN _ _ _) (congrArg (World.drewN _) (Nat.add_assoc _ _ _))⟩)))
                              repeat (go_quiet (first | (go_at_call 20; (with_reducible refine (stockyardlaw03_equal.calls k3 _ _ ((rd_T39 t578 x43_3).f0) _ _ ((rd_T39 t582 x43_3).f0) false _ ?side1 ?side2 ?side3 ?side4 A41.out).mono ?_); (case side1 => repeat (first | exact (by repeat (first | (with_reducible exact HR588_0.out) | (with_reducible refine Kd.C_alloc ?_ _) | (with_reducible refine Kd.C_drewN ?_ _) | (with_reducible refine Kd.C_drew ?_) | exact HR588_0.out)) | (with_reducible refine Kd.C_alloc ?_ _) | (with_reducible refine Kd.C_drewN ?_ _) | (with_reducible refine Kd.C_drew ?_))); (case side2 => exact HC588_0.out); (case side3 => repeat (first | exact (by repeat (first | (with_reducible exact HR589_0.out) | (with_reducible refine Kd.C_alloc ?_ _) | (with_reducible refine Kd.C_drewN ?_ _) | (with_reducible refine Kd.C_drew ?_) | exact HR589_0.out)) | (with_reducible refine Kd.C_alloc ?_ _) | (with_reducible refine Kd.C_drewN ?_ _) | (with_reducible refine Kd.C_drew ?_))); (case side4 => exact HC589_0.out); rintro e w' ⟨rfl, ⟨nd, rfl⟩⟩; (try first | exact ⟨rfl, _, World.drewN_drewN _ _ _⟩ | exact ⟨rfl, _, Eq.trans (World.drewN_drewN _ _ _) (congrArg (World.drewN _) (Nat.add_assoc _ _ _))⟩))); try go_wp2_with (first | (go_at_call 20; (with_reducible refine (stockyardlaw03_equal.calls k3 _ _ ((rd_T39 t578 x43_3).f0) _ _ ((rd_T39 t582 x43_3).f0) false _ ?side1 ?side2 ?side3 ?side4 A41.out).mono ?_); (case side1 => repeat (first | exact (by repeat (first | (with_reducible exact HR588_0.out) | (with_reducible refine Kd.C_alloc ?_ _) | (with_reducible refine Kd.C_drewN ?_ _) | (with_reducible refine Kd.C_drew ?_) | exact HR588_0.out)) | (with_reducible refine Kd.C_alloc ?_ _) | (with_reducible refine Kd.C_drewN ?_ _) | (with_reducible refine Kd.C_drew ?_))); (case side2 => exact HC588_0.out); (case side3 => repeat (first | exact (by repeat (first | (with_reducible exact HR589_0.out) | (with_reducible refine Kd.C_alloc ?_ _) | (with_reducible refine Kd.C_drewN ?_ _) | (with_reducible refine Kd.C_drew ?_) | exact HR589_0.out)) | (with_reducible refine Kd.C_alloc ?_ _) | (with_reducible refine Kd.C_drewN ?_ _) | (with_reducible refine Kd.C_drew ?_))); (case side4 => exact HC589_0.out); rintro e w' ⟨rfl, ⟨nd, rfl⟩⟩; (try first | exact ⟨rfl, _, World.drewN_drewN _ _ _⟩ | exact ⟨rfl, _, Eq.trans (World.drewN_drewN _ _ _) (congrArg (World.drewN _) (Nat.add_assoc _ _ _))⟩))))
                              go_ret
                              exact ⟨by first | rfl | (simp [errW_none, errW_some] <;> rfl) | (simp [*, errW_none, errW_some] <;> rfl), by repeat (first | (with_reducible first | exact HB.out | apply below_alloc | apply pw_below_drewN | apply below_drew1 | refine below_set ?_ GE573.out | refine below_set ?_ GE574.out) | exact HB.out)⟩
                        · rw [if_neg c38] at H
                          exact absurd H (by simp)
                      · rw [if_neg c37] at H
                        exact absurd H (by simp)
                    · rw [if_neg c36] at H
                      exact absurd H (by simp)
                  · rw [if_neg c35] at H
                    have c35b0 : decide (x43_3 < (t578.length : Int)) = false := decide_eq_false c35
                    clear c35
                    replace H := Option.bind_eq_some_iff.mp H
                    obtain ⟨t591, A450, H⟩ := H
                    replace H : (some t591) = some r := H
                    have A45 := Aside0.mk A450
                    clear A450
                    obtain rfl := Option.some.inj H
                    go_wp2_with (first | (go_at_call 12; (with_reducible refine (stockyardlaw03_awake.calls k3  t591 _ A45.out).mono ?_); rintro e w46 ⟨rfl, hb⟩; have n0_ := Aside0.mk (Kd.S_below (by (with_reducible repeat (first | apply Kd.S_alloc | apply Kd.S_drewN | apply Kd.S_drew)); exact HO_5.out) hb); have n1_ := Aside0.mk (Kd.S_below (by (with_reducible repeat (first | apply Kd.S_alloc | apply Kd.S_drewN | apply Kd.S_drew)); exact HO_7.out) hb); have n2_ := Aside0.mk (blk_below (g := gb573) (o := .cells #[.slice A0_0 l0_0.length c0_0, .bool a0_1] 24 (0, 0)) (by (with_reducible repeat (first | refine blk_drewN ?_ _ | refine blk_drew ?_ | refine blk_alloc ?_ _)); exact BK573.out) hb); have n3_ := Aside0.mk (blk_below (g := gb574) (o := .cells #[.slice A1_0 l1_0.length c1_0, .bool a1_1] 24 (0, 0)) (by (with_reducible repeat (first | refine blk_drewN ?_ _ | refine blk_drew ?_ | refine blk_alloc ?_ _)); exact BK574.out) hb); have n4_ := Aside0.mk (below_step (by repeat (first | (with_reducible first | exact HB.out | apply below_alloc | apply pw_below_drewN | apply below_drew1 | refine below_set ?_ GE573.out | refine below_set ?_ GE574.out) | exact HB.out)) hb); clear HO_5; clear HO_7; clear BK573; clear BK574; clear HB; have HO_5 := n0_; have HO_7 := n1_; have BK573 := n2_; have BK574 := n3_; have HB := n4_; clear n0_ n1_ n2_ n3_ n4_; (try clear hb); (try clear hb2); (try clear hk); (try clear hi)))
                    repeat (go_quiet (first | (go_at_call 12; (with_reducible refine (stockyardlaw03_awake.calls k3  t591 _ A45.out).mono ?_); rintro e w46 ⟨rfl, hb⟩; have n0_ := Aside0.mk (Kd.S_below (by (with_reducible repeat (first | apply Kd.S_alloc | apply Kd.S_drewN | apply Kd.S_drew)); exact HO_5.out) hb); have n1_ := Aside0.mk (Kd.S_below (by (with_reducible repeat (first | apply Kd.S_alloc | apply Kd.S_drewN | apply Kd.S_drew)); exact HO_7.out) hb); have n2_ := Aside0.mk (blk_below (g := gb573) (o := .cells #[.slice A0_0 l0_0.length c0_0, .bool a0_1] 24 (0, 0)) (by (with_reducible repeat (first | refine blk_drewN ?_ _ | refine blk_drew ?_ | refine blk_alloc ?_ _)); exact BK573.out) hb); have n3_ := Aside0.mk (blk_below (g := gb574) (o := .cells #[.slice A1_0 l1_0.length c1_0, .bool a1_1] 24 (0, 0)) (by (with_reducible repeat (first | refine blk_drewN ?_ _ | refine blk_drew ?_ | refine blk_alloc ?_ _)); exact BK574.out) hb); have n4_ := Aside0.mk (below_step (by repeat (first | (with_reducible first | exact HB.out | apply below_alloc | apply pw_below_drewN | apply below_drew1 | refine below_set ?_ GE573.out | refine below_set ?_ GE574.out) | exact HB.out)) hb); clear HO_5; clear HO_7; clear BK573; clear BK574; clear HB; have HO_5 := n0_; have HO_7 := n1_; have BK573 := n2_; have BK574 := n3_; have HB := n4_; clear n0_ n1_ n2_ n3_ n4_; (try clear hb); (try clear hb2); (try clear hk); (try clear hi))); try go_wp2_with (first | (go_at_call 12; (with_reducible refine (stockyardlaw03_awake.calls k3  t591 _ A45.out).mono ?_); rintro e w46 ⟨rfl, hb⟩; have n0_ := Aside0.mk (Kd.S_below (by (with_reducible repeat (first | apply Kd.S_alloc | apply Kd.S_drewN | apply Kd.S_drew)); exact HO_5.out) hb); have n1_ := Aside0.mk (Kd.S_below (by (with_reducible repeat (first | apply Kd.S_alloc | apply Kd.S_drewN | apply Kd.S_drew)); exact HO_7.out) hb); have n2_ := Aside0.mk (blk_below (g := gb573) (o := .cells #[.slice A0_0 l0_0.length c0_0, .bool a0_1] 24 (0, 0)) (by (with_reducible repeat (first | refine blk_drewN ?_ _ | refine blk_drew ?_ | refine blk_alloc ?_ _)); exact BK573.out) hb); have n3_ := Aside0.mk (blk_below (g := gb574) (o := .cells #[.slice A1_0 l1_0.length c1_0, .bool a1_1] 24 (0, 0)) (by (with_reducible repeat (first | refine blk_drewN ?_ _ | refine blk_drew ?_ | refine blk_alloc ?_ _)); exact BK574.out) hb); have n4_ := Aside0.mk (below_step (by repeat (first | (with_reducible first | exact HB.out | apply below_alloc | apply pw_below_drewN | apply below_drew1 | refine below_set ?_ GE573.out | refine below_set ?_ GE574.out) | exact HB.out)) hb); clear HO_5; clear HO_7; clear BK573; clear BK574; clear HB; have HO_5 := n0_; have HO_7 := n1_; have BK573 := n2_; have BK574 := n3_; have HB := n4_; clear n0_ n1_ n2_ n3_ n4_; (try clear hb); (try clear hb2); (try clear hk); (try clear hi))))
                    go_ret
                    exact ⟨by first | rfl | (simp [errW_none, errW_some] <;> rfl) | (simp [*, errW_none, errW_some] <;> rfl), by repeat (first | (with_reducible first | exact HB.out | apply below_alloc | apply pw_below_drewN | apply below_drew1 | refine below_set ?_ GE573.out | refine below_set ?_ GE574.out) | exact HB.out)⟩

end Go.Proofs.YtcpnmcbgcgkieaaDoor.P

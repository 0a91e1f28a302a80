-- Written by a program of this session (wip/gen.py) over the kit's print: each Go function as a plain Lean function, and the proof that the Go code comes to it. Nothing here is trusted: Lean checks it.
import Derived.Test.YtcpnmcbgcgkieaaDoorPx0
import Derived.Test.YtcpnmcbgcgkieaaDoorPx1
import Derived.Test.YtcpnmcbgcgkieaaDoorPx3
import Derived.Test.YtcpnmcbgcgkieaaDoorPx6
import Derived.Test.YtcpnmcbgcgkieaaDoorPx7
namespace Go.Proofs.YtcpnmcbgcgkieaaDoor.P
open Go.RowKit Go.Proofs.YtcpnmcbgcgkieaaDoorW.PrintWords Go.Proofs.YtcpnmcbgcgkieaaDoorW.PrintLast Go.Proofs.YtcpnmcbgcgkieaaDoorW.PrintMore
attribute [local go_sem] str_gtr str_leq str_geq max2_int min2_int max_two min_two max_three min_three max_four min_four   -- for this text's walks alone
set_option linter.unusedVariables false
set_option linter.unusedSimpArgs false

/-! ### stockyardlaw03_PatternMeans: function 4 -/
mutual
def stockyardlaw03_PatternMeans.j0 : Nat → ByteArray → Bool → List ByteArray → Bool → List ByteArray → Bool → Option (Bool)
  | 0, _, _, _, _, _, _ => none
  | k + 1, x2, x26, x337000, x337001, x338000, x338001 => if x26 = true then ((stockyardlaw03_awake.f k).bind fun t340 => (some t340)) else ((pattern_Match.f k x337000 x337001 x2).bind fun bt341 => ((pattern_Match.f k x338000 x338001 x2).bind fun bt345 => ((pattern_Meet.f k x337000 x337001 x338000 x338001).bind fun bt349 => (if bt349.2.2 = true then ((pattern_Match.f k bt349.1 bt349.2.1 x2).bind fun bt355 => (stockyardlaw03_PatternMeans.j1 k bt341.2 bt345.2 bt355.2 x337000 x337001 x338000 x338001)) else (stockyardlaw03_PatternMeans.j1 k bt341.2 bt345.2 false x337000 x337001 x338000 x338001)))))
def stockyardlaw03_PatternMeans.j1 : Nat → Bool → Bool → Bool → List ByteArray → Bool → List ByteArray → Bool → Option (Bool)
  | 0, _, _, _, _, _, _, _ => none
  | k + 1, x8, x10, x13, x337000, x337001, x338000, x338001 => if x8 = true then (if (x10 != x13) = true then (some false) else ((pattern_Within.f k x337000 x337001 x338000 x338001).bind fun t359 => (if t359 = true then (if x10 = true then ((stockyardlaw03_awake.f k).bind fun t360 => (some t360)) else (some false)) else ((stockyardlaw03_awake.f k).bind fun t361 => (some t361))))) else (if (false != x13) = true then (some false) else ((pattern_Within.f k x337000 x337001 x338000 x338001).bind fun t362 => (if t362 = true then ((stockyardlaw03_awake.f k).bind fun t363 => (some t363)) else ((stockyardlaw03_awake.f k).bind fun t364 => (some t364)))))
end
def stockyardlaw03_PatternMeans.f (k : Nat) (l0_0 : List ByteArray) (a0_1 : Bool) (l1_0 : List ByteArray) (a1_1 : Bool) (a2 : ByteArray) : Option (Bool) := (stockyardlaw03_small.f k l0_0 a0_1).bind fun t338 => (if t338 = true then ((stockyardlaw03_small.f k l1_0 a1_1).bind fun t339 => (if t339 = true then (stockyardlaw03_PatternMeans.j0 k a2 (decide ((a2.size : Int) > 400)) l0_0 a0_1 l1_0 a1_1) else (stockyardlaw03_PatternMeans.j0 k a2 true l0_0 a0_1 l1_0 a1_1))) else (stockyardlaw03_PatternMeans.j0 k a2 true l0_0 a0_1 l1_0 a1_1))
theorem stockyardlaw03_PatternMeans.mono_l : ∀ k, (∀ y0 y1 y2 y3 y4 y5, LeO (stockyardlaw03_PatternMeans.j0 k y0 y1 y2 y3 y4 y5) (stockyardlaw03_PatternMeans.j0 (k + 1) y0 y1 y2 y3 y4 y5)) ∧ (∀ y0 y1 y2 y3 y4 y5 y6, LeO (stockyardlaw03_PatternMeans.j1 k y0 y1 y2 y3 y4 y5 y6) (stockyardlaw03_PatternMeans.j1 (k + 1) y0 y1 y2 y3 y4 y5 y6))
  | 0 => ⟨fun _ _ _ _ _ _ r h => by simp [stockyardlaw03_PatternMeans.j0] at h, fun _ _ _ _ _ _ _ r h => by simp [stockyardlaw03_PatternMeans.j1] at h⟩
  | k + 1 => by
    obtain ⟨ih0, ih1⟩ := stockyardlaw03_PatternMeans.mono_l k
    refine ⟨?_, ?_⟩
    · intro y0 y1 y2 y3 y4 y5
      unfold stockyardlaw03_PatternMeans.j0
      repeat' first
      | (with_reducible exact ih0 _ _ _ _ _ _)
      | (with_reducible exact ih1 _ _ _ _ _ _ _)
      | (with_reducible exact pattern_Match.mono _ _ _ _)
      | (with_reducible exact pattern_Meet.mono _ _ _ _ _)
      | (with_reducible exact pattern_Within.mono _ _ _ _ _)
      | (with_reducible exact stockyardlaw03_awake.mono _)
      | (with_reducible exact stockyardlaw03_small.mono _ _ _)
      | (with_reducible exact LeO.refl _)
      | (with_reducible exact LeO.none _)
      | (with_reducible refine LeO.ite ?_ ?_)
      | (with_reducible refine LeO.bind ?_ (fun _ => ?_))
      | exact ih0 _ _ _ _ _ _
      | exact ih1 _ _ _ _ _ _ _
      | exact pattern_Match.mono _ _ _ _
      | exact pattern_Meet.mono _ _ _ _ _
      | exact pattern_Within.mono _ _ _ _ _
      | exact stockyardlaw03_awake.mono _
      | exact stockyardlaw03_small.mono _ _ _
      | exact LeO.none _
      | refine LeO.ite ?_ ?_
      | refine LeO.bind ?_ (fun _ => ?_)
    · intro y0 y1 y2 y3 y4 y5 y6
      unfold stockyardlaw03_PatternMeans.j1
      repeat' first
      | (with_reducible exact ih0 _ _ _ _ _ _)
      | (with_reducible exact ih1 _ _ _ _ _ _ _)
      | (with_reducible exact pattern_Match.mono _ _ _ _)
      | (with_reducible exact pattern_Meet.mono _ _ _ _ _)
      | (with_reducible exact pattern_Within.mono _ _ _ _ _)
      | (with_reducible exact stockyardlaw03_awake.mono _)
      | (with_reducible exact stockyardlaw03_small.mono _ _ _)
      | (with_reducible exact LeO.refl _)
      | (with_reducible exact LeO.none _)
      | (with_reducible refine LeO.ite ?_ ?_)
      | (with_reducible refine LeO.bind ?_ (fun _ => ?_))
      | exact ih0 _ _ _ _ _ _
      | exact ih1 _ _ _ _ _ _ _
      | exact pattern_Match.mono _ _ _ _
      | exact pattern_Meet.mono _ _ _ _ _
      | exact pattern_Within.mono _ _ _ _ _
      | exact stockyardlaw03_awake.mono _
      | exact stockyardlaw03_small.mono _ _ _
      | exact LeO.none _
      | refine LeO.ite ?_ ?_
      | refine LeO.bind ?_ (fun _ => ?_)
theorem stockyardlaw03_PatternMeans.mono : ∀ a0 a1 a2 a3 a4 k, LeO (stockyardlaw03_PatternMeans.f k a0 a1 a2 a3 a4) (stockyardlaw03_PatternMeans.f (k + 1) a0 a1 a2 a3 a4) := by
  intro a0 a1 a2 a3 a4 k
  obtain ⟨ih0, ih1⟩ := stockyardlaw03_PatternMeans.mono_l k
  unfold stockyardlaw03_PatternMeans.f
  repeat' first
      | (with_reducible exact ih0 _ _ _ _ _ _)
      | (with_reducible exact ih1 _ _ _ _ _ _ _)
      | (with_reducible exact pattern_Match.mono _ _ _ _)
      | (with_reducible exact pattern_Meet.mono _ _ _ _ _)
      | (with_reducible exact pattern_Within.mono _ _ _ _ _)
      | (with_reducible exact stockyardlaw03_awake.mono _)
      | (with_reducible exact stockyardlaw03_small.mono _ _ _)
      | (with_reducible exact LeO.refl _)
      | (with_reducible exact LeO.none _)
      | (with_reducible refine LeO.ite ?_ ?_)
      | (with_reducible refine LeO.bind ?_ (fun _ => ?_))
      | exact ih0 _ _ _ _ _ _
      | exact ih1 _ _ _ _ _ _ _
      | exact pattern_Match.mono _ _ _ _
      | exact pattern_Meet.mono _ _ _ _ _
      | exact pattern_Within.mono _ _ _ _ _
      | exact stockyardlaw03_awake.mono _
      | exact stockyardlaw03_small.mono _ _ _
      | exact LeO.none _
      | refine LeO.ite ?_ ?_
      | refine LeO.bind ?_ (fun _ => ?_)
set_option maxHeartbeats 8000000 in
set_option maxRecDepth 100000 in
theorem stockyardlaw03_PatternMeans.calls (k : Nat) (A0_0 : Option Addr) (c0_0 : Nat) (l0_0 : List ByteArray) (a0_1 : Bool) (A1_0 : Option Addr) (c1_0 : Nat) (l1_0 : List ByteArray) (a1_1 : Bool) (a2 : ByteArray) (r : Bool) (w : World) (hr0_0 : Kd.C Kd.string w A0_0 l0_0.length l0_0) (hc0_0 : l0_0.length ≤ c0_0) (hr1_0 : Kd.C Kd.string w A1_0 l1_0.length l1_0) (hc1_0 : l1_0.length ≤ c1_0) (h : stockyardlaw03_PatternMeans.f k l0_0 a0_1 l1_0 a1_1 a2 = some r) :
    Calls Tryd.prog 4 #[.agg #[.slice A0_0 l0_0.length c0_0, .bool a0_1], .agg #[.slice A1_0 l1_0.length c1_0, .bool a1_1], .string a2] w fun e w' => e = .returned (.bool r) ∧ Below w.heap.size w w' := by
  have hu24 := Tryd.underlying24
  have HR0_0 := Aside0.mk hr0_0
  have HC0_0 := Aside0.mk hc0_0
  clear hr0_0 hc0_0
  have HR1_0 := Aside0.mk hr1_0
  have HC1_0 := Aside0.mk hc1_0
  clear hr1_0 hc1_0
  have HB := Aside0.mk (Below.refl w.heap.size w)
  have H : ((stockyardlaw03_small.f k l0_0 a0_1).bind fun t338 => (if t338 = true then ((stockyardlaw03_small.f k l1_0 a1_1).bind fun t339 => (if t339 = true then (stockyardlaw03_PatternMeans.j0 k a2 (decide ((a2.size : Int) > 400)) l0_0 a0_1 l1_0 a1_1) else (stockyardlaw03_PatternMeans.j0 k a2 true l0_0 a0_1 l1_0 a1_1))) else (stockyardlaw03_PatternMeans.j0 k a2 true l0_0 a0_1 l1_0 a1_1))) = some r := h
  clear h
  have HC4 := Aside0.mk H
  clear H
  go_enter Tryd.func4, Tryd.ntmps4
  go_upto_region 1 with (first | ((with_reducible refine gate_dst (N := 3) rfl ?_); (try (refine gate_guard (by rfl) ?_; dsimp only)); refine box_event ?hg (N := 3) ?hd (cs := #[.slice A0_0 l0_0.length c0_0, .bool a0_1]) (t := 24) ?hr ?_; (case hd => rfl); (case hg => rfl); (case hr => first | (go_simp; done) | (go_simp; rfl)); intro gb336 hg w5 hbox hb; have n0_ := Aside0.mk (below_step (by repeat (first | (with_reducible first | exact HB.out | apply below_alloc | apply pw_below_drewN | apply below_drew1) | exact HB.out)) hb); have n1_ := Aside0.mk (hbox); have n2_ := Aside0.mk ((by rw [hg]; exact (below_size (by repeat (first | (with_reducible first | exact HB.out | apply below_alloc | apply pw_below_drewN | apply below_drew1) | exact HB.out))) : w.heap.size ≤ gb336)); have n3_ := Aside0.mk ((by rw [hg]; exact (below_size (by repeat (first | (with_reducible first | exact HB.out | apply below_alloc | apply pw_below_drewN | apply below_drew1) | exact HB.out))) : w.heap.size ≤ gb336)); clear HB; have HB := n0_; have BK336 := n1_; have GW336 := n2_; have GE336 := n3_; clear n0_ n1_ n2_ n3_; clear hb hbox hg) | ((with_reducible refine gate_dst (N := 4) rfl ?_); (try (refine gate_guard (by rfl) ?_; dsimp only)); refine box_event ?hg (N := 4) ?hd (cs := #[.slice A1_0 l1_0.length c1_0, .bool a1_1]) (t := 24) ?hr ?_; (case hd => rfl); (case hg => rfl); (case hr => first | (go_simp; done) | (go_simp; rfl)); intro gb337 hg w6 hbox hb; have n0_ := Aside0.mk (blk_below (g := gb336) (o := .cells #[.slice A0_0 l0_0.length c0_0, .bool a0_1] 24 (0, 0)) (by (with_reducible repeat (first | refine blk_drewN ?_ _ | refine blk_drew ?_ | refine blk_alloc ?_ _)); exact BK336.out) hb); have n1_ := Aside0.mk (below_step (by repeat (first | (with_reducible first | exact HB.out | apply below_alloc | apply pw_below_drewN | apply below_drew1 | refine below_set ?_ GE336.out) | exact HB.out)) hb); have n2_ := Aside0.mk (hbox); have n3_ := Aside0.mk ((by rw [hg]; exact (below_size (by repeat (first | (with_reducible first | exact HB.out | apply below_alloc | apply pw_below_drewN | apply below_drew1 | refine below_set ?_ GE336.out) | exact HB.out))) : w.heap.size ≤ gb337)); have n4_ := Aside0.mk ((by rw [hg]; exact (below_size (by repeat (first | (with_reducible first | exact HB.out | apply below_alloc | apply pw_below_drewN | apply below_drew1 | refine below_set ?_ GE336.out) | exact HB.out))) : w.heap.size ≤ gb337)); have n5_ := Aside0.mk ((by rw [hg]; exact Nat.ne_of_lt (blk_lt (g := gb336) (o := .cells #[.slice A0_0 l0_0.length c0_0, .bool a0_1] 24 (0, 0)) (by (with_reducible repeat (first | refine blk_drewN ?_ _ | refine blk_drew ?_ | refine blk_alloc ?_ _)); exact BK336.out)) : gb336 ≠ gb337)); have n6_ := Aside0.mk ((by rw [hg]; exact Nat.ne_of_gt (blk_lt (g := gb336) (o := .cells #[.slice A0_0 l0_0.length c0_0, .bool a0_1] 24 (0, 0)) (by (with_reducible repeat (first | refine blk_drewN ?_ _ | refine blk_drew ?_ | refine blk_alloc ?_ _)); exact BK336.out)) : gb337 ≠ gb336)); clear BK336; clear HB; have BK336 := n0_; have HB := n1_; have BK337 := n2_; have GW337 := n3_; have GE337 := n4_; have NB336_337 := n5_; have NB337_336 := n6_; clear n0_ n1_ n2_ n3_ n4_ n5_ n6_; clear hb hbox hg))
  (try simp only [Act.put, List.setIfInBounds_toArray, List.set_cons_zero, List.set_cons_succ])
  go_cut [26] (fun v26 wc => ∃ (kq : Nat) (x26_3 : Bool), v26 = .bool x26_3 ∧ Aside0 (stockyardlaw03_PatternMeans.j0 kq a2 x26_3 l0_0 a0_1 l1_0 a1_1 = some r) ∧ Aside0 (kq ≤ k) ∧ Aside0 (wc.heap[gb336]? = some (.cells #[(.slice A0_0 l0_0.length c0_0), .bool a0_1] 24 (0, 0))) ∧ Aside0 (wc.heap[gb337]? = some (.cells #[(.slice A1_0 l1_0.length c1_0), .bool a1_1] 24 (0, 0))) ∧ Aside0 (Below w.heap.size w wc))
  case first =>
    have H := HC4.out
    clear HC4
    replace H := Option.bind_eq_some_iff.mp H
    obtain ⟨t338, A70, H⟩ := H
    replace H : (if t338 = true then ((stockyardlaw03_small.f k l1_0 a1_1).bind fun t339 => (if t339 = true then (stockyardlaw03_PatternMeans.j0 k a2 (decide ((a2.size : Int) > 400)) l0_0 a0_1 l1_0 a1_1) else (stockyardlaw03_PatternMeans.j0 k a2 true l0_0 a0_1 l1_0 a1_1))) else (stockyardlaw03_PatternMeans.j0 k a2 true l0_0 a0_1 l1_0 a1_1)) = some r := H
    have A7 := Aside0.mk A70
    clear A70
    by_cases c8 : t338 = true
    · subst c8
      have H1 : ((stockyardlaw03_small.f k l1_0 a1_1).bind fun t339 => (if t339 = true then (stockyardlaw03_PatternMeans.j0 k a2 (decide ((a2.size : Int) > 400)) l0_0 a0_1 l1_0 a1_1) else (stockyardlaw03_PatternMeans.j0 k a2 true l0_0 a0_1 l1_0 a1_1))) = some r := by rw [if_pos rfl] at H; exact H
      clear H
      have H := H1
      clear H1
      replace H := Option.bind_eq_some_iff.mp H
      obtain ⟨t339, A90, H⟩ := H
      replace H : (if t339 = true then (stockyardlaw03_PatternMeans.j0 k a2 (decide ((a2.size : Int) > 400)) l0_0 a0_1 l1_0 a1_1) else (stockyardlaw03_PatternMeans.j0 k a2 true l0_0 a0_1 l1_0 a1_1)) = some r := H
      have A9 := Aside0.mk A90
      clear A90
      by_cases c10 : t339 = true
      · subst c10
        have H1 : (stockyardlaw03_PatternMeans.j0 k a2 (decide ((a2.size : Int) > 400)) l0_0 a0_1 l1_0 a1_1) = some r := by rw [if_pos rfl] at H; exact H
        clear H
        have H := H1
        clear H1
        have H' := Aside0.mk H
        clear H
        have hnb11 := NB336_337.out
        have hnc11 := NB337_336.out
        have hcz12_0 : w6.cell? ⟨gb336, 0, none⟩ = some (.slice A0_0 l0_0.length c0_0) := (blk_cell BK336.out 0).trans rfl
        have hcz12_1 : w6.cell? ⟨gb336, 1, none⟩ = some (.bool a0_1) := (blk_cell BK336.out 1).trans rfl
        have hfz12_0 := blk_frozen BK336.out 0
        have hfz12_1 := blk_frozen BK336.out 1
        go_wp2_with (first | ((with_reducible refine gate_callee (f := 11) rfl ?_); refine goesL_ (some 15) rfl rfl Tryd.func11 (by kernel_rfl) rfl #[.agg #[.slice A0_0 l0_0.length c0_0, .bool a0_1]] rfl (by (try simp only [List.map_toArray, List.map_cons, List.map_nil]); first | done | rfl | (simp only [List.length_drop, List.length_take]; rfl)) ?_; (with_reducible refine (stockyardlaw03_small.calls k _ _ l0_0 a0_1 true _ ?side1 ?side2 A7.out).mono ?_); (case side1 => repeat (first | exact (Kd.C_below HR0_0.out HB.out) | (with_reducible refine Kd.C_alloc ?_ _) | (with_reducible refine Kd.C_drewN ?_ _) | (with_reducible refine Kd.C_drew ?_))); (case side2 => exact HC0_0.out); rintro e w13 ⟨rfl, hb⟩; refine ⟨_, rfl, ?_⟩; have n0_ := Aside0.mk (blk_below (g := gb336) (o := .cells #[.slice A0_0 l0_0.length c0_0, .bool a0_1] 24 (0, 0)) (by (with_reducible repeat (first | refine blk_drewN ?_ _ | refine blk_drew ?_ | refine blk_alloc ?_ _)); exact BK336.out) hb); have n1_ := Aside0.mk (blk_below (g := gb337) (o := .cells #[.slice A1_0 l1_0.length c1_0, .bool a1_1] 24 (0, 0)) (by (with_reducible repeat (first | refine blk_drewN ?_ _ | refine blk_drew ?_ | refine blk_alloc ?_ _)); exact BK337.out) hb); have n2_ := Aside0.mk (below_step (by repeat (first | (with_reducible first | exact HB.out | apply below_alloc | apply pw_below_drewN | apply below_drew1 | refine below_set ?_ GE336.out | refine below_set ?_ GE337.out) | exact HB.out)) hb); clear BK336; clear BK337; clear HB; have BK336 := n0_; have BK337 := n1_; have HB := n2_; clear n0_ n1_ n2_; (try clear hb); (try clear hb2); (try clear hk); (try clear hi); have hcz14_0 : w13.cell? ⟨gb337, 0, none⟩ = some (.slice A1_0 l1_0.length c1_0) := (blk_cell BK337.out 0).trans rfl; have hcz14_1 : w13.cell? ⟨gb337, 1, none⟩ = some (.bool a1_1) := (blk_cell BK337.out 1).trans rfl; have hfz14_0 := blk_frozen BK337.out 0; have hfz14_1 := blk_frozen BK337.out 1) | (go_at_call 11; (with_reducible refine (stockyardlaw03_small.calls k _ _ l1_0 a1_1 true _ ?side1 ?side2 A9.out).mono ?_); (case side1 => repeat (first | exact (Kd.C_below HR1_0.out HB.out) | (with_reducible refine Kd.C_alloc ?_ _) | (with_reducible refine Kd.C_drewN ?_ _) | (with_reducible refine Kd.C_drew ?_))); (case side2 => exact HC1_0.out); rintro e w15 ⟨rfl, hb⟩; have n0_ := Aside0.mk (blk_below (g := gb336) (o := .cells #[.slice A0_0 l0_0.length c0_0, .bool a0_1] 24 (0, 0)) (by (with_reducible repeat (first | refine blk_drewN ?_ _ | refine blk_drew ?_ | refine blk_alloc ?_ _)); exact BK336.out) hb); have n1_ := Aside0.mk (blk_below (g := gb337) (o := .cells #[.slice A1_0 l1_0.length c1_0, .bool a1_1] 24 (0, 0)) (by (with_reducible repeat (first | refine blk_drewN ?_ _ | refine blk_drew ?_ | refine blk_alloc ?_ _)); exact BK337.out) hb); have n2_ := Aside0.mk (below_step (by repeat (first | (with_reducible first | exact HB.out | apply below_alloc | apply pw_below_drewN | apply below_drew1 | refine below_set ?_ GE336.out | refine below_set ?_ GE337.out) | exact HB.out)) hb); clear BK336; clear BK337; clear HB; have BK336 := n0_; have BK337 := n1_; have HB := n2_; clear n0_ n1_ n2_; (try clear hb); (try clear hb2); (try clear hk); (try clear hi)))
        go_meet
        case rel => exact ⟨_, (decide ((a2.size : Int) > 400)), (by first | rfl | (simp; done) | (simp [*]; done)), H', ⟨by first | omega | exact Nat.le_refl _⟩, ⟨by (with_reducible repeat (first | refine blk_drewN ?_ _ | refine blk_drew ?_ | refine blk_alloc ?_ _)); exact BK336.out⟩, ⟨by (with_reducible repeat (first | refine blk_drewN ?_ _ | refine blk_drew ?_ | refine blk_alloc ?_ _)); exact BK337.out⟩, ⟨by repeat (first | (with_reducible first | exact HB.out | apply below_alloc | apply pw_below_drewN | apply below_drew1 | refine below_set ?_ GE336.out | refine below_set ?_ GE337.out) | exact HB.out)⟩⟩
      · replace c10 := Bool.eq_false_iff.mpr c10
        subst c10
        have H1 : (stockyardlaw03_PatternMeans.j0 k a2 true l0_0 a0_1 l1_0 a1_1) = some r := by rw [if_neg (show ¬ (false = true) by decide)] at H; exact H
        clear H
        have H := H1
        clear H1
        have H' := Aside0.mk H
        clear H
        have hnb16 := NB336_337.out
        have hnc16 := NB337_336.out
        have hcz17_0 : w6.cell? ⟨gb336, 0, none⟩ = some (.slice A0_0 l0_0.length c0_0) := (blk_cell BK336.out 0).trans rfl
        have hcz17_1 : w6.cell? ⟨gb336, 1, none⟩ = some (.bool a0_1) := (blk_cell BK336.out 1).trans rfl
        have hfz17_0 := blk_frozen BK336.out 0
        have hfz17_1 := blk_frozen BK336.out 1
        go_wp2_with (first | ((with_reducible refine gate_callee (f := 11) rfl ?_); refine goesL_ (some 15) rfl rfl Tryd.func11 (by kernel_rfl) rfl #[.agg #[.slice A0_0 l0_0.length c0_0, .bool a0_1]] rfl (by (try simp only [List.map_toArray, List.map_cons, List.map_nil]); first | done | rfl | (simp only [List.length_drop, List.length_take]; rfl)) ?_; (with_reducible refine (stockyardlaw03_small.calls k _ _ l0_0 a0_1 true _ ?side1 ?side2 A7.out).mono ?_); (case side1 => repeat (first | exact (Kd.C_below HR0_0.out HB.out) | (with_reducible refine Kd.C_alloc ?_ _) | (with_reducible refine Kd.C_drewN ?_ _) | (with_reducible refine Kd.C_drew ?_))); (case side2 => exact HC0_0.out); rintro e w18 ⟨rfl, hb⟩; refine ⟨_, rfl, ?_⟩; have n0_ := Aside0.mk (blk_below (g := gb336) (o := .cells #[.slice A0_0 l0_0.length c0_0, .bool a0_1] 24 (0, 0)) (by (with_reducible repeat (first | refine blk_drewN ?_ _ | refine blk_drew ?_ | refine blk_alloc ?_ _)); exact BK336.out) hb); have n1_ := Aside0.mk (blk_below (g := gb337) (o := .cells #[.slice A1_0 l1_0.length c1_0, .bool a1_1] 24 (0, 0)) (by (with_reducible repeat (first | refine blk_drewN ?_ _ | refine blk_drew ?_ | refine blk_alloc ?_ _)); exact BK337.out) hb); have n2_ := Aside0.mk (below_step (by repeat (first | (with_reducible first | exact HB.out | apply below_alloc | apply pw_below_drewN | apply below_drew1 | refine below_set ?_ GE336.out | refine below_set ?_ GE337.out) | exact HB.out)) hb); clear BK336; clear BK337; clear HB; have BK336 := n0_; have BK337 := n1_; have HB := n2_; clear n0_ n1_ n2_; (try clear hb); (try clear hb2); (try clear hk); (try clear hi); have hcz19_0 : w18.cell? ⟨gb337, 0, none⟩ = some (.slice A1_0 l1_0.length c1_0) := (blk_cell BK337.out 0).trans rfl; have hcz19_1 : w18.cell? ⟨gb337, 1, none⟩ = some (.bool a1_1) := (blk_cell BK337.out 1).trans rfl; have hfz19_0 := blk_frozen BK337.out 0; have hfz19_1 := blk_frozen BK337.out 1) | (go_at_call 11; (with_reducible refine (stockyardlaw03_small.calls k _ _ l1_0 a1_1 false _ ?side1 ?side2 A9.out).mono ?_); (case side1 => repeat (first | exact (Kd.C_below HR1_0.out HB.out) | (with_reducible refine Kd.C_alloc ?_ _) | (with_reducible refine Kd.C_drewN ?_ _) | (with_reducible refine Kd.C_drew ?_))); (case side2 => exact HC1_0.out); rintro e w20 ⟨rfl, hb⟩; have n0_ := Aside0.mk (blk_below (g := gb336) (o := .cells #[.slice A0_0 l0_0.length c0_0, .bool a0_1] 24 (0, 0)) (by (with_reducible repeat (first | refine blk_drewN ?_ _ | refine blk_drew ?_ | refine blk_alloc ?_ _)); exact BK336.out) hb); have n1_ := Aside0.mk (blk_below (g := gb337) (o := .cells #[.slice A1_0 l1_0.length c1_0, .bool a1_1] 24 (0, 0)) (by (with_reducible repeat (first | refine blk_drewN ?_ _ | refine blk_drew ?_ | refine blk_alloc ?_ _)); exact BK337.out) hb); have n2_ := Aside0.mk (below_step (by repeat (first | (with_reducible first | exact HB.out | apply below_alloc | apply pw_below_drewN | apply below_drew1 | refine below_set ?_ GE336.out | refine below_set ?_ GE337.out) | exact HB.out)) hb); clear BK336; clear BK337; clear HB; have BK336 := n0_; have BK337 := n1_; have HB := n2_; clear n0_ n1_ n2_; (try clear hb); (try clear hb2); (try clear hk); (try clear hi)))
        go_meet
        case rel => exact ⟨_, (true), (by first | rfl | (simp; done) | (simp [*]; done)), H', ⟨by first | omega | exact Nat.le_refl _⟩, ⟨by (with_reducible repeat (first | refine blk_drewN ?_ _ | refine blk_drew ?_ | refine blk_alloc ?_ _)); exact BK336.out⟩, ⟨by (with_reducible repeat (first | refine blk_drewN ?_ _ | refine blk_drew ?_ | refine blk_alloc ?_ _)); exact BK337.out⟩, ⟨by repeat (first | (with_reducible first | exact HB.out | apply below_alloc | apply pw_below_drewN | apply below_drew1 | refine below_set ?_ GE336.out | refine below_set ?_ GE337.out) | exact HB.out)⟩⟩
    · replace c8 := Bool.eq_false_iff.mpr c8
      subst c8
      have H1 : (stockyardlaw03_PatternMeans.j0 k a2 true l0_0 a0_1 l1_0 a1_1) = some r := by rw [if_neg (show ¬ (false = true) by decide)] at H; exact H
      clear H
      have H := H1
      clear H1
      have H' := Aside0.mk H
      clear H
      have hnb21 := NB336_337.out
      have hnc21 := NB337_336.out
      have hcz22_0 : w6.cell? ⟨gb336, 0, none⟩ = some (.slice A0_0 l0_0.length c0_0) := (blk_cell BK336.out 0).trans rfl
      have hcz22_1 : w6.cell? ⟨gb336, 1, none⟩ = some (.bool a0_1) := (blk_cell BK336.out 1).trans rfl
      have hfz22_0 := blk_frozen BK336.out 0
      have hfz22_1 := blk_frozen BK336.out 1
      go_wp2_with (first | ((with_reducible refine gate_callee (f := 11) rfl ?_); refine goesL_ (some 15) rfl rfl Tryd.func11 (by kernel_rfl) rfl #[.agg #[.slice A0_0 l0_0.length c0_0, .bool a0_1]] rfl (by (try simp only [List.map_toArray, List.map_cons, List.map_nil]); first | done | rfl | (simp only [List.length_drop, List.length_take]; rfl)) ?_; (with_reducible refine (stockyardlaw03_small.calls k _ _ l0_0 a0_1 false _ ?side1 ?side2 A7.out).mono ?_); (case side1 => repeat (first | exact (Kd.C_below HR0_0.out HB.out) | (with_reducible refine Kd.C_alloc ?_ _) | (with_reducible refine Kd.C_drewN ?_ _) | (with_reducible refine Kd.C_drew ?_))); (case side2 => exact HC0_0.out); rintro e w23 ⟨rfl, hb⟩; refine ⟨_, rfl, ?_⟩; have n0_ := Aside0.mk (blk_below (g := gb336) (o := .cells #[.slice A0_0 l0_0.length c0_0, .bool a0_1] 24 (0, 0)) (by (with_reducible repeat (first | refine blk_drewN ?_ _ | refine blk_drew ?_ | refine blk_alloc ?_ _)); exact BK336.out) hb); have n1_ := Aside0.mk (blk_below (g := gb337) (o := .cells #[.slice A1_0 l1_0.length c1_0, .bool a1_1] 24 (0, 0)) (by (with_reducible repeat (first | refine blk_drewN ?_ _ | refine blk_drew ?_ | refine blk_alloc ?_ _)); exact BK337.out) hb); have n2_ := Aside0.mk (below_step (by repeat (first | (with_reducible first | exact HB.out | apply below_alloc | apply pw_below_drewN | apply below_drew1 | refine below_set ?_ GE336.out | refine below_set ?_ GE337.out) | exact HB.out)) hb); clear BK336; clear BK337; clear HB; have BK336 := n0_; have BK337 := n1_; have HB := n2_; clear n0_ n1_ n2_; (try clear hb); (try clear hb2); (try clear hk); (try clear hi)))
      go_meet
      case rel => exact ⟨_, (true), (by first | rfl | (simp; done) | (simp [*]; done)), H', ⟨by first | omega | exact Nat.le_refl _⟩, ⟨by (with_reducible repeat (first | refine blk_drewN ?_ _ | refine blk_drew ?_ | refine blk_alloc ?_ _)); exact BK336.out⟩, ⟨by (with_reducible repeat (first | refine blk_drewN ?_ _ | refine blk_drew ?_ | refine blk_alloc ?_ _)); exact BK337.out⟩, ⟨by repeat (first | (with_reducible first | exact HB.out | apply below_alloc | apply pw_below_drewN | apply below_drew1 | refine below_set ?_ GE336.out | refine below_set ?_ GE337.out) | exact HB.out)⟩⟩
  case rest =>
    clear HC4
    try clear c1
    try clear c2
    try clear p2
    try clear c4
    try clear c8
    try clear c10
    try clear c11
    try clear c16
    try clear c21
    try clear hcz12_0
    try clear hcz12_1
    try clear hcz14_0
    try clear hcz14_1
    try clear hcz17_0
    try clear hcz17_1
    try clear hcz19_0
    try clear hcz19_1
    try clear hcz22_0
    try clear hcz22_1
    try clear hfz12_0
    try clear hfz12_1
    try clear hfz14_0
    try clear hfz14_1
    try clear hfz17_0
    try clear hfz17_1
    try clear hfz19_0
    try clear hfz19_1
    try clear hfz22_0
    try clear hfz22_1
    obtain ⟨kq, x26_3, rfl, HA, HJ3, BK336, BK337, HB⟩ := hcut
    cases kq with
    | zero => exact absurd HA.out (by simp [stockyardlaw03_PatternMeans.j0])
    | succ kj3 =>
      have H := HA.out
      clear HA
      simp only [stockyardlaw03_PatternMeans.j0] at H
      by_cases c24 : x26_3 = true
      · subst c24
        have H1 : ((stockyardlaw03_awake.f kj3).bind fun t340 => (some t340)) = some r := by rw [if_pos rfl] at H; exact H
        clear H
        have H := H1
        clear H1
        replace H := Option.bind_eq_some_iff.mp H
        obtain ⟨t340, A250, H⟩ := H
        replace H : (some t340) = some r := H
        have A25 := Aside0.mk A250
        clear A250
        obtain rfl := Option.some.inj H
        go_wp2_with (first | ((with_reducible refine gate_callee (f := 12) rfl ?_); refine goesL_ (some 27) rfl rfl Tryd.func12 (by kernel_rfl) rfl #[] rfl (by (try simp only [List.map_toArray, List.map_cons, List.map_nil]); first | done | rfl | (simp only [List.length_drop, List.length_take]; rfl)) ?_; (with_reducible refine (stockyardlaw03_awake.calls kj3  t340 _ A25.out).mono ?_); rintro e w26 ⟨rfl, hb⟩; refine ⟨_, rfl, ?_⟩; have n0_ := Aside0.mk (blk_below (g := gb336) (o := .cells #[.slice A0_0 l0_0.length c0_0, .bool a0_1] 24 (0, 0)) (by (with_reducible repeat (first | refine blk_drewN ?_ _ | refine blk_drew ?_ | refine blk_alloc ?_ _)); exact BK336.out) hb); have n1_ := Aside0.mk (blk_below (g := gb337) (o := .cells #[.slice A1_0 l1_0.length c1_0, .bool a1_1] 24 (0, 0)) (by (with_reducible repeat (first | refine blk_drewN ?_ _ | refine blk_drew ?_ | refine blk_alloc ?_ _)); exact BK337.out) hb); have n2_ := Aside0.mk (below_step (by repeat (first | (with_reducible first | exact HB.out | apply below_alloc | apply pw_below_drewN | apply below_drew1 | refine below_set ?_ GE336.out | refine below_set ?_ GE337.out) | exact HB.out)) hb); clear BK336; clear BK337; clear HB; have BK336 := n0_; have BK337 := n1_; have HB := n2_; clear n0_ n1_ n2_; (try clear hb); (try clear hb2); (try clear hk); (try clear hi)))
        go_ret
        exact ⟨by first | rfl | (simp [errW_none, errW_some] <;> rfl) | (simp [*, errW_none, errW_some] <;> rfl), by repeat (first | (with_reducible first | exact HB.out | apply below_alloc | apply pw_below_drewN | apply below_drew1 | refine below_set ?_ GE336.out | refine below_set ?_ GE337.out) | exact HB.out)⟩
      · replace c24 := Bool.eq_false_iff.mpr c24
        subst c24
        have H1 : ((pattern_Match.f kj3 l0_0 a0_1 a2).bind fun bt341 => ((pattern_Match.f kj3 l1_0 a1_1 a2).bind fun bt345 => ((pattern_Meet.f kj3 l0_0 a0_1 l1_0 a1_1).bind fun bt349 => (if bt349.2.2 = true then ((pattern_Match.f kj3 bt349.1 bt349.2.1 a2).bind fun bt355 => (stockyardlaw03_PatternMeans.j1 kj3 bt341.2 bt345.2 bt355.2 l0_0 a0_1 l1_0 a1_1)) else (stockyardlaw03_PatternMeans.j1 kj3 bt341.2 bt345.2 false l0_0 a0_1 l1_0 a1_1))))) = some r := by rw [if_neg (show ¬ (false = true) by decide)] at H; exact H
        clear H
        have H := H1
        clear H1
        replace H := Option.bind_eq_some_iff.mp H
        obtain ⟨⟨t341, t344⟩, A270, H⟩ := H
        replace H : ((pattern_Match.f kj3 l1_0 a1_1 a2).bind fun bt345 => ((pattern_Meet.f kj3 l0_0 a0_1 l1_0 a1_1).bind fun bt349 => (if bt349.2.2 = true then ((pattern_Match.f kj3 bt349.1 bt349.2.1 a2).bind fun bt355 => (stockyardlaw03_PatternMeans.j1 kj3 t344 bt345.2 bt355.2 l0_0 a0_1 l1_0 a1_1)) else (stockyardlaw03_PatternMeans.j1 kj3 t344 bt345.2 false l0_0 a0_1 l1_0 a1_1)))) = some r := H
        have A27 := Aside0.mk A270
        clear A270
        replace H := Option.bind_eq_some_iff.mp H
        obtain ⟨⟨t345, t348⟩, A280, H⟩ := H
        replace H : ((pattern_Meet.f kj3 l0_0 a0_1 l1_0 a1_1).bind fun bt349 => (if bt349.2.2 = true then ((pattern_Match.f kj3 bt349.1 bt349.2.1 a2).bind fun bt355 => (stockyardlaw03_PatternMeans.j1 kj3 t344 t348 bt355.2 l0_0 a0_1 l1_0 a1_1)) else (stockyardlaw03_PatternMeans.j1 kj3 t344 t348 false l0_0 a0_1 l1_0 a1_1))) = some r := H
        have A28 := Aside0.mk A280
        clear A280
        replace H := Option.bind_eq_some_iff.mp H
        obtain ⟨⟨t349, t352, t353⟩, A290, H⟩ := H
        replace H : (if t353 = true then ((pattern_Match.f kj3 t349 t352 a2).bind fun bt355 => (stockyardlaw03_PatternMeans.j1 kj3 t344 t348 bt355.2 l0_0 a0_1 l1_0 a1_1)) else (stockyardlaw03_PatternMeans.j1 kj3 t344 t348 false l0_0 a0_1 l1_0 a1_1)) = some r := H
        have A29 := Aside0.mk A290
        clear A290
        have HC30 := Aside0.mk H
        clear H
        have hnb31 := NB336_337.out
        have hnc31 := NB337_336.out
        have hcz32_0 : wc.cell? ⟨gb336, 0, none⟩ = some (.slice A0_0 l0_0.length c0_0) := (blk_cell BK336.out 0).trans rfl
        have hcz32_1 : wc.cell? ⟨gb336, 1, none⟩ = some (.bool a0_1) := (blk_cell BK336.out 1).trans rfl
        have hfz32_0 := blk_frozen BK336.out 0
        have hfz32_1 := blk_frozen BK336.out 1
        go_upto_if 46 with (first | ((with_reducible refine gate_callee (f := 17) rfl ?_); refine goesL_ (some 31) rfl rfl Tryd.func17 (by kernel_rfl) rfl #[.agg #[.slice A0_0 l0_0.length c0_0, .bool a0_1], .string a2] rfl (by (try simp only [List.map_toArray, List.map_cons, List.map_nil]); first | done | rfl | (simp only [List.length_drop, List.length_take]; rfl)) ?_; (with_reducible refine (pattern_Match.calls kj3 _ _ l0_0 a0_1 a2 t341 t344 _ ?side1 ?side2 A27.out).mono ?_); (case side1 => repeat (first | exact (Kd.C_below HR0_0.out HB.out) | (with_reducible refine Kd.C_alloc ?_ _) | (with_reducible refine Kd.C_drewN ?_ _) | (with_reducible refine Kd.C_drew ?_))); (case side2 => exact HC0_0.out); rintro e w33 ⟨v342, rfl, ho0, hb⟩; refine ⟨_, rfl, ?_⟩; have n0_ := Aside0.mk (Kd.R_lower ho0 (below_size (by repeat (first | (with_reducible first | exact HB.out | apply below_alloc | apply pw_below_drewN | apply below_drew1 | refine below_set ?_ GE336.out | refine below_set ?_ GE337.out) | exact HB.out)))); have n1_ := Aside0.mk (blk_below (g := gb336) (o := .cells #[.slice A0_0 l0_0.length c0_0, .bool a0_1] 24 (0, 0)) (by (with_reducible repeat (first | refine blk_drewN ?_ _ | refine blk_drew ?_ | refine blk_alloc ?_ _)); exact BK336.out) hb); have n2_ := Aside0.mk (blk_below (g := gb337) (o := .cells #[.slice A1_0 l1_0.length c1_0, .bool a1_1] 24 (0, 0)) (by (with_reducible repeat (first | refine blk_drewN ?_ _ | refine blk_drew ?_ | refine blk_alloc ?_ _)); exact BK337.out) hb); have n3_ := Aside0.mk (below_step (by repeat (first | (with_reducible first | exact HB.out | apply below_alloc | apply pw_below_drewN | apply below_drew1 | refine below_set ?_ GE336.out | refine below_set ?_ GE337.out) | exact HB.out)) hb); clear BK336; clear BK337; clear HB; have HO343 := n0_; have BK336 := n1_; have BK337 := n2_; have HB := n3_; clear n0_ n1_ n2_ n3_; (try clear hb); (try clear hb2); (try clear hk); (try clear hi); (try clear ho0); have hcz34_0 : w33.cell? ⟨gb337, 0, none⟩ = some (.slice A1_0 l1_0.length c1_0) := (blk_cell BK337.out 0).trans rfl; have hcz34_1 : w33.cell? ⟨gb337, 1, none⟩ = some (.bool a1_1) := (blk_cell BK337.out 1).trans rfl; have hfz34_0 := blk_frozen BK337.out 0; have hfz34_1 := blk_frozen BK337.out 1) | ((with_reducible refine gate_callee (f := 17) rfl ?_); refine goesL_ (some 37) rfl rfl Tryd.func17 (by kernel_rfl) rfl #[.agg #[.slice A1_0 l1_0.length c1_0, .bool a1_1], .string a2] rfl (by (try simp only [List.map_toArray, List.map_cons, List.map_nil]); first | done | rfl | (simp only [List.length_drop, List.length_take]; rfl)) ?_; (with_reducible refine (pattern_Match.calls kj3 _ _ l1_0 a1_1 a2 t345 t348 _ ?side1 ?side2 A28.out).mono ?_); (case side1 => repeat (first | exact (Kd.C_below HR1_0.out HB.out) | (with_reducible refine Kd.C_alloc ?_ _) | (with_reducible refine Kd.C_drewN ?_ _) | (with_reducible refine Kd.C_drew ?_))); (case side2 => exact HC1_0.out); rintro e w35 ⟨v346, rfl, ho0, hb⟩; refine ⟨_, rfl, ?_⟩; have n0_ := Aside0.mk (Kd.R_elder' (by (with_reducible repeat (first | apply Kd.R_alloc | apply Kd.R_drewN | apply Kd.R_drew)); exact HO343.out) (Kd.R_base ho0) hb); have n1_ := Aside0.mk (Kd.R_lower (Kd.R_new' ho0 (Kd.R_lt (by (with_reducible repeat (first | apply Kd.R_alloc | apply Kd.R_drewN | apply Kd.R_drew)); exact HO343.out))) (below_size (by repeat (first | (with_reducible first | exact HB.out | apply below_alloc | apply pw_below_drewN | apply below_drew1 | refine below_set ?_ GE336.out | refine below_set ?_ GE337.out) | exact HB.out)))); have n2_ := Aside0.mk (blk_below (g := gb336) (o := .cells #[.slice A0_0 l0_0.length c0_0, .bool a0_1] 24 (0, 0)) (by (with_reducible repeat (first | refine blk_drewN ?_ _ | refine blk_drew ?_ | refine blk_alloc ?_ _)); exact BK336.out) hb); have n3_ := Aside0.mk (blk_below (g := gb337) (o := .cells #[.slice A1_0 l1_0.length c1_0, .bool a1_1] 24 (0, 0)) (by (with_reducible repeat (first | refine blk_drewN ?_ _ | refine blk_drew ?_ | refine blk_alloc ?_ _)); exact BK337.out) hb); have n4_ := Aside0.mk (below_step (by repeat (first | (with_reducible first | exact HB.out | apply below_alloc | apply pw_below_drewN | apply below_drew1 | refine below_set ?_ GE336.out | refine below_set ?_ GE337.out) | exact HB.out)) hb); clear HO343; clear BK336; clear BK337; clear HB; have HO343 := n0_; have HO347 := n1_; have BK336 := n2_; have BK337 := n3_; have HB := n4_; clear n0_ n1_ n2_ n3_ n4_; (try clear hb); (try clear hb2); (try clear hk); (try clear hi); (try clear ho0); have hcz36_0 : w35.cell? ⟨gb336, 0, none⟩ = some (.slice A0_0 l0_0.length c0_0) := (blk_cell BK336.out 0).trans rfl; have hcz36_1 : w35.cell? ⟨gb336, 1, none⟩ = some (.bool a0_1) := (blk_cell BK336.out 1).trans rfl; have hfz36_0 := blk_frozen BK336.out 0; have hfz36_1 := blk_frozen BK336.out 1; have hcz37_0 : w35.cell? ⟨gb337, 0, none⟩ = some (.slice A1_0 l1_0.length c1_0) := (blk_cell BK337.out 0).trans rfl; have hcz37_1 : w35.cell? ⟨gb337, 1, none⟩ = some (.bool a1_1) := (blk_cell BK337.out 1).trans rfl; have hfz37_0 := blk_frozen BK337.out 0; have hfz37_1 := blk_frozen BK337.out 1) | ((with_reducible refine gate_callee (f := 14) rfl ?_); refine goesL_ (some 43) rfl rfl Tryd.func14 (by kernel_rfl) rfl #[.agg #[.slice A0_0 l0_0.length c0_0, .bool a0_1], .agg #[.slice A1_0 l1_0.length c1_0, .bool a1_1]] rfl (by (try simp only [List.map_toArray, List.map_cons, List.map_nil]); first | done | rfl | (simp only [List.length_drop, List.length_take]; rfl)) ?_; (with_reducible refine (pattern_Meet.calls kj3 _ _ l0_0 a0_1 _ _ l1_0 a1_1 t349 t352 t353 _ ?side1 ?side2 ?side3 ?side4 A29.out).mono ?_); (case side1 => repeat (first | exact (Kd.C_below HR0_0.out HB.out) | (with_reducible refine Kd.C_alloc ?_ _) | (with_reducible refine Kd.C_drewN ?_ _) | (with_reducible refine Kd.C_drew ?_))); (case side2 => exact HC0_0.out); (case side3 => repeat (first | exact (Kd.C_below HR1_0.out HB.out) | (with_reducible refine Kd.C_alloc ?_ _) | (with_reducible refine Kd.C_drewN ?_ _) | (with_reducible refine Kd.C_drew ?_))); (case side4 => exact HC1_0.out); rintro e w38 ⟨v350, rfl, ho0, hb⟩; refine ⟨_, rfl, ?_⟩; have n0_ := Aside0.mk (Kd.R_elder' (by (with_reducible repeat (first | apply Kd.R_alloc | apply Kd.R_drewN | apply Kd.R_drew)); exact HO343.out) (Kd.R_base ho0) hb); have n1_ := Aside0.mk (Kd.R_elder' (by (with_reducible repeat (first | apply Kd.R_alloc | apply Kd.R_drewN | apply Kd.R_drew)); exact HO347.out) (Kd.R_base ho0) hb); have n2_ := Aside0.mk (Kd.R_lower (Kd.R_new' (Kd.R_new' ho0 (Kd.R_lt (by (with_reducible repeat (first | apply Kd.R_alloc | apply Kd.R_drewN | apply Kd.R_drew)); exact HO343.out))) (Kd.R_lt (by (with_reducible repeat (first | apply Kd.R_alloc | apply Kd.R_drewN | apply Kd.R_drew)); exact HO347.out))) (below_size (by repeat (first | (with_reducible first | exact HB.out | apply below_alloc | apply pw_below_drewN | apply below_drew1 | refine below_set ?_ GE336.out | refine below_set ?_ GE337.out) | exact HB.out)))); have n3_ := Aside0.mk (blk_below (g := gb336) (o := .cells #[.slice A0_0 l0_0.length c0_0, .bool a0_1] 24 (0, 0)) (by (with_reducible repeat (first | refine blk_drewN ?_ _ | refine blk_drew ?_ | refine blk_alloc ?_ _)); exact BK336.out) hb); have n4_ := Aside0.mk (blk_below (g := gb337) (o := .cells #[.slice A1_0 l1_0.length c1_0, .bool a1_1] 24 (0, 0)) (by (with_reducible repeat (first | refine blk_drewN ?_ _ | refine blk_drew ?_ | refine blk_alloc ?_ _)); exact BK337.out) hb); have n5_ := Aside0.mk (below_step (by repeat (first | (with_reducible first | exact HB.out | apply below_alloc | apply pw_below_drewN | apply below_drew1 | refine below_set ?_ GE336.out | refine below_set ?_ GE337.out) | exact HB.out)) hb); clear HO343; clear HO347; clear BK336; clear BK337; clear HB; have HO343 := n0_; have HO347 := n1_; have HO351 := n2_; have BK336 := n3_; have BK337 := n4_; have HB := n5_; clear n0_ n1_ n2_ n3_ n4_ n5_; (try clear hb); (try clear hb2); (try clear hk); (try clear hi); (try clear ho0)) | ((with_reducible refine gate_dst (N := 11) rfl ?_); (try (refine gate_guard (by rfl) ?_; dsimp only)); refine box_event ?hg (N := 11) ?hd (cs := #[.slice none 0 0, .bool false]) (t := 24) ?hr ?_; (case hd => rfl); (case hg => rfl); (case hr => first | (go_simp; done) | (go_simp; rfl)); intro gb354 hg w39 hbox hb; have n0_ := Aside0.mk (Kd.R_below (by (with_reducible repeat (first | apply Kd.R_alloc | apply Kd.R_drewN | apply Kd.R_drew)); exact HO343.out) hb); have n1_ := Aside0.mk (Kd.R_below (by (with_reducible repeat (first | apply Kd.R_alloc | apply Kd.R_drewN | apply Kd.R_drew)); exact HO347.out) hb); have n2_ := Aside0.mk (Kd.R_below (by (with_reducible repeat (first | apply Kd.R_alloc | apply Kd.R_drewN | apply Kd.R_drew)); exact HO351.out) hb); have n3_ := Aside0.mk (blk_below (g := gb336) (o := .cells #[.slice A0_0 l0_0.length c0_0, .bool a0_1] 24 (0, 0)) (by (with_reducible repeat (first | refine blk_drewN ?_ _ | refine blk_drew ?_ | refine blk_alloc ?_ _)); exact BK336.out) hb); have n4_ := Aside0.mk (blk_below (g := gb337) (o := .cells #[.slice A1_0 l1_0.length c1_0, .bool a1_1] 24 (0, 0)) (by (with_reducible repeat (first | refine blk_drewN ?_ _ | refine blk_drew ?_ | refine blk_alloc ?_ _)); exact BK337.out) hb); have n5_ := Aside0.mk (below_step (by repeat (first | (with_reducible first | exact HB.out | apply below_alloc | apply pw_below_drewN | apply below_drew1 | refine below_set ?_ GE336.out | refine below_set ?_ GE337.out) | exact HB.out)) hb); have n6_ := Aside0.mk (hbox); have n7_ := Aside0.mk ((by rw [hg]; exact (below_size (by repeat (first | (with_reducible first | exact HB.out | apply below_alloc | apply pw_below_drewN | apply below_drew1 | refine below_set ?_ GE336.out | refine below_set ?_ GE337.out) | exact HB.out))) : w.heap.size ≤ gb354)); have n8_ := Aside0.mk ((by rw [hg]; exact (below_size (by repeat (first | (with_reducible first | exact HB.out | apply below_alloc | apply pw_below_drewN | apply below_drew1 | refine below_set ?_ GE336.out | refine below_set ?_ GE337.out) | exact HB.out))) : w.heap.size ≤ gb354)); have n9_ := Aside0.mk ((by rw [hg]; exact Nat.ne_of_lt (blk_lt (g := gb336) (o := .cells #[.slice A0_0 l0_0.length c0_0, .bool a0_1] 24 (0, 0)) (by (with_reducible repeat (first | refine blk_drewN ?_ _ | refine blk_drew ?_ | refine blk_alloc ?_ _)); exact BK336.out)) : gb336 ≠ gb354)); have n10_ := Aside0.mk ((by rw [hg]; exact Nat.ne_of_gt (blk_lt (g := gb336) (o := .cells #[.slice A0_0 l0_0.length c0_0, .bool a0_1] 24 (0, 0)) (by (with_reducible repeat (first | refine blk_drewN ?_ _ | refine blk_drew ?_ | refine blk_alloc ?_ _)); exact BK336.out)) : gb354 ≠ gb336)); have n11_ := Aside0.mk ((by rw [hg]; exact Nat.ne_of_lt (blk_lt (g := gb337) (o := .cells #[.slice A1_0 l1_0.length c1_0, .bool a1_1] 24 (0, 0)) (by (with_reducible repeat (first | refine blk_drewN ?_ _ | refine blk_drew ?_ | refine blk_alloc ?_ _)); exact BK337.out)) : gb337 ≠ gb354)); have n12_ := Aside0.mk ((by rw [hg]; exact Nat.ne_of_gt (blk_lt (g := gb337) (o := .cells #[.slice A1_0 l1_0.length c1_0, .bool a1_1] 24 (0, 0)) (by (with_reducible repeat (first | refine blk_drewN ?_ _ | refine blk_drew ?_ | refine blk_alloc ?_ _)); exact BK337.out)) : gb354 ≠ gb337)); clear HO343; clear HO347; clear HO351; clear BK336; clear BK337; clear HB; have HO343 := n0_; have HO347 := n1_; have HO351 := n2_; have BK336 := n3_; have BK337 := n4_; have HB := n5_; have BK354 := n6_; have GW354 := n7_; have GE354 := n8_; have NB336_354 := n9_; have NB354_336 := n10_; have NB337_354 := n11_; have NB354_337 := n12_; clear n0_ n1_ n2_ n3_ n4_ n5_ n6_ n7_ n8_ n9_ n10_ n11_ n12_; clear hb hbox hg; obtain ⟨Ao40, co40, eo40⟩ := Kd.R_slice HO351.out; subst eo40; have hnb41 := NB354_336.out; have hnc41 := NB336_354.out; have hnb42 := NB354_337.out; have hnc42 := NB337_354.out; have hcz43_0 : w39.cell? ⟨gb354, 0, none⟩ = some (.slice none 0 0) := (blk_cell BK354.out 0).trans rfl; have hcz43_1 : w39.cell? ⟨gb354, 1, none⟩ = some (.bool false) := (blk_cell BK354.out 1).trans rfl; have hfz43_0 := blk_frozen BK354.out 0; have hfz43_1 := blk_frozen BK354.out 1))
        (try simp only [Act.put, List.setIfInBounds_toArray, List.set_cons_zero, List.set_cons_succ])
        go_cut [13] (fun v13 wc => ∃ (kq : Nat) (x13_29 : Bool), v13 = .bool x13_29 ∧ Aside0 (stockyardlaw03_PatternMeans.j1 kq t344 t348 x13_29 l0_0 a0_1 l1_0 a1_1 = some r) ∧ Aside0 (kq ≤ kj3) ∧ Aside0 (Kd.R Kd.string 9 wc w.heap.size (fun _ => True) (.slice Ao40 t349.length co40) t349) ∧ Aside0 (wc.heap[gb336]? = some (.cells #[(.slice A0_0 l0_0.length c0_0), .bool a0_1] 24 (0, 0))) ∧ Aside0 (wc.heap[gb337]? = some (.cells #[(.slice A1_0 l1_0.length c1_0), .bool a1_1] 24 (0, 0))) ∧ Aside0 (wc.heap[gb354]? = some (.cells #[(.slice Ao40 t349.length co40), .bool t352] 24 (0, 0))) ∧ Aside0 (Below w.heap.size w wc))
        case first =>
          have H := HC30.out
          clear HC30
          by_cases c44 : t353 = true
          · subst c44
            have H1 : ((pattern_Match.f kj3 t349 t352 a2).bind fun bt355 => (stockyardlaw03_PatternMeans.j1 kj3 t344 t348 bt355.2 l0_0 a0_1 l1_0 a1_1)) = some r := by rw [if_pos rfl] at H; exact H
            clear H
            have H := H1
            clear H1
            replace H := Option.bind_eq_some_iff.mp H
            obtain ⟨⟨t355, t358⟩, A450, H⟩ := H
            replace H : (stockyardlaw03_PatternMeans.j1 kj3 t344 t348 t358 l0_0 a0_1 l1_0 a1_1) = some r := H
            have A45 := Aside0.mk A450
            clear A450
            have H' := Aside0.mk H
            clear H
            have hnb46 := NB354_336.out
            have hnc46 := NB336_354.out
            have hnb47 := NB354_337.out
            have hnc47 := NB337_354.out
            have hcz48_0 : w39.cell? ⟨gb354, 0, none⟩ = some (.slice none 0 0) := (blk_cell BK354.out 0).trans rfl
            have hcz48_1 : w39.cell? ⟨gb354, 1, none⟩ = some (.bool false) := (blk_cell BK354.out 1).trans rfl
            have hfz48_0 := blk_frozen BK354.out 0
            have hfz48_1 := blk_frozen BK354.out 1
            go_wp2_with (first | ((with_reducible refine gate_callee (f := 17) rfl ?_); refine goesL_ (some 50) rfl rfl Tryd.func17 (by kernel_rfl) rfl #[.agg #[.slice Ao40 t349.length co40, .bool t352], .string a2] rfl (by (try simp only [List.map_toArray, List.map_cons, List.map_nil]); first | done | rfl | (simp only [List.length_drop, List.length_take]; rfl)) ?_; (with_reducible refine (pattern_Match.calls kj3 _ _ t349 t352 a2 t355 t358 _ ?side1 ?side2 A45.out).mono ?_); (case side1 => refine (Kd.R_reads' (e := 9) (base := w.heap.size) (ok := fun k_ => ((True ∧ some k_ ≠ (v342 : Value).ownBlock) ∧ some k_ ≠ (v346 : Value).ownBlock)) (n := t349.length) (c := co40) ?_).2.2; exact (by (with_reducible repeat (first | apply Kd.R_alloc | apply Kd.R_drewN | apply Kd.R_drew)); exact (Kd.R_mono (Kd.R_far (p := ⟨gb354, 1, none⟩) (Kd.R_far (p := ⟨gb354, 0, none⟩) (Kd.R_types HO351.out BK354.out (by decide)) (fun _ hk => hk.2) (.slice Ao40 t349.length co40)) (fun _ hk => hk.2) (.bool t352)) (fun _ h_ => h_.1)))); (case side2 => exact (Kd.R_reads' HO351.out).2.1); rintro e w49 ⟨v356, rfl, ho0, hb⟩; refine ⟨_, rfl, ?_⟩; have n0_ := Aside0.mk (Kd.R_elder' (by (with_reducible repeat (first | apply Kd.R_alloc | apply Kd.R_drewN | apply Kd.R_drew)); exact (Kd.R_mono (Kd.R_far (p := ⟨gb354, 1, none⟩) (Kd.R_far (p := ⟨gb354, 0, none⟩) (Kd.R_types HO343.out BK354.out (by decide)) (fun _ hk => hk.2) (.slice Ao40 t349.length co40)) (fun _ hk => hk.2) (.bool t352)) (fun _ h_ => h_.1))) (Kd.R_base ho0) hb); have n1_ := Aside0.mk (Kd.R_elder' (by (with_reducible repeat (first | apply Kd.R_alloc | apply Kd.R_drewN | apply Kd.R_drew)); exact (Kd.R_mono (Kd.R_far (p := ⟨gb354, 1, none⟩) (Kd.R_far (p := ⟨gb354, 0, none⟩) (Kd.R_types HO347.out BK354.out (by decide)) (fun _ hk => hk.2) (.slice Ao40 t349.length co40)) (fun _ hk => hk.2) (.bool t352)) (fun _ h_ => h_.1))) (Kd.R_base ho0) hb); have n2_ := Aside0.mk (Kd.R_elder' (by (with_reducible repeat (first | apply Kd.R_alloc | apply Kd.R_drewN | apply Kd.R_drew)); exact (Kd.R_mono (Kd.R_far (p := ⟨gb354, 1, none⟩) (Kd.R_far (p := ⟨gb354, 0, none⟩) (Kd.R_types HO351.out BK354.out (by decide)) (fun _ hk => hk.2) (.slice Ao40 t349.length co40)) (fun _ hk => hk.2) (.bool t352)) (fun _ h_ => h_.1))) (Kd.R_base ho0) hb); have n3_ := Aside0.mk (Kd.R_lower (Kd.R_new' (Kd.R_new' (Kd.R_new' ho0 (Kd.R_lt (by (with_reducible repeat (first | apply Kd.R_alloc | apply Kd.R_drewN | apply Kd.R_drew)); exact (Kd.R_mono (Kd.R_far (p := ⟨gb354, 1, none⟩) (Kd.R_far (p := ⟨gb354, 0, none⟩) (Kd.R_types HO343.out BK354.out (by decide)) (fun _ hk => hk.2) (.slice Ao40 t349.length co40)) (fun _ hk => hk.2) (.bool t352)) (fun _ h_ => h_.1))))) (Kd.R_lt (by (with_reducible repeat (first | apply Kd.R_alloc | apply Kd.R_drewN | apply Kd.R_drew)); exact (Kd.R_mono (Kd.R_far (p := ⟨gb354, 1, none⟩) (Kd.R_far (p := ⟨gb354, 0, none⟩) (Kd.R_types HO347.out BK354.out (by decide)) (fun _ hk => hk.2) (.slice Ao40 t349.length co40)) (fun _ hk => hk.2) (.bool t352)) (fun _ h_ => h_.1))))) (Kd.R_lt (by (with_reducible repeat (first | apply Kd.R_alloc | apply Kd.R_drewN | apply Kd.R_drew)); exact (Kd.R_mono (Kd.R_far (p := ⟨gb354, 1, none⟩) (Kd.R_far (p := ⟨gb354, 0, none⟩) (Kd.R_types HO351.out BK354.out (by decide)) (fun _ hk => hk.2) (.slice Ao40 t349.length co40)) (fun _ hk => hk.2) (.bool t352)) (fun _ h_ => h_.1))))) (below_size (by repeat (first | (with_reducible first | exact HB.out | apply below_alloc | apply pw_below_drewN | apply below_drew1 | refine below_set ?_ GE336.out | refine below_set ?_ GE337.out | refine below_set ?_ GE354.out) | exact HB.out)))); have n4_ := Aside0.mk (blk_below (g := gb336) (o := .cells #[.slice A0_0 l0_0.length c0_0, .bool a0_1] 24 (0, 0)) (by (with_reducible repeat (first | refine blk_drewN ?_ _ | refine blk_drew ?_ | refine blk_alloc ?_ _)); refine blk_far ?_ NB336_354.out _; (with_reducible repeat (first | refine blk_drewN ?_ _ | refine blk_drew ?_ | refine blk_alloc ?_ _)); refine blk_far ?_ NB336_354.out _; (with_reducible repeat (first | refine blk_drewN ?_ _ | refine blk_drew ?_ | refine blk_alloc ?_ _)); exact BK336.out) hb); have n5_ := Aside0.mk (blk_below (g := gb337) (o := .cells #[.slice A1_0 l1_0.length c1_0, .bool a1_1] 24 (0, 0)) (by (with_reducible repeat (first | refine blk_drewN ?_ _ | refine blk_drew ?_ | refine blk_alloc ?_ _)); refine blk_far ?_ NB337_354.out _; (with_reducible repeat (first | refine blk_drewN ?_ _ | refine blk_drew ?_ | refine blk_alloc ?_ _)); refine blk_far ?_ NB337_354.out _; (with_reducible repeat (first | refine blk_drewN ?_ _ | refine blk_drew ?_ | refine blk_alloc ?_ _)); exact BK337.out) hb); have n6_ := Aside0.mk (blk_below (g := gb354) (o := .cells #[.slice Ao40 t349.length co40, .bool t352] 24 (0, 0)) (by (with_reducible repeat (first | refine blk_drewN ?_ _ | refine blk_drew ?_ | refine blk_alloc ?_ _)); refine blk_put (cs := #[.slice Ao40 t349.length co40, .bool false]) ?_ 1 _ rfl; (with_reducible repeat (first | refine blk_drewN ?_ _ | refine blk_drew ?_ | refine blk_alloc ?_ _)); refine blk_put (cs := #[.slice none 0 0, .bool false]) ?_ 0 _ rfl; (with_reducible repeat (first | refine blk_drewN ?_ _ | refine blk_drew ?_ | refine blk_alloc ?_ _)); exact BK354.out) hb); have n7_ := Aside0.mk (below_step (by repeat (first | (with_reducible first | exact HB.out | apply below_alloc | apply pw_below_drewN | apply below_drew1 | refine below_set ?_ GE336.out | refine below_set ?_ GE337.out | refine below_set ?_ GE354.out) | exact HB.out)) hb); clear HO343; clear HO347; clear HO351; clear BK336; clear BK337; clear BK354; clear HB; have HO343 := n0_; have HO347 := n1_; have HO351 := n2_; have HO357 := n3_; have BK336 := n4_; have BK337 := n5_; have BK354 := n6_; have HB := n7_; clear n0_ n1_ n2_ n3_ n4_ n5_ n6_ n7_; (try clear hb); (try clear hb2); (try clear hk); (try clear hi); (try clear ho0)))
            go_meet
            case rel => exact ⟨_, (t358), (by first | rfl | (simp; done) | (simp [*]; done)), H', ⟨by have := HJ3.out; first | omega | exact Nat.le_refl _⟩, ⟨by (with_reducible repeat (first | apply Kd.R_alloc | apply Kd.R_drewN | apply Kd.R_drew)); exact Kd.R_mono HO351.out (fun _ hk => trivial)⟩, ⟨by (with_reducible repeat (first | refine blk_drewN ?_ _ | refine blk_drew ?_ | refine blk_alloc ?_ _)); exact BK336.out⟩, ⟨by (with_reducible repeat (first | refine blk_drewN ?_ _ | refine blk_drew ?_ | refine blk_alloc ?_ _)); exact BK337.out⟩, ⟨by (with_reducible repeat (first | refine blk_drewN ?_ _ | refine blk_drew ?_ | refine blk_alloc ?_ _)); exact BK354.out⟩, ⟨by repeat (first | (with_reducible first | exact HB.out | apply below_alloc | apply pw_below_drewN | apply below_drew1 | refine below_set ?_ GE336.out | refine below_set ?_ GE337.out | refine below_set ?_ GE354.out) | exact HB.out)⟩⟩
          · replace c44 := Bool.eq_false_iff.mpr c44
            subst c44
            have H1 : (stockyardlaw03_PatternMeans.j1 kj3 t344 t348 false l0_0 a0_1 l1_0 a1_1) = some r := by rw [if_neg (show ¬ (false = true) by decide)] at H; exact H
            clear H
            have H := H1
            clear H1
            have H' := Aside0.mk H
            clear H
            go_wp2
            go_meet
            case rel => exact ⟨_, (false), (by first | rfl | (simp; done) | (simp [*]; done)), H', ⟨by have := HJ3.out; first | omega | exact Nat.le_refl _⟩, ⟨by (with_reducible repeat (first | apply Kd.R_alloc | apply Kd.R_drewN | apply Kd.R_drew)); exact Kd.R_mono (Kd.R_far (p := ⟨gb354, 1, none⟩) (Kd.R_far (p := ⟨gb354, 0, none⟩) (Kd.R_types HO351.out BK354.out (by decide)) (fun _ hk => hk.2) (.slice Ao40 t349.length co40)) (fun _ hk => hk.2) (.bool t352)) (fun _ hk => trivial)⟩, ⟨by (with_reducible repeat (first | refine blk_drewN ?_ _ | refine blk_drew ?_ | refine blk_alloc ?_ _)); refine blk_far ?_ NB336_354.out _; (with_reducible repeat (first | refine blk_drewN ?_ _ | refine blk_drew ?_ | refine blk_alloc ?_ _)); refine blk_far ?_ NB336_354.out _; (with_reducible repeat (first | refine blk_drewN ?_ _ | refine blk_drew ?_ | refine blk_alloc ?_ _)); exact BK336.out⟩, ⟨by (with_reducible repeat (first | refine blk_drewN ?_ _ | refine blk_drew ?_ | refine blk_alloc ?_ _)); refine blk_far ?_ NB337_354.out _; (with_reducible repeat (first | refine blk_drewN ?_ _ | refine blk_drew ?_ | refine blk_alloc ?_ _)); refine blk_far ?_ NB337_354.out _; (with_reducible repeat (first | refine blk_drewN ?_ _ | refine blk_drew ?_ | refine blk_alloc ?_ _)); exact BK337.out⟩, ⟨by (with_reducible repeat (first | refine blk_drewN ?_ _ | refine blk_drew ?_ | refine blk_alloc ?_ _)); refine blk_put (cs := #[.slice Ao40 t349.length co40, .bool false]) ?_ 1 _ rfl; (with_reducible repeat (first | refine blk_drewN ?_ _ | refine blk_drew ?_ | refine blk_alloc ?_ _)); refine blk_put (cs := #[.slice none 0 0, .bool false]) ?_ 0 _ rfl; (with_reducible repeat (first | refine blk_drewN ?_ _ | refine blk_drew ?_ | refine blk_alloc ?_ _)); exact BK354.out⟩, ⟨by repeat (first | (with_reducible first | exact HB.out | apply below_alloc | apply pw_below_drewN | apply below_drew1 | refine below_set ?_ GE336.out | refine below_set ?_ GE337.out | refine below_set ?_ GE354.out) | exact HB.out)⟩⟩
        case rest =>
          clear HC30
          try clear c1
          try clear c2
          try clear p2
          try clear c3
          try clear c4
          try clear c8
          try clear c10
          try clear c11
          try clear c12
          try clear c14
          try clear c16
          try clear c17
          try clear c21
          try clear c24
          try clear c31
          try clear c41
          try clear c42
          try clear c44
          try clear c46
          try clear c47
          try clear hcz12_0
          try clear hcz12_1
          try clear hcz14_0
          try clear hcz14_1
          try clear hcz17_0
          try clear hcz17_1
          try clear hcz19_0
          try clear hcz19_1
          try clear hcz22_0
          try clear hcz22_1
          try clear hcz32_0
          try clear hcz32_1
          try clear hcz34_0
          try clear hcz34_1
          try clear hcz36_0
          try clear hcz36_1
          try clear hcz37_0
          try clear hcz37_1
          try clear hcz43_0
          try clear hcz43_1
          try clear hcz48_0
          try clear hcz48_1
          try clear hfz12_0
          try clear hfz12_1
          try clear hfz14_0
          try clear hfz14_1
          try clear hfz17_0
          try clear hfz17_1
          try clear hfz19_0
          try clear hfz19_1
          try clear hfz22_0
          try clear hfz22_1
          try clear hfz32_0
          try clear hfz32_1
          try clear hfz34_0
          try clear hfz34_1
          try clear hfz36_0
          try clear hfz36_1
          try clear hfz37_0
          try clear hfz37_1
          try clear hfz43_0
          try clear hfz43_1
          try clear hfz48_0
          try clear hfz48_1
          try clear p2
          obtain ⟨kq, x13_29, rfl, HA, HJ29, HO_355000, BK336, BK337, BK354, HB⟩ := hcut
          cases kq with
          | zero => exact absurd HA.out (by simp [stockyardlaw03_PatternMeans.j1])
          | succ kj29 =>
            have H := HA.out
            clear HA
            simp only [stockyardlaw03_PatternMeans.j1] at H
            by_cases c50 : t344 = true
            · subst c50
              have H1 : (if (t348 != x13_29) = true then (some false) else ((pattern_Within.f kj29 l0_0 a0_1 l1_0 a1_1).bind fun t359 => (if t359 = true then (if t348 = true then ((stockyardlaw03_awake.f kj29).bind fun t360 => (some t360)) else (some false)) else ((stockyardlaw03_awake.f kj29).bind fun t361 => (some t361))))) = some r := by rw [if_pos rfl] at H; exact H
              clear H
              have H := H1
              clear H1
              by_cases c51 : (t348 != x13_29) = true
              · rw [if_pos c51] at H
                have c51b0 : (t348 != x13_29) = true := c51
                (try (have c51b1 : decide (t348 = x13_29) = false := by simpa using c51))
                (try (have c51b2 : (t348 == x13_29) = false := by simpa using c51))
                (try (have c51b3 : ¬ (t348 = x13_29) := by simpa using c51))
                clear c51
                obtain rfl := Option.some.inj H
                go_wp2
                go_ret
                exact ⟨by first | rfl | (simp [errW_none, errW_some] <;> rfl) | (simp [*, errW_none, errW_some] <;> rfl), by repeat (first | (with_reducible first | exact HB.out | apply below_alloc | apply pw_below_drewN | apply below_drew1 | refine below_set ?_ GE336.out | refine below_set ?_ GE337.out | refine below_set ?_ GE354.out) | exact HB.out)⟩
              · rw [if_neg c51] at H
                have c51b0 : (t348 != x13_29) = false := by simpa using c51
                (try (have c51b1 : decide (t348 = x13_29) = true := by simpa using c51))
                (try (have c51b2 : (t348 == x13_29) = true := by simpa using c51))
                clear c51
                replace H := Option.bind_eq_some_iff.mp H
                obtain ⟨t359, A520, H⟩ := H
                replace H : (if t359 = true then (if t348 = true then ((stockyardlaw03_awake.f kj29).bind fun t360 => (some t360)) else (some false)) else ((stockyardlaw03_awake.f kj29).bind fun t361 => (some t361))) = some r := H
                have A52 := Aside0.mk A520
                clear A520
                by_cases c53 : t359 = true
                · subst c53
                  have H1 : (if t348 = true then ((stockyardlaw03_awake.f kj29).bind fun t360 => (some t360)) else (some false)) = some r := by rw [if_pos rfl] at H; exact H
                  clear H
                  have H := H1
                  clear H1
                  by_cases c54 : t348 = true
                  · subst c54
                    have H1 : ((stockyardlaw03_awake.f kj29).bind fun t360 => (some t360)) = some r := by rw [if_pos rfl] at H; exact H
                    clear H
                    have H := H1
                    clear H1
                    replace H := Option.bind_eq_some_iff.mp H
                    obtain ⟨t360, A550, H⟩ := H
                    replace H : (some t360) = some r := H
                    have A55 := Aside0.mk A550
                    clear A550
                    obtain rfl := Option.some.inj H
                    have hnb56 := NB336_337.out
                    have hnc56 := NB337_336.out
                    have hnb57 := NB336_354.out
                    have hnc57 := NB354_336.out
                    have hcz58_0 : wc.cell? ⟨gb336, 0, none⟩ = some (.slice A0_0 l0_0.length c0_0) := (blk_cell BK336.out 0).trans rfl
                    have hcz58_1 : wc.cell? ⟨gb336, 1, none⟩ = some (.bool a0_1) := (blk_cell BK336.out 1).trans rfl
                    have hfz58_0 := blk_frozen BK336.out 0
                    have hfz58_1 := blk_frozen BK336.out 1
                    have hnb59 := NB337_354.out
                    have hnc59 := NB354_337.out
                    have hcz60_0 : wc.cell? ⟨gb337, 0, none⟩ = some (.slice A1_0 l1_0.length c1_0) := (blk_cell BK337.out 0).trans rfl
                    have hcz60_1 : wc.cell? ⟨gb337, 1, none⟩ = some (.bool a1_1) := (blk_cell BK337.out 1).trans rfl
                    have hfz60_0 := blk_frozen BK337.out 0
                    have hfz60_1 := blk_frozen BK337.out 1
                    go_wp2_with (first | (go_at_call 18; (with_reducible refine (pattern_Within.calls kj29 _ _ l0_0 a0_1 _ _ l1_0 a1_1 true _ ?side1 ?side2 ?side3 ?side4 A52.out).mono ?_); (case side1 => repeat (first | exact (Kd.C_below HR0_0.out HB.out) | (with_reducible refine Kd.C_alloc ?_ _) | (with_reducible refine Kd.C_drewN ?_ _) | (with_reducible refine Kd.C_drew ?_))); (case side2 => exact HC0_0.out); (case side3 => repeat (first | exact (Kd.C_below HR1_0.out HB.out) | (with_reducible refine Kd.C_alloc ?_ _) | (with_reducible refine Kd.C_drewN ?_ _) | (with_reducible refine Kd.C_drew ?_))); (case side4 => exact HC1_0.out); rintro e w61 ⟨rfl, hb⟩; have n0_ := Aside0.mk (Kd.R_below (by (with_reducible repeat (first | apply Kd.R_alloc | apply Kd.R_drewN | apply Kd.R_drew)); exact HO_355000.out) hb); have n1_ := Aside0.mk (blk_below (g := gb336) (o := .cells #[.slice A0_0 l0_0.length c0_0, .bool a0_1] 24 (0, 0)) (by (with_reducible repeat (first | refine blk_drewN ?_ _ | refine blk_drew ?_ | refine blk_alloc ?_ _)); exact BK336.out) hb); have n2_ := Aside0.mk (blk_below (g := gb337) (o := .cells #[.slice A1_0 l1_0.length c1_0, .bool a1_1] 24 (0, 0)) (by (with_reducible repeat (first | refine blk_drewN ?_ _ | refine blk_drew ?_ | refine blk_alloc ?_ _)); exact BK337.out) hb); have n3_ := Aside0.mk (blk_below (g := gb354) (o := .cells #[.slice Ao40 t349.length co40, .bool t352] 24 (0, 0)) (by (with_reducible repeat (first | refine blk_drewN ?_ _ | refine blk_drew ?_ | refine blk_alloc ?_ _)); exact BK354.out) hb); have n4_ := Aside0.mk (below_step (by repeat (first | (with_reducible first | exact HB.out | apply below_alloc | apply pw_below_drewN | apply below_drew1 | refine below_set ?_ GE336.out | refine below_set ?_ GE337.out | refine below_set ?_ GE354.out) | exact HB.out)) hb); clear HO_355000; clear BK336; clear BK337; clear BK354; clear HB; have HO_355000 := n0_; have BK336 := n1_; have BK337 := n2_; have BK354 := n3_; have HB := n4_; clear n0_ n1_ n2_ n3_ n4_; (try clear hb); (try clear hb2); (try clear hk); (try clear hi)) | ((with_reducible refine gate_callee (f := 12) rfl ?_); refine goesL_ (some 71) rfl rfl Tryd.func12 (by kernel_rfl) rfl #[] rfl (by (try simp only [List.map_toArray, List.map_cons, List.map_nil]); first | done | rfl | (simp only [List.length_drop, List.length_take]; rfl)) ?_; (with_reducible refine (stockyardlaw03_awake.calls kj29  t360 _ A55.out).mono ?_); rintro e w62 ⟨rfl, hb⟩; refine ⟨_, rfl, ?_⟩; have n0_ := Aside0.mk (Kd.R_below (by (with_reducible repeat (first | apply Kd.R_alloc | apply Kd.R_drewN | apply Kd.R_drew)); exact HO_355000.out) hb); have n1_ := Aside0.mk (blk_below (g := gb336) (o := .cells #[.slice A0_0 l0_0.length c0_0, .bool a0_1] 24 (0, 0)) (by (with_reducible repeat (first | refine blk_drewN ?_ _ | refine blk_drew ?_ | refine blk_alloc ?_ _)); exact BK336.out) hb); have n2_ := Aside0.mk (blk_below (g := gb337) (o := .cells #[.slice A1_0 l1_0.length c1_0, .bool a1_1] 24 (0, 0)) (by (with_reducible repeat (first | refine blk_drewN ?_ _ | refine blk_drew ?_ | refine blk_alloc ?_ _)); exact BK337.out) hb); have n3_ := Aside0.mk (blk_below (g := gb354) (o := .cells #[.slice Ao40 t349.length co40, .bool t352] 24 (0, 0)) (by (with_reducible repeat (first | refine blk_drewN ?_ _ | refine blk_drew ?_ | refine blk_alloc ?_ _)); exact BK354.out) hb); have n4_ := Aside0.mk (below_step (by repeat (first | (with_reducible first | exact HB.out | apply below_alloc | apply pw_below_drewN | apply below_drew1 | refine below_set ?_ GE336.out | refine below_set ?_ GE337.out | refine below_set ?_ GE354.out) | exact HB.out)) hb); clear HO_355000; clear BK336; clear BK337; clear BK354; clear HB; have HO_355000 := n0_; have BK336 := n1_; have BK337 := n2_; have BK354 := n3_; have HB := n4_; clear n0_ n1_ n2_ n3_ n4_; (try clear hb); (try clear hb2); (try clear hk); (try clear hi)))
                    go_ret
                    exact ⟨by first | rfl | (simp [errW_none, errW_some] <;> rfl) | (simp [*, errW_none, errW_some] <;> rfl), by repeat (first | (with_reducible first | exact HB.out | apply below_alloc | apply pw_below_drewN | apply below_drew1 | refine below_set ?_ GE336.out | refine below_set ?_ GE337.out | refine below_set ?_ GE354.out) | exact HB.out)⟩
                  · replace c54 := Bool.eq_false_iff.mpr c54
                    subst c54
                    have H1 : (some false) = some r := by rw [if_neg (show ¬ (false = true) by decide)] at H; exact H
                    clear H
                    have H := H1
                    clear H1
                    obtain rfl := Option.some.inj H
                    have hnb63 := NB336_337.out
                    have hnc63 := NB337_336.out
                    have hnb64 := NB336_354.out
                    have hnc64 := NB354_336.out
                    have hcz65_0 : wc.cell? ⟨gb336, 0, none⟩ = some (.slice A0_0 l0_0.length c0_0) := (blk_cell BK336.out 0).trans rfl
                    have hcz65_1 : wc.cell? ⟨gb336, 1, none⟩ = some (.bool a0_1) := (blk_cell BK336.out 1).trans rfl
                    have hfz65_0 := blk_frozen BK336.out 0
                    have hfz65_1 := blk_frozen BK336.out 1
                    have hnb66 := NB337_354.out
                    have hnc66 := NB354_337.out
                    have hcz67_0 : wc.cell? ⟨gb337, 0, none⟩ = some (.slice A1_0 l1_0.length c1_0) := (blk_cell BK337.out 0).trans rfl
                    have hcz67_1 : wc.cell? ⟨gb337, 1, none⟩ = some (.bool a1_1) := (blk_cell BK337.out 1).trans rfl
                    have hfz67_0 := blk_frozen BK337.out 0
                    have hfz67_1 := blk_frozen BK337.out 1
                    go_wp2_with (first | (go_at_call 18; (with_reducible refine (pattern_Within.calls kj29 _ _ l0_0 a0_1 _ _ l1_0 a1_1 true _ ?side1 ?side2 ?side3 ?side4 A52.out).mono ?_); (case side1 => repeat (first | exact (Kd.C_below HR0_0.out HB.out) | (with_reducible refine Kd.C_alloc ?_ _) | (with_reducible refine Kd.C_drewN ?_ _) | (with_reducible refine Kd.C_drew ?_))); (case side2 => exact HC0_0.out); (case side3 => repeat (first | exact (Kd.C_below HR1_0.out HB.out) | (with_reducible refine Kd.C_alloc ?_ _) | (with_reducible refine Kd.C_drewN ?_ _) | (with_reducible refine Kd.C_drew ?_))); (case side4 => exact HC1_0.out); rintro e w68 ⟨rfl, hb⟩; have n0_ := Aside0.mk (Kd.R_below (by (with_reducible repeat (first | apply Kd.R_alloc | apply Kd.R_drewN | apply Kd.R_drew)); exact HO_355000.out) hb); have n1_ := Aside0.mk (blk_below (g := gb336) (o := .cells #[.slice A0_0 l0_0.length c0_0, .bool a0_1] 24 (0, 0)) (by (with_reducible repeat (first | refine blk_drewN ?_ _ | refine blk_drew ?_ | refine blk_alloc ?_ _)); exact BK336.out) hb); have n2_ := Aside0.mk (blk_below (g := gb337) (o := .cells #[.slice A1_0 l1_0.length c1_0, .bool a1_1] 24 (0, 0)) (by (with_reducible repeat (first | refine blk_drewN ?_ _ | refine blk_drew ?_ | refine blk_alloc ?_ _)); exact BK337.out) hb); have n3_ := Aside0.mk (blk_below (g := gb354) (o := .cells #[.slice Ao40 t349.length co40, .bool t352] 24 (0, 0)) (by (with_reducible repeat (first | refine blk_drewN ?_ _ | refine blk_drew ?_ | refine blk_alloc ?_ _)); exact BK354.out) hb); have n4_ := Aside0.mk (below_step (by repeat (first | (with_reducible first | exact HB.out | apply below_alloc | apply pw_below_drewN | apply below_drew1 | refine below_set ?_ GE336.out | refine below_set ?_ GE337.out | refine below_set ?_ GE354.out) | exact HB.out)) hb); clear HO_355000; clear BK336; clear BK337; clear BK354; clear HB; have HO_355000 := n0_; have BK336 := n1_; have BK337 := n2_; have BK354 := n3_; have HB := n4_; clear n0_ n1_ n2_ n3_ n4_; (try clear hb); (try clear hb2); (try clear hk); (try clear hi)))
                    go_ret
                    exact ⟨by first | rfl | (simp [errW_none, errW_some] <;> rfl) | (simp [*, errW_none, errW_some] <;> rfl), by repeat (first | (with_reducible first | exact HB.out | apply below_alloc | apply pw_below_drewN | apply below_drew1 | refine below_set ?_ GE336.out | refine below_set ?_ GE337.out | refine below_set ?_ GE354.out) | exact HB.out)⟩
                · replace c53 := Bool.eq_false_iff.mpr c53
                  subst c53
                  have H1 : ((stockyardlaw03_awake.f kj29).bind fun t361 => (some t361)) = some r := by rw [if_neg (show ¬ (false = true) by decide)] at H; exact H
                  clear H
                  have H := H1
                  clear H1
                  replace H := Option.bind_eq_some_iff.mp H
                  obtain ⟨t361, A690, H⟩ := H
                  replace H : (some t361) = some r := H
                  have A69 := Aside0.mk A690
                  clear A690
                  obtain rfl := Option.some.inj H
                  have hnb70 := NB336_337.out
                  have hnc70 := NB337_336.out
                  have hnb71 := NB336_354.out
                  have hnc71 := NB354_336.out
                  have hcz72_0 : wc.cell? ⟨gb336, 0, none⟩ = some (.slice A0_0 l0_0.length c0_0) := (blk_cell BK336.out 0).trans rfl
                  have hcz72_1 : wc.cell? ⟨gb336, 1, none⟩ = some (.bool a0_1) := (blk_cell BK336.out 1).trans rfl
                  have hfz72_0 := blk_frozen BK336.out 0
                  have hfz72_1 := blk_frozen BK336.out 1
                  have hnb73 := NB337_354.out
                  have hnc73 := NB354_337.out
                  have hcz74_0 : wc.cell? ⟨gb337, 0, none⟩ = some (.slice A1_0 l1_0.length c1_0) := (blk_cell BK337.out 0).trans rfl
                  have hcz74_1 : wc.cell? ⟨gb337, 1, none⟩ = some (.bool a1_1) := (blk_cell BK337.out 1).trans rfl
                  have hfz74_0 := blk_frozen BK337.out 0
                  have hfz74_1 := blk_frozen BK337.out 1
                  go_wp2_with (first | (go_at_call 18; (with_reducible refine (pattern_Within.calls kj29 _ _ l0_0 a0_1 _ _ l1_0 a1_1 false _ ?side1 ?side2 ?side3 ?side4 A52.out).mono ?_); (case side1 => repeat (first | exact (Kd.C_below HR0_0.out HB.out) | (with_reducible refine Kd.C_alloc ?_ _) | (with_reducible refine Kd.C_drewN ?_ _) | (with_reducible refine Kd.C_drew ?_))); (case side2 => exact HC0_0.out); (case side3 => repeat (first | exact (Kd.C_below HR1_0.out HB.out) | (with_reducible refine Kd.C_alloc ?_ _) | (with_reducible refine Kd.C_drewN ?_ _) | (with_reducible refine Kd.C_drew ?_))); (case side4 => exact HC1_0.out); rintro e w75 ⟨rfl, hb⟩; have n0_ := Aside0.mk (Kd.R_below (by (with_reducible repeat (first | apply Kd.R_alloc | apply Kd.R_drewN | apply Kd.R_drew)); exact HO_355000.out) hb); have n1_ := Aside0.mk (blk_below (g := gb336) (o := .cells #[.slice A0_0 l0_0.length c0_0, .bool a0_1] 24 (0, 0)) (by (with_reducible repeat (first | refine blk_drewN ?_ _ | refine blk_drew ?_ | refine blk_alloc ?_ _)); exact BK336.out) hb); have n2_ := Aside0.mk (blk_below (g := gb337) (o := .cells #[.slice A1_0 l1_0.length c1_0, .bool a1_1] 24 (0, 0)) (by (with_reducible repeat (first | refine blk_drewN ?_ _ | refine blk_drew ?_ | refine blk_alloc ?_ _)); exact BK337.out) hb); have n3_ := Aside0.mk (blk_below (g := gb354) (o := .cells #[.slice Ao40 t349.length co40, .bool t352] 24 (0, 0)) (by (with_reducible repeat (first | refine blk_drewN ?_ _ | refine blk_drew ?_ | refine blk_alloc ?_ _)); exact BK354.out) hb); have n4_ := Aside0.mk (below_step (by repeat (first | (with_reducible first | exact HB.out | apply below_alloc | apply pw_below_drewN | apply below_drew1 | refine below_set ?_ GE336.out | refine below_set ?_ GE337.out | refine below_set ?_ GE354.out) | exact HB.out)) hb); clear HO_355000; clear BK336; clear BK337; clear BK354; clear HB; have HO_355000 := n0_; have BK336 := n1_; have BK337 := n2_; have BK354 := n3_; have HB := n4_; clear n0_ n1_ n2_ n3_ n4_; (try clear hb); (try clear hb2); (try clear hk); (try clear hi)) | ((with_reducible refine gate_callee (f := 12) rfl ?_); refine goesL_ (some 71) rfl rfl Tryd.func12 (by kernel_rfl) rfl #[] rfl (by (try simp only [List.map_toArray, List.map_cons, List.map_nil]); first | done | rfl | (simp only [List.length_drop, List.length_take]; rfl)) ?_; (with_reducible refine (stockyardlaw03_awake.calls kj29  t361 _ A69.out).mono ?_); rintro e w76 ⟨rfl, hb⟩; refine ⟨_, rfl, ?_⟩; have n0_ := Aside0.mk (Kd.R_below (by (with_reducible repeat (first | apply Kd.R_alloc | apply Kd.R_drewN | apply Kd.R_drew)); exact HO_355000.out) hb); have n1_ := Aside0.mk (blk_below (g := gb336) (o := .cells #[.slice A0_0 l0_0.length c0_0, .bool a0_1] 24 (0, 0)) (by (with_reducible repeat (first | refine blk_drewN ?_ _ | refine blk_drew ?_ | refine blk_alloc ?_ _)); exact BK336.out) hb); have n2_ := Aside0.mk (blk_below (g := gb337) (o := .cells #[.slice A1_0 l1_0.length c1_0, .bool a1_1] 24 (0, 0)) (by (with_reducible repeat (first | refine blk_drewN ?_ _ | refine blk_drew ?_ | refine blk_alloc ?_ _)); exact BK337.out) hb); have n3_ := Aside0.mk (blk_below (g := gb354) (o := .cells #[.slice Ao40 t349.length co40, .bool t352] 24 (0, 0)) (by (with_reducible repeat (first | refine blk_drewN ?_ _ | refine blk_drew ?_ | refine blk_alloc ?_ _)); exact BK354.out) hb); have n4_ := Aside0.mk (below_step (by repeat (first | (with_reducible first | exact HB.out | apply below_alloc | apply pw_below_drewN | apply below_drew1 | refine below_set ?_ GE336.out | refine below_set ?_ GE337.out | refine below_set ?_ GE354.out) | exact HB.out)) hb); clear HO_355000; clear BK336; clear BK337; clear BK354; clear HB; have HO_355000 := n0_; have BK336 := n1_; have BK337 := n2_; have BK354 := n3_; have HB := n4_; clear n0_ n1_ n2_ n3_ n4_; (try clear hb); (try clear hb2); (try clear hk); (try clear hi)))
                  go_ret
                  exact ⟨by first | rfl | (simp [errW_none, errW_some] <;> rfl) | (simp [*, errW_none, errW_some] <;> rfl), by repeat (first | (with_reducible first | exact HB.out | apply below_alloc | apply pw_below_drewN | apply below_drew1 | refine below_set ?_ GE336.out | refine below_set ?_ GE337.out | refine below_set ?_ GE354.out) | exact HB.out)⟩
            · replace c50 := Bool.eq_false_iff.mpr c50
              subst c50
              have H1 : (if (false != x13_29) = true then (some false) else ((pattern_Within.f kj29 l0_0 a0_1 l1_0 a1_1).bind fun t362 => (if t362 = true then ((stockyardlaw03_awake.f kj29).bind fun t363 => (some t363)) else ((stockyardlaw03_awake.f kj29).bind fun t364 => (some t364))))) = some r := by rw [if_neg (show ¬ (false = true) by decide)] at H; exact H
              clear H
              have H := H1
              clear H1
              by_cases c77 : (false != x13_29) = true
              · rw [if_pos c77] at H
                have c77b0 : (false != x13_29) = true := c77
                (try (have c77b1 : decide (false = x13_29) = false := by simpa using c77))
                (try (have c77b2 : (false == x13_29) = false := by simpa using c77))
                (try (have c77b3 : ¬ (false = x13_29) := by simpa using c77))
                clear c77
                obtain rfl := Option.some.inj H
                go_wp2
                go_ret
                exact ⟨by first | rfl | (simp [errW_none, errW_some] <;> rfl) | (simp [*, errW_none, errW_some] <;> rfl), by repeat (first | (with_reducible first | exact HB.out | apply below_alloc | apply pw_below_drewN | apply below_drew1 | refine below_set ?_ GE336.out | refine below_set ?_ GE337.out | refine below_set ?_ GE354.out) | exact HB.out)⟩
              · rw [if_neg c77] at H
                have c77b0 : (false != x13_29) = false := by simpa using c77
                (try (have c77b1 : decide (false = x13_29) = true := by simpa using c77))
                (try (have c77b2 : (false == x13_29) = true := by simpa using c77))
                clear c77
                replace H := Option.bind_eq_some_iff.mp H
                obtain ⟨t362, A780, H⟩ := H
                replace H : (if t362 = true then ((stockyardlaw03_awake.f kj29).bind fun t363 => (some t363)) else ((stockyardlaw03_awake.f kj29).bind fun t364 => (some t364))) = some r := H
                have A78 := Aside0.mk A780
                clear A780
                by_cases c79 : t362 = true
                · subst c79
                  have H1 : ((stockyardlaw03_awake.f kj29).bind fun t363 => (some t363)) = some r := by rw [if_pos rfl] at H; exact H
                  clear H
                  have H := H1
                  clear H1
                  replace H := Option.bind_eq_some_iff.mp H
                  obtain ⟨t363, A800, H⟩ := H
                  replace H : (some t363) = some r := H
                  have A80 := Aside0.mk A800
                  clear A800
                  obtain rfl := Option.some.inj H
                  have hnb81 := NB336_337.out
                  have hnc81 := NB337_336.out
                  have hnb82 := NB336_354.out
                  have hnc82 := NB354_336.out
                  have hcz83_0 : wc.cell? ⟨gb336, 0, none⟩ = some (.slice A0_0 l0_0.length c0_0) := (blk_cell BK336.out 0).trans rfl
                  have hcz83_1 : wc.cell? ⟨gb336, 1, none⟩ = some (.bool a0_1) := (blk_cell BK336.out 1).trans rfl
                  have hfz83_0 := blk_frozen BK336.out 0
                  have hfz83_1 := blk_frozen BK336.out 1
                  have hnb84 := NB337_354.out
                  have hnc84 := NB354_337.out
                  have hcz85_0 : wc.cell? ⟨gb337, 0, none⟩ = some (.slice A1_0 l1_0.length c1_0) := (blk_cell BK337.out 0).trans rfl
                  have hcz85_1 : wc.cell? ⟨gb337, 1, none⟩ = some (.bool a1_1) := (blk_cell BK337.out 1).trans rfl
                  have hfz85_0 := blk_frozen BK337.out 0
                  have hfz85_1 := blk_frozen BK337.out 1
                  go_wp2_with (first | (go_at_call 18; (with_reducible refine (pattern_Within.calls kj29 _ _ l0_0 a0_1 _ _ l1_0 a1_1 true _ ?side1 ?side2 ?side3 ?side4 A78.out).mono ?_); (case side1 => repeat (first | exact (Kd.C_below HR0_0.out HB.out) | (with_reducible refine Kd.C_alloc ?_ _) | (with_reducible refine Kd.C_drewN ?_ _) | (with_reducible refine Kd.C_drew ?_))); (case side2 => exact HC0_0.out); (case side3 => repeat (first | exact (Kd.C_below HR1_0.out HB.out) | (with_reducible refine Kd.C_alloc ?_ _) | (with_reducible refine Kd.C_drewN ?_ _) | (with_reducible refine Kd.C_drew ?_))); (case side4 => exact HC1_0.out); rintro e w86 ⟨rfl, hb⟩; have n0_ := Aside0.mk (Kd.R_below (by (with_reducible repeat (first | apply Kd.R_alloc | apply Kd.R_drewN | apply Kd.R_drew)); exact HO_355000.out) hb); have n1_ := Aside0.mk (blk_below (g := gb336) (o := .cells #[.slice A0_0 l0_0.length c0_0, .bool a0_1] 24 (0, 0)) (by (with_reducible repeat (first | refine blk_drewN ?_ _ | refine blk_drew ?_ | refine blk_alloc ?_ _)); exact BK336.out) hb); have n2_ := Aside0.mk (blk_below (g := gb337) (o := .cells #[.slice A1_0 l1_0.length c1_0, .bool a1_1] 24 (0, 0)) (by (with_reducible repeat (first | refine blk_drewN ?_ _ | refine blk_drew ?_ | refine blk_alloc ?_ _)); exact BK337.out) hb); have n3_ := Aside0.mk (blk_below (g := gb354) (o := .cells #[.slice Ao40 t349.length co40, .bool t352] 24 (0, 0)) (by (with_reducible repeat (first | refine blk_drewN ?_ _ | refine blk_drew ?_ | refine blk_alloc ?_ _)); exact BK354.out) hb); have n4_ := Aside0.mk (below_step (by repeat (first | (with_reducible first | exact HB.out | apply below_alloc | apply pw_below_drewN | apply below_drew1 | refine below_set ?_ GE336.out | refine below_set ?_ GE337.out | refine below_set ?_ GE354.out) | exact HB.out)) hb); clear HO_355000; clear BK336; clear BK337; clear BK354; clear HB; have HO_355000 := n0_; have BK336 := n1_; have BK337 := n2_; have BK354 := n3_; have HB := n4_; clear n0_ n1_ n2_ n3_ n4_; (try clear hb); (try clear hb2); (try clear hk); (try clear hi)) | ((with_reducible refine gate_callee (f := 12) rfl ?_); refine goesL_ (some 71) rfl rfl Tryd.func12 (by kernel_rfl) rfl #[] rfl (by (try simp only [List.map_toArray, List.map_cons, List.map_nil]); first | done | rfl | (simp only [List.length_drop, List.length_take]; rfl)) ?_; (with_reducible refine (stockyardlaw03_awake.calls kj29  t363 _ A80.out).mono ?_); rintro e w87 ⟨rfl, hb⟩; refine ⟨_, rfl, ?_⟩; have n0_ := Aside0.mk (Kd.R_below (by (with_reducible repeat (first | apply Kd.R_alloc | apply Kd.R_drewN | apply Kd.R_drew)); exact HO_355000.out) hb); have n1_ := Aside0.mk (blk_below (g := gb336) (o := .cells #[.slice A0_0 l0_0.length c0_0, .bool a0_1] 24 (0, 0)) (by (with_reducible repeat (first | refine blk_drewN ?_ _ | refine blk_drew ?_ | refine blk_alloc ?_ _)); exact BK336.out) hb); have n2_ := Aside0.mk (blk_below (g := gb337) (o := .cells #[.slice A1_0 l1_0.length c1_0, .bool a1_1] 24 (0, 0)) (by (with_reducible repeat (first | refine blk_drewN ?_ _ | refine blk_drew ?_ | refine blk_alloc ?_ _)); exact BK337.out) hb); have n3_ := Aside0.mk (blk_below (g := gb354) (o := .cells #[.slice Ao40 t349.length co40, .bool t352] 24 (0, 0)) (by (with_reducible repeat (first | refine blk_drewN ?_ _ | refine blk_drew ?_ | refine blk_alloc ?_ _)); exact BK354.out) hb); have n4_ := Aside0.mk (below_step (by repeat (first | (with_reducible first | exact HB.out | apply below_alloc | apply pw_below_drewN | apply below_drew1 | refine below_set ?_ GE336.out | refine below_set ?_ GE337.out | refine below_set ?_ GE354.out) | exact HB.out)) hb); clear HO_355000; clear BK336; clear BK337; clear BK354; clear HB; have HO_355000 := n0_; have BK336 := n1_; have BK337 := n2_; have BK354 := n3_; have HB := n4_; clear n0_ n1_ n2_ n3_ n4_; (try clear hb); (try clear hb2); (try clear hk); (try clear hi)))
                  go_ret
                  exact ⟨by first | rfl | (simp [errW_none, errW_some] <;> rfl) | (simp [*, errW_none, errW_some] <;> rfl), by repeat (first | (with_reducible first | exact HB.out | apply below_alloc | apply pw_below_drewN | apply below_drew1 | refine below_set ?_ GE336.out | refine below_set ?_ GE337.out | refine below_set ?_ GE354.out) | exact HB.out)⟩
                · replace c79 := Bool.eq_false_iff.mpr c79
                  subst c79
                  have H1 : ((stockyardlaw03_awake.f kj29).bind fun t364 => (some t364)) = some r := by rw [if_neg (show ¬ (false = true) by decide)] at H; exact H
                  clear H
                  have H := H1
                  clear H1
                  replace H := Option.bind_eq_some_iff.mp H
                  obtain ⟨t364, A880, H⟩ := H
                  replace H : (some t364) = some r := H
                  have A88 := Aside0.mk A880
                  clear A880
                  obtain rfl := Option.some.inj H
                  have hnb89 := NB336_337.out
                  have hnc89 := NB337_336.out
                  have hnb90 := NB336_354.out
                  have hnc90 := NB354_336.out
                  have hcz91_0 : wc.cell? ⟨gb336, 0, none⟩ = some (.slice A0_0 l0_0.length c0_0) := (blk_cell BK336.out 0).trans rfl
                  have hcz91_1 : wc.cell? ⟨gb336, 1, none⟩ = some (.bool a0_1) := (blk_cell BK336.out 1).trans rfl
                  have hfz91_0 := blk_frozen BK336.out 0
                  have hfz91_1 := blk_frozen BK336.out 1
                  have hnb92 := NB337_354.out
                  have hnc92 := NB354_337.out
                  have hcz93_0 : wc.cell? ⟨gb337, 0, none⟩ = some (.slice A1_0 l1_0.length c1_0) := (blk_cell BK337.out 0).trans rfl
                  have hcz93_1 : wc.cell? ⟨gb337, 1, none⟩ = some (.bool a1_1) := (blk_cell BK337.out 1).trans rfl
                  have hfz93_0 := blk_frozen BK337.out 0
                  have hfz93_1 := blk_frozen BK337.out 1
                  go_wp2_with (first | (go_at_call 18; (with_reducible refine (pattern_Within.calls kj29 _ _ l0_0 a0_1 _ _ l1_0 a1_1 false _ ?side1 ?side2 ?side3 ?side4 A78.out).mono ?_); (case side1 => repeat (first | exact (Kd.C_below HR0_0.out HB.out) | (with_reducible refine Kd.C_alloc ?_ _) | (with_reducible refine Kd.C_drewN ?_ _) | (with_reducible refine Kd.C_drew ?_))); (case side2 => exact HC0_0.out); (case side3 => repeat (first | exact (Kd.C_below HR1_0.out HB.out) | (with_reducible refine Kd.C_alloc ?_ _) | (with_reducible refine Kd.C_drewN ?_ _) | (with_reducible refine Kd.C_drew ?_))); (case side4 => exact HC1_0.out); rintro e w94 ⟨rfl, hb⟩; have n0_ := Aside0.mk (Kd.R_below (by (with_reducible repeat (first | apply Kd.R_alloc | apply Kd.R_drewN | apply Kd.R_drew)); exact HO_355000.out) hb); have n1_ := Aside0.mk (blk_below (g := gb336) (o := .cells #[.slice A0_0 l0_0.length c0_0, .bool a0_1] 24 (0, 0)) (by (with_reducible repeat (first | refine blk_drewN ?_ _ | refine blk_drew ?_ | refine blk_alloc ?_ _)); exact BK336.out) hb); have n2_ := Aside0.mk (blk_below (g := gb337) (o := .cells #[.slice A1_0 l1_0.length c1_0, .bool a1_1] 24 (0, 0)) (by (with_reducible repeat (first | refine blk_drewN ?_ _ | refine blk_drew ?_ | refine blk_alloc ?_ _)); exact BK337.out) hb); have n3_ := Aside0.mk (blk_below (g := gb354) (o := .cells #[.slice Ao40 t349.length co40, .bool t352] 24 (0, 0)) (by (with_reducible repeat (first | refine blk_drewN ?_ _ | refine blk_drew ?_ | refine blk_alloc ?_ _)); exact BK354.out) hb); have n4_ := Aside0.mk (below_step (by repeat (first | (with_reducible first | exact HB.out | apply below_alloc | apply pw_below_drewN | apply below_drew1 | refine below_set ?_ GE336.out | refine below_set ?_ GE337.out | refine below_set ?_ GE354.out) | exact HB.out)) hb); clear HO_355000; clear BK336; clear BK337; clear BK354; clear HB; have HO_355000 := n0_; have BK336 := n1_; have BK337 := n2_; have BK354 := n3_; have HB := n4_; clear n0_ n1_ n2_ n3_ n4_; (try clear hb); (try clear hb2); (try clear hk); (try clear hi)) | ((with_reducible refine gate_callee (f := 12) rfl ?_); refine goesL_ (some 71) rfl rfl Tryd.func12 (by kernel_rfl) rfl #[] rfl (by (try simp only [List.map_toArray, List.map_cons, List.map_nil]); first | done | rfl | (simp only [List.length_drop, List.length_take]; rfl)) ?_; (with_reducible refine (stockyardlaw03_awake.calls kj29  t364 _ A88.out).mono ?_); rintro e w95 ⟨rfl, hb⟩; refine ⟨_, rfl, ?_⟩; have n0_ := Aside0.mk (Kd.R_below (by (with_reducible repeat (first | apply Kd.R_alloc | apply Kd.R_drewN | apply Kd.R_drew)); exact HO_355000.out) hb); have n1_ := Aside0.mk (blk_below (g := gb336) (o := .cells #[.slice A0_0 l0_0.length c0_0, .bool a0_1] 24 (0, 0)) (by (with_reducible repeat (first | refine blk_drewN ?_ _ | refine blk_drew ?_ | refine blk_alloc ?_ _)); exact BK336.out) hb); have n2_ := Aside0.mk (blk_below (g := gb337) (o := .cells #[.slice A1_0 l1_0.length c1_0, .bool a1_1] 24 (0, 0)) (by (with_reducible repeat (first | refine blk_drewN ?_ _ | refine blk_drew ?_ | refine blk_alloc ?_ _)); exact BK337.out) hb); have n3_ := Aside0.mk (blk_below (g := gb354) (o := .cells #[.slice Ao40 t349.length co40, .bool t352] 24 (0, 0)) (by (with_reducible repeat (first | refine blk_drewN ?_ _ | refine blk_drew ?_ | refine blk_alloc ?_ _)); exact BK354.out) hb); have n4_ := Aside0.mk (below_step (by repeat (first | (with_reducible first | exact HB.out | apply below_alloc | apply pw_below_drewN | apply below_drew1 | refine below_set ?_ GE336.out | refine below_set ?_ GE337.out | refine below_set ?_ GE354.out) | exact HB.out)) hb); clear HO_355000; clear BK336; clear BK337; clear BK354; clear HB; have HO_355000 := n0_; have BK336 := n1_; have BK337 := n2_; have BK354 := n3_; have HB := n4_; clear n0_ n1_ n2_ n3_ n4_; (try clear hb); (try clear hb2); (try clear hk); (try clear hi)))
                  go_ret
                  exact ⟨by first | rfl | (simp [errW_none, errW_some] <;> rfl) | (simp [*, errW_none, errW_some] <;> rfl), by repeat (first | (with_reducible first | exact HB.out | apply below_alloc | apply pw_below_drewN | apply below_drew1 | refine below_set ?_ GE336.out | refine below_set ?_ GE337.out | refine below_set ?_ GE354.out) | exact HB.out)⟩

end Go.Proofs.YtcpnmcbgcgkieaaDoor.P

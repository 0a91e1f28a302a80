-- Written by a program of this session (wip/gen.py) over the kit's print: each Go function as a plain Lean function, and the proof that the Go code comes to it. Nothing here is trusted: Lean checks it.
import Derived.Test.YtcpnmcbgcgkieaaDoorWLate
import Derived.Test.YtcpnmcbgcgkieaaDoorPx0
import Derived.Test.YtcpnmcbgcgkieaaDoorPx1
import Derived.Test.YtcpnmcbgcgkieaaDoorPx2
import Derived.Test.YtcpnmcbgcgkieaaDoorPx3
import Derived.Test.YtcpnmcbgcgkieaaDoorPx4
import Derived.Test.YtcpnmcbgcgkieaaDoorPx7
namespace Go.Proofs.YtcpnmcbgcgkieaaDoor.P
open Go.RowKit Go.Proofs.YtcpnmcbgcgkieaaDoorW.PrintWords Go.Proofs.YtcpnmcbgcgkieaaDoorW.PrintLast Go.Proofs.YtcpnmcbgcgkieaaDoorW.PrintMore
attribute [local go_sem] str_gtr str_leq str_geq max2_int min2_int max_two min_two max_three min_three max_four min_four   -- for this text's walks alone
set_option linter.unusedVariables false
set_option linter.unusedSimpArgs false

/-! ### stockyardlaw03_PatternMeets: function 3 -/
theorem hb_a {P : Prop} (p : P := by repeat (first | (with_reducible first | exact HB.out | apply below_alloc | apply pw_below_drewN | apply below_drew1 | refine below_set ?_ (Aside0.out (by assumption))) | exact HB.out)) : P := p
theorem bk_a {P : Prop} (p : P := by (with_reducible repeat (first | refine blk_drewN ?_ _ | refine blk_drew ?_ | refine blk_alloc ?_ _)); exact Aside0.out (by assumption)) : P := p
def stockyardlaw03_PatternMeets.j0 : Nat → Bool → List ByteArray → Bool → List ByteArray → Bool → Option (Bool)
  | 0, _, _, _, _, _ => none
  | k + 1, x18, x296000, x296001, x297000, x297001 => if x18 = true then ((stockyardlaw03_awake.f k).bind fun t299 => (some t299)) else ((stockyardlaw03_copied.f x296000 x296001).bind fun bt300 => ((stockyardlaw03_copied.f x297000 x297001).bind fun bt304 => ((pattern_Meet.f k x296000 x296001 x297000 x297001).bind fun bt310 => ((stockyardref03_Meet.f k x296000 x296001 x297000 x297001).bind fun bt316 => (if (bt310.2.2 == bt316.2.2) = true then ((stockyardref03_Same.f k bt310.1 bt310.2.1 bt316.1 bt316.2.1).bind fun t322 => (if t322 = true then ((stockyardref03_Same.f k x296000 x296001 bt300.1 bt300.2).bind fun t323 => (if t323 = true then ((stockyardref03_Same.f k x297000 x297001 bt304.1 bt304.2).bind fun t324 => (if t324 = true then ((stockyardlaw03_awake.f k).bind fun t325 => (some t325)) else (some false))) else (some false))) else (some false))) else (some false))))))
def stockyardlaw03_PatternMeets.f (k : Nat) (l0_0 : List ByteArray) (a0_1 : Bool) (l1_0 : List ByteArray) (a1_1 : Bool) : Option (Bool) := (stockyardlaw03_small.f k l0_0 a0_1).bind fun t297 => (if t297 = true then ((stockyardlaw03_small.f k l1_0 a1_1).bind fun t298 => (stockyardlaw03_PatternMeets.j0 k (!t298) l0_0 a0_1 l1_0 a1_1)) else (stockyardlaw03_PatternMeets.j0 k true l0_0 a0_1 l1_0 a1_1))
theorem stockyardlaw03_PatternMeets.mono_l : ∀ k, (∀ y0 y1 y2 y3 y4, LeO (stockyardlaw03_PatternMeets.j0 k y0 y1 y2 y3 y4) (stockyardlaw03_PatternMeets.j0 (k + 1) y0 y1 y2 y3 y4))
  | 0 => fun _ _ _ _ _ r h => by simp [stockyardlaw03_PatternMeets.j0] at h
  | k + 1 => by
    have ih0 := stockyardlaw03_PatternMeets.mono_l k
    · intro y0 y1 y2 y3 y4
      unfold stockyardlaw03_PatternMeets.j0
      repeat' first
      | (with_reducible exact ih0 _ _ _ _ _)
      | (with_reducible exact pattern_Meet.mono _ _ _ _ _)
      | (with_reducible exact stockyardlaw03_awake.mono _)
      | (with_reducible exact stockyardlaw03_small.mono _ _ _)
      | (with_reducible exact stockyardref03_Meet.mono _ _ _ _ _)
      | (with_reducible exact stockyardref03_Same.mono _ _ _ _ _)
      | (with_reducible exact LeO.refl _)
      | (with_reducible exact LeO.none _)
      | (with_reducible refine LeO.ite ?_ ?_)
      | (with_reducible refine LeO.bind ?_ (fun _ => ?_))
      | exact ih0 _ _ _ _ _
      | exact pattern_Meet.mono _ _ _ _ _
      | exact stockyardlaw03_awake.mono _
      | exact stockyardlaw03_small.mono _ _ _
      | exact stockyardref03_Meet.mono _ _ _ _ _
      | exact stockyardref03_Same.mono _ _ _ _ _
      | exact LeO.none _
      | refine LeO.ite ?_ ?_
      | refine LeO.bind ?_ (fun _ => ?_)
theorem stockyardlaw03_PatternMeets.mono : ∀ a0 a1 a2 a3 k, LeO (stockyardlaw03_PatternMeets.f k a0 a1 a2 a3) (stockyardlaw03_PatternMeets.f (k + 1) a0 a1 a2 a3) := by
  intro a0 a1 a2 a3 k
  have ih0 := stockyardlaw03_PatternMeets.mono_l k
  unfold stockyardlaw03_PatternMeets.f
  repeat' first
      | (with_reducible exact ih0 _ _ _ _ _)
      | (with_reducible exact pattern_Meet.mono _ _ _ _ _)
      | (with_reducible exact stockyardlaw03_awake.mono _)
      | (with_reducible exact stockyardlaw03_small.mono _ _ _)
      | (with_reducible exact stockyardref03_Meet.mono _ _ _ _ _)
      | (with_reducible exact stockyardref03_Same.mono _ _ _ _ _)
      | (with_reducible exact LeO.refl _)
      | (with_reducible exact LeO.none _)
      | (with_reducible refine LeO.ite ?_ ?_)
      | (with_reducible refine LeO.bind ?_ (fun _ => ?_))
      | exact ih0 _ _ _ _ _
      | exact pattern_Meet.mono _ _ _ _ _
      | exact stockyardlaw03_awake.mono _
      | exact stockyardlaw03_small.mono _ _ _
      | exact stockyardref03_Meet.mono _ _ _ _ _
      | exact stockyardref03_Same.mono _ _ _ _ _
      | exact LeO.none _
      | refine LeO.ite ?_ ?_
      | refine LeO.bind ?_ (fun _ => ?_)
def stockyardlaw03_PatternMeets.T3 : Bool × List (List Nat × List Nat) := (true, [([], []), ([0], [0]), ([], []), ([2, 1], [2]), ([], []), ([], []), ([4, 1, 3, 0, 1, 4, 5], [1, 4]), ([5, 3, 6, 0, 1, 2, 3, 4, 5, 6], [3, 5])])
def stockyardlaw03_PatternMeets.B3 : List Nat := [0, 1, 0, 7, 0, 0, 63, 127]
theorem stockyardlaw03_PatternMeets.tab3 : rtab .any (opsOf Tryd.f3 3) = stockyardlaw03_PatternMeets.T3 := by kernel_rfl
theorem stockyardlaw03_PatternMeets.bits3 : waitsOk stockyardlaw03_PatternMeets.T3.2 stockyardlaw03_PatternMeets.B3 = true := by kernel_rfl
set_option maxHeartbeats 8000000 in
set_option maxRecDepth 100000 in
theorem stockyardlaw03_PatternMeets.calls (k : Nat) (A0_0 : Option Addr) (c0_0 : Nat) (l0_0 : List ByteArray) (a0_1 : Bool) (A1_0 : Option Addr) (c1_0 : Nat) (l1_0 : List ByteArray) (a1_1 : Bool) (r : Bool) (w : World) (hr0_0 : Kd.C Kd.string w A0_0 l0_0.length l0_0) (hc0_0 : l0_0.length ≤ c0_0) (hr1_0 : Kd.C Kd.string w A1_0 l1_0.length l1_0) (hc1_0 : l1_0.length ≤ c1_0) (h : stockyardlaw03_PatternMeets.f k l0_0 a0_1 l1_0 a1_1 = some r) :
    Calls Tryd.prog 3 #[.agg #[.slice A0_0 l0_0.length c0_0, .bool a0_1], .agg #[.slice A1_0 l1_0.length c1_0, .bool a1_1]] w fun e w' => e = .returned (.bool r) ∧ Below w.heap.size w w' := by
  have hu24 := Tryd.underlying24
  have HR0_0 := Aside0.mk hr0_0
  have HC0_0 := Aside0.mk hc0_0
  clear hr0_0 hc0_0
  have HR1_0 := Aside0.mk hr1_0
  have HC1_0 := Aside0.mk hc1_0
  clear hr1_0 hc1_0
  have HB := Aside0.mk (Below.refl w.heap.size w)
  have H : ((stockyardlaw03_small.f k l0_0 a0_1).bind fun t297 => (if t297 = true then ((stockyardlaw03_small.f k l1_0 a1_1).bind fun t298 => (stockyardlaw03_PatternMeets.j0 k (!t298) l0_0 a0_1 l1_0 a1_1)) else (stockyardlaw03_PatternMeets.j0 k true l0_0 a0_1 l1_0 a1_1))) = some r := h
  clear h
  have HC3 := Aside0.mk H
  clear H
  go_enter Tryd.func3, Tryd.ntmps3
  go_upto_region 1 with (first | ((with_reducible refine gate_dst (N := 2) rfl ?_); refine box_event ?hg (N := 2) ?hd (cs := #[.slice A0_0 l0_0.length c0_0, .bool a0_1]) (t := 24) ?hr ?_; (case hd => rfl); (case hg => rfl); (case hr => first | (go_simp; done) | (go_simp; rfl)); intro gb295 hg w4 hbox hb; have n0_ := Aside0.mk (below_step hb_a hb); have n1_ := Aside0.mk (hbox); have n2_ := Aside0.mk ((by rw [hg]; exact (below_size hb_a) : w.heap.size ≤ gb295)); have n3_ := Aside0.mk ((by rw [hg]; exact (below_size hb_a) : w.heap.size ≤ gb295)); clear HB; have HB := n0_; have BK295 := n1_; have GW295 := n2_; have GE295 := n3_; clear n0_ n1_ n2_ n3_; clear hb hbox hg) | ((with_reducible refine gate_dst (N := 3) rfl ?_); refine box_event ?hg (N := 3) ?hd (cs := #[.slice A1_0 l1_0.length c1_0, .bool a1_1]) (t := 24) ?hr ?_; (case hd => rfl); (case hg => rfl); (case hr => first | (go_simp; done) | (go_simp; rfl)); intro gb296 hg w5 hbox hb; have n0_ := Aside0.mk (blk_below (g := gb295) (o := .cells #[.slice A0_0 l0_0.length c0_0, .bool a0_1] 24 (0, 0)) bk_a hb); have n1_ := Aside0.mk (below_step hb_a hb); have n2_ := Aside0.mk (hbox); have n3_ := Aside0.mk ((by rw [hg]; exact (below_size hb_a) : w.heap.size ≤ gb296)); have n4_ := Aside0.mk ((by rw [hg]; exact (below_size hb_a) : w.heap.size ≤ gb296)); have n5_ := Aside0.mk ((by rw [hg]; exact Nat.ne_of_lt (blk_lt (g := gb295) (o := .cells #[.slice A0_0 l0_0.length c0_0, .bool a0_1] 24 (0, 0)) bk_a) : gb295 ≠ gb296)); have n6_ := Aside0.mk ((by rw [hg]; exact Nat.ne_of_gt (blk_lt (g := gb295) (o := .cells #[.slice A0_0 l0_0.length c0_0, .bool a0_1] 24 (0, 0)) bk_a) : gb296 ≠ gb295)); clear BK295; clear HB; have BK295 := n0_; have HB := n1_; have BK296 := n2_; have GW296 := n3_; have GE296 := n4_; have NB295_296 := n5_; have NB296_295 := n6_; clear n0_ n1_ n2_ n3_ n4_ n5_ n6_; clear hb hbox hg))
  (try simp only [Act.put, List.setIfInBounds_toArray, List.set_cons_zero, List.set_cons_succ])
  go_cut [18] (fun v18 wc => ∃ (kq : Nat) (x18_2 : Bool), v18 = .bool x18_2 ∧ Aside0 (stockyardlaw03_PatternMeets.j0 kq x18_2 l0_0 a0_1 l1_0 a1_1 = some r) ∧ Aside0 (kq ≤ k) ∧ Aside0 (wc.heap[gb295]? = some (.cells #[(.slice A0_0 l0_0.length c0_0), .bool a0_1] 24 (0, 0))) ∧ Aside0 (wc.heap[gb296]? = some (.cells #[(.slice A1_0 l1_0.length c1_0), .bool a1_1] 24 (0, 0))) ∧ Aside0 (Below w.heap.size w wc))
  case first =>
    have H := HC3.out
    clear HC3
    replace H := Option.bind_eq_some_iff.mp H
    obtain ⟨t297, A60, H⟩ := H
    replace H : (if t297 = true then ((stockyardlaw03_small.f k l1_0 a1_1).bind fun t298 => (stockyardlaw03_PatternMeets.j0 k (!t298) l0_0 a0_1 l1_0 a1_1)) else (stockyardlaw03_PatternMeets.j0 k true l0_0 a0_1 l1_0 a1_1)) = some r := H
    have A6 := Aside0.mk A60
    clear A60
    by_cases c7 : t297 = true
    · subst c7
      have H1 : ((stockyardlaw03_small.f k l1_0 a1_1).bind fun t298 => (stockyardlaw03_PatternMeets.j0 k (!t298) l0_0 a0_1 l1_0 a1_1)) = some r := by rw [if_pos rfl] at H; exact H
      clear H
      have H := H1
      clear H1
      replace H := Option.bind_eq_some_iff.mp H
      obtain ⟨t298, A80, H⟩ := H
      replace H : (stockyardlaw03_PatternMeets.j0 k (!t298) l0_0 a0_1 l1_0 a1_1) = some r := H
      have A8 := Aside0.mk A80
      clear A80
      have H' := Aside0.mk H
      clear H
      have hnb9 := NB295_296.out
      have hnc9 := NB296_295.out
      have hcz10_0 : w5.cell? ⟨gb295, 0, none⟩ = some (.slice A0_0 l0_0.length c0_0) := (blk_cell BK295.out 0).trans rfl
      have hcz10_1 : w5.cell? ⟨gb295, 1, none⟩ = some (.bool a0_1) := (blk_cell BK295.out 1).trans rfl
      have hfz10_0 := blk_frozen BK295.out 0
      have hfz10_1 := blk_frozen BK295.out 1
      go_wp2_with (first | ((with_reducible refine gate_callee (f := 11) rfl ?_); refine goesL_ (some 12) rfl rfl Tryd.func11 (by kernel_rfl) rfl #[.agg #[.slice A0_0 l0_0.length c0_0, .bool a0_1]] rfl (by (try simp only [List.map_toArray, List.map_cons, List.map_nil]); first | done | rfl | (simp only [List.length_drop, List.length_take]; rfl)) ?_; (with_reducible refine (stockyardlaw03_small.calls k _ _ l0_0 a0_1 true _ ?side1 ?side2 A6.out).mono ?_); (case side1 => repeat (first | exact (Kd.C_below HR0_0.out HB.out) | (with_reducible refine Kd.C_alloc ?_ _) | (with_reducible refine Kd.C_drewN ?_ _) | (with_reducible refine Kd.C_drew ?_))); (case side2 => exact HC0_0.out); rintro e w11 ⟨rfl, hb⟩; refine ⟨_, rfl, ?_⟩; have n0_ := Aside0.mk (blk_below (g := gb295) (o := .cells #[.slice A0_0 l0_0.length c0_0, .bool a0_1] 24 (0, 0)) bk_a hb); have n1_ := Aside0.mk (blk_below (g := gb296) (o := .cells #[.slice A1_0 l1_0.length c1_0, .bool a1_1] 24 (0, 0)) bk_a hb); have n2_ := Aside0.mk (below_step hb_a hb); clear BK295; clear BK296; clear HB; have BK295 := n0_; have BK296 := n1_; have HB := n2_; clear n0_ n1_ n2_; (try clear hb); (try clear hb2); (try clear hk); (try clear hi); have hcz12_0 : w11.cell? ⟨gb296, 0, none⟩ = some (.slice A1_0 l1_0.length c1_0) := (blk_cell BK296.out 0).trans rfl; have hcz12_1 : w11.cell? ⟨gb296, 1, none⟩ = some (.bool a1_1) := (blk_cell BK296.out 1).trans rfl; have hfz12_0 := blk_frozen BK296.out 0; have hfz12_1 := blk_frozen BK296.out 1) | (go_at_call 11; (with_reducible refine (stockyardlaw03_small.calls k _ _ l1_0 a1_1 t298 _ ?side1 ?side2 A8.out).mono ?_); (case side1 => repeat (first | exact (Kd.C_below HR1_0.out HB.out) | (with_reducible refine Kd.C_alloc ?_ _) | (with_reducible refine Kd.C_drewN ?_ _) | (with_reducible refine Kd.C_drew ?_))); (case side2 => exact HC1_0.out); rintro e w13 ⟨rfl, hb⟩; have n0_ := Aside0.mk (blk_below (g := gb295) (o := .cells #[.slice A0_0 l0_0.length c0_0, .bool a0_1] 24 (0, 0)) bk_a hb); have n1_ := Aside0.mk (blk_below (g := gb296) (o := .cells #[.slice A1_0 l1_0.length c1_0, .bool a1_1] 24 (0, 0)) bk_a hb); have n2_ := Aside0.mk (below_step hb_a hb); clear BK295; clear BK296; clear HB; have BK295 := n0_; have BK296 := n1_; have HB := n2_; clear n0_ n1_ n2_; (try clear hb); (try clear hb2); (try clear hk); (try clear hi)))
      go_meet
      case rel => exact ⟨_, (!t298), (by first | rfl | (simp; done) | (simp [*]; done)), H', ⟨by first | omega | exact Nat.le_refl _⟩, ⟨bk_a⟩, ⟨bk_a⟩, ⟨hb_a⟩⟩
    · replace c7 := Bool.eq_false_iff.mpr c7
      subst c7
      have H1 : (stockyardlaw03_PatternMeets.j0 k true l0_0 a0_1 l1_0 a1_1) = some r := by rw [if_neg (show ¬ (false = true) by decide)] at H; exact H
      clear H
      have H := H1
      clear H1
      have H' := Aside0.mk H
      clear H
      have hnb14 := NB295_296.out
      have hnc14 := NB296_295.out
      have hcz15_0 : w5.cell? ⟨gb295, 0, none⟩ = some (.slice A0_0 l0_0.length c0_0) := (blk_cell BK295.out 0).trans rfl
      have hcz15_1 : w5.cell? ⟨gb295, 1, none⟩ = some (.bool a0_1) := (blk_cell BK295.out 1).trans rfl
      have hfz15_0 := blk_frozen BK295.out 0
      have hfz15_1 := blk_frozen BK295.out 1
      go_wp2_with (first | ((with_reducible refine gate_callee (f := 11) rfl ?_); refine goesL_ (some 12) rfl rfl Tryd.func11 (by kernel_rfl) rfl #[.agg #[.slice A0_0 l0_0.length c0_0, .bool a0_1]] rfl (by (try simp only [List.map_toArray, List.map_cons, List.map_nil]); first | done | rfl | (simp only [List.length_drop, List.length_take]; rfl)) ?_; (with_reducible refine (stockyardlaw03_small.calls k _ _ l0_0 a0_1 false _ ?side1 ?side2 A6.out).mono ?_); (case side1 => repeat (first | exact (Kd.C_below HR0_0.out HB.out) | (with_reducible refine Kd.C_alloc ?_ _) | (with_reducible refine Kd.C_drewN ?_ _) | (with_reducible refine Kd.C_drew ?_))); (case side2 => exact HC0_0.out); rintro e w16 ⟨rfl, hb⟩; refine ⟨_, rfl, ?_⟩; have n0_ := Aside0.mk (blk_below (g := gb295) (o := .cells #[.slice A0_0 l0_0.length c0_0, .bool a0_1] 24 (0, 0)) bk_a hb); have n1_ := Aside0.mk (blk_below (g := gb296) (o := .cells #[.slice A1_0 l1_0.length c1_0, .bool a1_1] 24 (0, 0)) bk_a hb); have n2_ := Aside0.mk (below_step hb_a hb); clear BK295; clear BK296; clear HB; have BK295 := n0_; have BK296 := n1_; have HB := n2_; clear n0_ n1_ n2_; (try clear hb); (try clear hb2); (try clear hk); (try clear hi)))
      go_meet
      case rel => exact ⟨_, (true), (by first | rfl | (simp; done) | (simp [*]; done)), H', ⟨by first | omega | exact Nat.le_refl _⟩, ⟨bk_a⟩, ⟨bk_a⟩, ⟨hb_a⟩⟩
  case rest =>
    clear HC3; (try clear c1); (try clear p2); (try clear c3); (try clear c7); (try clear c9); (try clear c11); (try clear c14); (try clear hcz10_0); (try clear hcz10_1); (try clear hcz12_0); (try clear hcz12_1); (try clear hcz15_0); (try clear hcz15_1); (try clear hfz10_0); (try clear hfz10_1); (try clear hfz12_0); (try clear hfz12_1); (try clear hfz15_0); (try clear hfz15_1)
    obtain ⟨kq, x18_2, rfl, HA, HJ2, BK295, BK296, HB⟩ := hcut
    cases kq with
    | zero => exact absurd HA.out (by simp [stockyardlaw03_PatternMeets.j0])
    | succ kj2 =>
      have H := HA.out
      clear HA
      simp only [stockyardlaw03_PatternMeets.j0] at H
      by_cases c17 : x18_2 = true
      · subst c17
        have H1 : ((stockyardlaw03_awake.f kj2).bind fun t299 => (some t299)) = some r := by rw [if_pos rfl] at H; exact H
        clear H
        have H := H1
        clear H1
        replace H := Option.bind_eq_some_iff.mp H
        obtain ⟨t299, A180, H⟩ := H
        replace H : (some t299) = some r := H
        have A18 := Aside0.mk A180
        clear A180
        obtain rfl := Option.some.inj H
        go_wp2_with (first | ((with_reducible refine gate_callee (f := 12) rfl ?_); refine goesL_ (some 19) rfl rfl Tryd.func12 (by kernel_rfl) rfl #[] rfl (by (try simp only [List.map_toArray, List.map_cons, List.map_nil]); first | done | rfl | (simp only [List.length_drop, List.length_take]; rfl)) ?_; (with_reducible refine (stockyardlaw03_awake.calls kj2  t299 _ A18.out).mono ?_); rintro e w19 ⟨rfl, hb⟩; refine ⟨_, rfl, ?_⟩; have n0_ := Aside0.mk (blk_below (g := gb295) (o := .cells #[.slice A0_0 l0_0.length c0_0, .bool a0_1] 24 (0, 0)) bk_a hb); have n1_ := Aside0.mk (blk_below (g := gb296) (o := .cells #[.slice A1_0 l1_0.length c1_0, .bool a1_1] 24 (0, 0)) bk_a hb); have n2_ := Aside0.mk (below_step hb_a hb); clear BK295; clear BK296; clear HB; have BK295 := n0_; have BK296 := n1_; have HB := n2_; clear n0_ n1_ n2_; (try clear hb); (try clear hb2); (try clear hk); (try clear hi)))
        go_ret
        exact ⟨by first | rfl | (simp [errW_none, errW_some] <;> rfl) | (simp [*, errW_none, errW_some] <;> rfl), hb_a⟩
      · replace c17 := Bool.eq_false_iff.mpr c17
        subst c17
        have H1 : ((stockyardlaw03_copied.f l0_0 a0_1).bind fun bt300 => ((stockyardlaw03_copied.f l1_0 a1_1).bind fun bt304 => ((pattern_Meet.f kj2 l0_0 a0_1 l1_0 a1_1).bind fun bt310 => ((stockyardref03_Meet.f kj2 l0_0 a0_1 l1_0 a1_1).bind fun bt316 => (if (bt310.2.2 == bt316.2.2) = true then ((stockyardref03_Same.f kj2 bt310.1 bt310.2.1 bt316.1 bt316.2.1).bind fun t322 => (if t322 = true then ((stockyardref03_Same.f kj2 l0_0 a0_1 bt300.1 bt300.2).bind fun t323 => (if t323 = true then ((stockyardref03_Same.f kj2 l1_0 a1_1 bt304.1 bt304.2).bind fun t324 => (if t324 = true then ((stockyardlaw03_awake.f kj2).bind fun t325 => (some t325)) else (some false))) else (some false))) else (some false))) else (some false)))))) = some r := by rw [if_neg (show ¬ (false = true) by decide)] at H; exact H
        clear H
        have H := H1
        clear H1
        replace H := Option.bind_eq_some_iff.mp H
        obtain ⟨⟨t300, t303⟩, A200, H⟩ := H
        replace H : ((stockyardlaw03_copied.f l1_0 a1_1).bind fun bt304 => ((pattern_Meet.f kj2 l0_0 a0_1 l1_0 a1_1).bind fun bt310 => ((stockyardref03_Meet.f kj2 l0_0 a0_1 l1_0 a1_1).bind fun bt316 => (if (bt310.2.2 == bt316.2.2) = true then ((stockyardref03_Same.f kj2 bt310.1 bt310.2.1 bt316.1 bt316.2.1).bind fun t322 => (if t322 = true then ((stockyardref03_Same.f kj2 l0_0 a0_1 t300 t303).bind fun t323 => (if t323 = true then ((stockyardref03_Same.f kj2 l1_0 a1_1 bt304.1 bt304.2).bind fun t324 => (if t324 = true then ((stockyardlaw03_awake.f kj2).bind fun t325 => (some t325)) else (some false))) else (some false))) else (some false))) else (some false))))) = some r := H
        have A20 := Aside0.mk A200
        clear A200
        replace H := Option.bind_eq_some_iff.mp H
        obtain ⟨⟨t304, t307⟩, A210, H⟩ := H
        replace H : ((pattern_Meet.f kj2 l0_0 a0_1 l1_0 a1_1).bind fun bt310 => ((stockyardref03_Meet.f kj2 l0_0 a0_1 l1_0 a1_1).bind fun bt316 => (if (bt310.2.2 == bt316.2.2) = true then ((stockyardref03_Same.f kj2 bt310.1 bt310.2.1 bt316.1 bt316.2.1).bind fun t322 => (if t322 = true then ((stockyardref03_Same.f kj2 l0_0 a0_1 t300 t303).bind fun t323 => (if t323 = true then ((stockyardref03_Same.f kj2 l1_0 a1_1 t304 t307).bind fun t324 => (if t324 = true then ((stockyardlaw03_awake.f kj2).bind fun t325 => (some t325)) else (some false))) else (some false))) else (some false))) else (some false)))) = some r := H
        have A21 := Aside0.mk A210
        clear A210
        replace H := Option.bind_eq_some_iff.mp H
        obtain ⟨⟨t310, t313, t314⟩, A220, H⟩ := H
        replace H : ((stockyardref03_Meet.f kj2 l0_0 a0_1 l1_0 a1_1).bind fun bt316 => (if (t314 == bt316.2.2) = true then ((stockyardref03_Same.f kj2 t310 t313 bt316.1 bt316.2.1).bind fun t322 => (if t322 = true then ((stockyardref03_Same.f kj2 l0_0 a0_1 t300 t303).bind fun t323 => (if t323 = true then ((stockyardref03_Same.f kj2 l1_0 a1_1 t304 t307).bind fun t324 => (if t324 = true then ((stockyardlaw03_awake.f kj2).bind fun t325 => (some t325)) else (some false))) else (some false))) else (some false))) else (some false))) = some r := H
        have A22 := Aside0.mk A220
        clear A220
        replace H := Option.bind_eq_some_iff.mp H
        obtain ⟨⟨t316, t319, t320⟩, A230, H⟩ := H
        replace H : (if (t314 == t320) = true then ((stockyardref03_Same.f kj2 t310 t313 t316 t319).bind fun t322 => (if t322 = true then ((stockyardref03_Same.f kj2 l0_0 a0_1 t300 t303).bind fun t323 => (if t323 = true then ((stockyardref03_Same.f kj2 l1_0 a1_1 t304 t307).bind fun t324 => (if t324 = true then ((stockyardlaw03_awake.f kj2).bind fun t325 => (some t325)) else (some false))) else (some false))) else (some false))) else (some false)) = some r := H
        have A23 := Aside0.mk A230
        clear A230
        have HX_ := Aside0.mk H
        clear H
        try go_wp2
        have n0_ := Aside0.mk (blk_drew BK295.out)
        have n1_ := Aside0.mk (blk_drew BK296.out)
        have n2_ := Aside0.mk (below_drew1 HB.out)
        clear BK295; clear BK296; clear HB
        have BK295 := n0_
        have BK296 := n1_
        have HB := n2_
        clear n0_ n1_ n2_
        refine start_ (n := 8) (S := fun w' => w'.cell? ⟨gb295, 0, none⟩ = some (.slice A0_0 l0_0.length c0_0) ∧ w'.cell? ⟨gb295, 1, none⟩ = some (.bool a0_1) ∧ w'.cell? ⟨gb296, 0, none⟩ = some (.slice A1_0 l1_0.length c1_0) ∧ w'.cell? ⟨gb296, 1, none⟩ = some (.bool a1_1)) (ds := []) #[false, false, false, false, false, false, false, false] (by kernel_rfl) rfl rfl ⟨(blk_cell BK295.out 0).trans rfl, (blk_cell BK295.out 1).trans rfl, (blk_cell BK296.out 0).trans rfl, (blk_cell BK296.out 1).trans rfl⟩ (fun hHeld => ?_); refine with_tabW stockyardlaw03_PatternMeets.tab3 stockyardlaw03_PatternMeets.bits3 (fun HT_ HW_ => ?_)
        generalize wc.drew = w211 at BK295 BK296 HB hHeld ⊢
        refine take_ (i := 0) (N := some 20) (v := ?_) (a' := ?_) #[true, false, false, false, false, false, false, false] rfl rfl (take_ofW HT_.out HW_.out (by kernel_rfl)) (fun _ _ _ h => h) (Or.inl ⟨by rfl, ?_⟩) hHeld ?_ ?_
        rotate_left
        · rintro w' ⟨s0, s1, s2, s3⟩
          go_simp
          with_reducible rfl
        rotate_left
        · simp only [Act.put, List.setIfInBounds_toArray, List.set_cons_zero, List.set_cons_succ, i64_w, i32_w]
          rfl
        refine take_ (i := 2) (N := some 22) (v := ?_) (a' := ?_) #[true, false, true, false, false, false, false, false] rfl rfl (take_ofW HT_.out HW_.out (by kernel_rfl)) (fun _ _ _ h => h) (Or.inl ⟨by rfl, ?_⟩) hHeld ?_ ?_
        rotate_left
        · rintro w' ⟨s0, s1, s2, s3⟩
          go_simp
          with_reducible rfl
        rotate_left
        · simp only [Act.put, List.setIfInBounds_toArray, List.set_cons_zero, List.set_cons_succ, i64_w, i32_w]
          rfl
        refine join_ (σ := Value × Value × Nat × Nat) 2 #[true, true, true, true, true, true, false, false] (fun s_ => [(21, .agg #[s_.1, .bool t303]), (23, .agg #[s_.2.1, .bool t307]), (5, .pointer (some ⟨s_.2.2.1, 0, none⟩)), (6, .pointer (some ⟨s_.2.2.2, 0, none⟩))]) (fun s_ w' => (w'.cell? ⟨gb295, 0, none⟩ = some (.slice A0_0 l0_0.length c0_0) ∧ w'.cell? ⟨gb295, 1, none⟩ = some (.bool a0_1) ∧ w'.cell? ⟨gb296, 0, none⟩ = some (.slice A1_0 l1_0.length c1_0) ∧ w'.cell? ⟨gb296, 1, none⟩ = some (.bool a1_1)) ∧ (Kd.R Kd.string 9 w' w.heap.size (fun k_ => some k_ ≠ (s_.2.1 : Value).ownBlock) s_.1 t300) ∧ (Kd.R Kd.string 9 w' w.heap.size (fun k_ => some k_ ≠ (s_.1 : Value).ownBlock) s_.2.1 t304) ∧ (w'.heap[gb295]? = some (.cells #[.slice A0_0 l0_0.length c0_0, .bool a0_1] 24 (0, 0))) ∧ (w'.heap[gb296]? = some (.cells #[.slice A1_0 l1_0.length c1_0, .bool a1_1] 24 (0, 0))) ∧ (w'.heap[s_.2.2.1]? = some (.cells #[.slice none 0 0, .bool false] 24 (0, 0))) ∧ (w'.heap[s_.2.2.2]? = some (.cells #[.slice none 0 0, .bool false] 24 (0, 0))) ∧ (w.heap.size ≤ s_.2.2.1) ∧ (w.heap.size ≤ s_.2.2.1) ∧ (gb295 ≠ s_.2.2.1) ∧ (s_.2.2.1 ≠ gb295) ∧ (gb296 ≠ s_.2.2.1) ∧ (s_.2.2.1 ≠ gb296) ∧ (s_.2.2.2 ≠ s_.2.2.1) ∧ (s_.2.2.1 ≠ s_.2.2.2) ∧ (w.heap.size ≤ s_.2.2.2) ∧ (w.heap.size ≤ s_.2.2.2) ∧ (gb295 ≠ s_.2.2.2) ∧ (s_.2.2.2 ≠ gb295) ∧ (gb296 ≠ s_.2.2.2) ∧ (s_.2.2.2 ≠ gb296) ∧ (Below w.heap.size w w')) ?_ ?_
        rotate_left
        · intro hJ1_3_4_5
          refine join_ (σ := Value × Value × Nat) 3 #[true, true, true, true, true, false, false, false] (fun s_ => [(21, .agg #[s_.1, .bool t303]), (23, .agg #[s_.2.1, .bool t307]), (5, .pointer (some ⟨s_.2.2, 0, none⟩))]) (fun s_ w' => (w'.cell? ⟨gb295, 0, none⟩ = some (.slice A0_0 l0_0.length c0_0) ∧ w'.cell? ⟨gb295, 1, none⟩ = some (.bool a0_1) ∧ w'.cell? ⟨gb296, 0, none⟩ = some (.slice A1_0 l1_0.length c1_0) ∧ w'.cell? ⟨gb296, 1, none⟩ = some (.bool a1_1)) ∧ (Kd.R Kd.string 9 w' w.heap.size (fun k_ => some k_ ≠ (s_.2.1 : Value).ownBlock) s_.1 t300) ∧ (Kd.R Kd.string 9 w' w.heap.size (fun k_ => some k_ ≠ (s_.1 : Value).ownBlock) s_.2.1 t304) ∧ (w'.heap[gb295]? = some (.cells #[.slice A0_0 l0_0.length c0_0, .bool a0_1] 24 (0, 0))) ∧ (w'.heap[gb296]? = some (.cells #[.slice A1_0 l1_0.length c1_0, .bool a1_1] 24 (0, 0))) ∧ (w'.heap[s_.2.2]? = some (.cells #[.slice none 0 0, .bool false] 24 (0, 0))) ∧ (w.heap.size ≤ s_.2.2) ∧ (w.heap.size ≤ s_.2.2) ∧ (gb295 ≠ s_.2.2) ∧ (s_.2.2 ≠ gb295) ∧ (gb296 ≠ s_.2.2) ∧ (s_.2.2 ≠ gb296) ∧ (Below w.heap.size w w')) ?_ ?_
          rotate_left
          · intro hJ1_3_4
            refine join_ (σ := Value × Value × Nat) 3 #[true, true, true, true, false, true, false, false] (fun s_ => [(21, .agg #[s_.1, .bool t303]), (23, .agg #[s_.2.1, .bool t307]), (6, .pointer (some ⟨s_.2.2, 0, none⟩))]) (fun s_ w' => (w'.cell? ⟨gb295, 0, none⟩ = some (.slice A0_0 l0_0.length c0_0) ∧ w'.cell? ⟨gb295, 1, none⟩ = some (.bool a0_1) ∧ w'.cell? ⟨gb296, 0, none⟩ = some (.slice A1_0 l1_0.length c1_0) ∧ w'.cell? ⟨gb296, 1, none⟩ = some (.bool a1_1)) ∧ (Kd.R Kd.string 9 w' w.heap.size (fun k_ => some k_ ≠ (s_.2.1 : Value).ownBlock) s_.1 t300) ∧ (Kd.R Kd.string 9 w' w.heap.size (fun k_ => some k_ ≠ (s_.1 : Value).ownBlock) s_.2.1 t304) ∧ (w'.heap[gb295]? = some (.cells #[.slice A0_0 l0_0.length c0_0, .bool a0_1] 24 (0, 0))) ∧ (w'.heap[gb296]? = some (.cells #[.slice A1_0 l1_0.length c1_0, .bool a1_1] 24 (0, 0))) ∧ (w'.heap[s_.2.2]? = some (.cells #[.slice none 0 0, .bool false] 24 (0, 0))) ∧ (w.heap.size ≤ s_.2.2) ∧ (w.heap.size ≤ s_.2.2) ∧ (gb295 ≠ s_.2.2) ∧ (s_.2.2 ≠ gb295) ∧ (gb296 ≠ s_.2.2) ∧ (s_.2.2 ≠ gb296) ∧ (Below w.heap.size w w')) ?_ ?_
            rotate_left
            · intro hJ1_3_5
              refine join_ (σ := Value × Nat × Nat) 3 #[true, true, true, false, true, true, false, false] (fun s_ => [(21, .agg #[s_.1, .bool t303]), (5, .pointer (some ⟨s_.2.1, 0, none⟩)), (6, .pointer (some ⟨s_.2.2, 0, none⟩))]) (fun s_ w' => (w'.cell? ⟨gb295, 0, none⟩ = some (.slice A0_0 l0_0.length c0_0) ∧ w'.cell? ⟨gb295, 1, none⟩ = some (.bool a0_1) ∧ w'.cell? ⟨gb296, 0, none⟩ = some (.slice A1_0 l1_0.length c1_0) ∧ w'.cell? ⟨gb296, 1, none⟩ = some (.bool a1_1)) ∧ (Kd.R Kd.string 9 w' w.heap.size (fun _ => True) s_.1 t300) ∧ (w'.heap[gb295]? = some (.cells #[.slice A0_0 l0_0.length c0_0, .bool a0_1] 24 (0, 0))) ∧ (w'.heap[gb296]? = some (.cells #[.slice A1_0 l1_0.length c1_0, .bool a1_1] 24 (0, 0))) ∧ (w'.heap[s_.2.1]? = some (.cells #[.slice none 0 0, .bool false] 24 (0, 0))) ∧ (w'.heap[s_.2.2]? = some (.cells #[.slice none 0 0, .bool false] 24 (0, 0))) ∧ (w.heap.size ≤ s_.2.1) ∧ (w.heap.size ≤ s_.2.1) ∧ (gb295 ≠ s_.2.1) ∧ (s_.2.1 ≠ gb295) ∧ (gb296 ≠ s_.2.1) ∧ (s_.2.1 ≠ gb296) ∧ (s_.2.2 ≠ s_.2.1) ∧ (s_.2.1 ≠ s_.2.2) ∧ (w.heap.size ≤ s_.2.2) ∧ (w.heap.size ≤ s_.2.2) ∧ (gb295 ≠ s_.2.2) ∧ (s_.2.2 ≠ gb295) ∧ (gb296 ≠ s_.2.2) ∧ (s_.2.2 ≠ gb296) ∧ (Below w.heap.size w w')) ?_ ?_
              rotate_left
              · intro hJ1_4_5
                refine join_ (σ := Value × Value) 4 #[true, true, true, true, false, false, false, false] (fun s_ => [(21, .agg #[s_.1, .bool t303]), (23, .agg #[s_.2, .bool t307])]) (fun s_ w' => (w'.cell? ⟨gb295, 0, none⟩ = some (.slice A0_0 l0_0.length c0_0) ∧ w'.cell? ⟨gb295, 1, none⟩ = some (.bool a0_1) ∧ w'.cell? ⟨gb296, 0, none⟩ = some (.slice A1_0 l1_0.length c1_0) ∧ w'.cell? ⟨gb296, 1, none⟩ = some (.bool a1_1)) ∧ (Kd.R Kd.string 9 w' w.heap.size (fun k_ => some k_ ≠ (s_.2 : Value).ownBlock) s_.1 t300) ∧ (Kd.R Kd.string 9 w' w.heap.size (fun k_ => some k_ ≠ (s_.1 : Value).ownBlock) s_.2 t304) ∧ (w'.heap[gb295]? = some (.cells #[.slice A0_0 l0_0.length c0_0, .bool a0_1] 24 (0, 0))) ∧ (w'.heap[gb296]? = some (.cells #[.slice A1_0 l1_0.length c1_0, .bool a1_1] 24 (0, 0))) ∧ (Below w.heap.size w w')) ?_ ?_
                rotate_left
                · intro hJ1_3
                  refine join_ (σ := Value × Nat) 4 #[true, true, true, false, true, false, false, false] (fun s_ => [(21, .agg #[s_.1, .bool t303]), (5, .pointer (some ⟨s_.2, 0, none⟩))]) (fun s_ w' => (w'.cell? ⟨gb295, 0, none⟩ = some (.slice A0_0 l0_0.length c0_0) ∧ w'.cell? ⟨gb295, 1, none⟩ = some (.bool a0_1) ∧ w'.cell? ⟨gb296, 0, none⟩ = some (.slice A1_0 l1_0.length c1_0) ∧ w'.cell? ⟨gb296, 1, none⟩ = some (.bool a1_1)) ∧ (Kd.R Kd.string 9 w' w.heap.size (fun _ => True) s_.1 t300) ∧ (w'.heap[gb295]? = some (.cells #[.slice A0_0 l0_0.length c0_0, .bool a0_1] 24 (0, 0))) ∧ (w'.heap[gb296]? = some (.cells #[.slice A1_0 l1_0.length c1_0, .bool a1_1] 24 (0, 0))) ∧ (w'.heap[s_.2]? = some (.cells #[.slice none 0 0, .bool false] 24 (0, 0))) ∧ (w.heap.size ≤ s_.2) ∧ (w.heap.size ≤ s_.2) ∧ (gb295 ≠ s_.2) ∧ (s_.2 ≠ gb295) ∧ (gb296 ≠ s_.2) ∧ (s_.2 ≠ gb296) ∧ (Below w.heap.size w w')) ?_ ?_
                  rotate_left
                  · intro hJ1_4
                    refine join_ (σ := Value × Nat) 4 #[true, true, true, false, false, true, false, false] (fun s_ => [(21, .agg #[s_.1, .bool t303]), (6, .pointer (some ⟨s_.2, 0, none⟩))]) (fun s_ w' => (w'.cell? ⟨gb295, 0, none⟩ = some (.slice A0_0 l0_0.length c0_0) ∧ w'.cell? ⟨gb295, 1, none⟩ = some (.bool a0_1) ∧ w'.cell? ⟨gb296, 0, none⟩ = some (.slice A1_0 l1_0.length c1_0) ∧ w'.cell? ⟨gb296, 1, none⟩ = some (.bool a1_1)) ∧ (Kd.R Kd.string 9 w' w.heap.size (fun _ => True) s_.1 t300) ∧ (w'.heap[gb295]? = some (.cells #[.slice A0_0 l0_0.length c0_0, .bool a0_1] 24 (0, 0))) ∧ (w'.heap[gb296]? = some (.cells #[.slice A1_0 l1_0.length c1_0, .bool a1_1] 24 (0, 0))) ∧ (w'.heap[s_.2]? = some (.cells #[.slice none 0 0, .bool false] 24 (0, 0))) ∧ (w.heap.size ≤ s_.2) ∧ (w.heap.size ≤ s_.2) ∧ (gb295 ≠ s_.2) ∧ (s_.2 ≠ gb295) ∧ (gb296 ≠ s_.2) ∧ (s_.2 ≠ gb296) ∧ (Below w.heap.size w w')) ?_ ?_
                    rotate_left
                    · intro hJ1_5
                      refine join_ (σ := Nat × Nat) 4 #[true, false, true, false, true, true, false, false] (fun s_ => [(5, .pointer (some ⟨s_.1, 0, none⟩)), (6, .pointer (some ⟨s_.2, 0, none⟩))]) (fun s_ w' => (w'.cell? ⟨gb295, 0, none⟩ = some (.slice A0_0 l0_0.length c0_0) ∧ w'.cell? ⟨gb295, 1, none⟩ = some (.bool a0_1) ∧ w'.cell? ⟨gb296, 0, none⟩ = some (.slice A1_0 l1_0.length c1_0) ∧ w'.cell? ⟨gb296, 1, none⟩ = some (.bool a1_1)) ∧ (w'.heap[gb295]? = some (.cells #[.slice A0_0 l0_0.length c0_0, .bool a0_1] 24 (0, 0))) ∧ (w'.heap[gb296]? = some (.cells #[.slice A1_0 l1_0.length c1_0, .bool a1_1] 24 (0, 0))) ∧ (w'.heap[s_.1]? = some (.cells #[.slice none 0 0, .bool false] 24 (0, 0))) ∧ (w'.heap[s_.2]? = some (.cells #[.slice none 0 0, .bool false] 24 (0, 0))) ∧ (w.heap.size ≤ s_.1) ∧ (w.heap.size ≤ s_.1) ∧ (gb295 ≠ s_.1) ∧ (s_.1 ≠ gb295) ∧ (gb296 ≠ s_.1) ∧ (s_.1 ≠ gb296) ∧ (s_.2 ≠ s_.1) ∧ (s_.1 ≠ s_.2) ∧ (w.heap.size ≤ s_.2) ∧ (w.heap.size ≤ s_.2) ∧ (gb295 ≠ s_.2) ∧ (s_.2 ≠ gb295) ∧ (gb296 ≠ s_.2) ∧ (s_.2 ≠ gb296) ∧ (Below w.heap.size w w')) ?_ ?_
                      rotate_left
                      · intro hJ4_5
                        refine join_ (σ := Value) 5 #[true, true, true, false, false, false, false, false] (fun s_ => [(21, .agg #[s_, .bool t303])]) (fun s_ w' => (w'.cell? ⟨gb295, 0, none⟩ = some (.slice A0_0 l0_0.length c0_0) ∧ w'.cell? ⟨gb295, 1, none⟩ = some (.bool a0_1) ∧ w'.cell? ⟨gb296, 0, none⟩ = some (.slice A1_0 l1_0.length c1_0) ∧ w'.cell? ⟨gb296, 1, none⟩ = some (.bool a1_1)) ∧ (Kd.R Kd.string 9 w' w.heap.size (fun _ => True) s_ t300) ∧ (w'.heap[gb295]? = some (.cells #[.slice A0_0 l0_0.length c0_0, .bool a0_1] 24 (0, 0))) ∧ (w'.heap[gb296]? = some (.cells #[.slice A1_0 l1_0.length c1_0, .bool a1_1] 24 (0, 0))) ∧ (Below w.heap.size w w')) ?_ ?_
                        rotate_left
                        · intro hJ1
                          refine join_ (σ := Nat) 5 #[true, false, true, false, true, false, false, false] (fun s_ => [(5, .pointer (some ⟨s_, 0, none⟩))]) (fun s_ w' => (w'.cell? ⟨gb295, 0, none⟩ = some (.slice A0_0 l0_0.length c0_0) ∧ w'.cell? ⟨gb295, 1, none⟩ = some (.bool a0_1) ∧ w'.cell? ⟨gb296, 0, none⟩ = some (.slice A1_0 l1_0.length c1_0) ∧ w'.cell? ⟨gb296, 1, none⟩ = some (.bool a1_1)) ∧ (w'.heap[gb295]? = some (.cells #[.slice A0_0 l0_0.length c0_0, .bool a0_1] 24 (0, 0))) ∧ (w'.heap[gb296]? = some (.cells #[.slice A1_0 l1_0.length c1_0, .bool a1_1] 24 (0, 0))) ∧ (w'.heap[s_]? = some (.cells #[.slice none 0 0, .bool false] 24 (0, 0))) ∧ (w.heap.size ≤ s_) ∧ (w.heap.size ≤ s_) ∧ (gb295 ≠ s_) ∧ (s_ ≠ gb295) ∧ (gb296 ≠ s_) ∧ (s_ ≠ gb296) ∧ (Below w.heap.size w w')) ?_ ?_
                          rotate_left
                          · intro hJ4
                            refine join_ (σ := Nat) 5 #[true, false, true, false, false, true, false, false] (fun s_ => [(6, .pointer (some ⟨s_, 0, none⟩))]) (fun s_ w' => (w'.cell? ⟨gb295, 0, none⟩ = some (.slice A0_0 l0_0.length c0_0) ∧ w'.cell? ⟨gb295, 1, none⟩ = some (.bool a0_1) ∧ w'.cell? ⟨gb296, 0, none⟩ = some (.slice A1_0 l1_0.length c1_0) ∧ w'.cell? ⟨gb296, 1, none⟩ = some (.bool a1_1)) ∧ (w'.heap[gb295]? = some (.cells #[.slice A0_0 l0_0.length c0_0, .bool a0_1] 24 (0, 0))) ∧ (w'.heap[gb296]? = some (.cells #[.slice A1_0 l1_0.length c1_0, .bool a1_1] 24 (0, 0))) ∧ (w'.heap[s_]? = some (.cells #[.slice none 0 0, .bool false] 24 (0, 0))) ∧ (w.heap.size ≤ s_) ∧ (w.heap.size ≤ s_) ∧ (gb295 ≠ s_) ∧ (s_ ≠ gb295) ∧ (gb296 ≠ s_) ∧ (s_ ≠ gb296) ∧ (Below w.heap.size w w')) ?_ ?_
                            rotate_left
                            · intro hJ5
                              refine three_ (i := 1) (j := 4) (k := 5) (Ni := some 21) (Nj := some 5) (Nk := some 6) #[true, true, true, false, false, false, false, false] #[true, false, true, false, true, false, false, false] #[true, false, true, false, false, true, false, false] rfl rfl rfl rfl rfl rfl (three_of HT_.out (by kernel_rfl)) (by decide) (by decide) (by decide) (fun K hK => ?_) (fun K hK => ?_) (fun K hK => ?_)
                              · skip
                                refine goes_ Tryd.func13 (by kernel_rfl) rfl #[.agg #[.slice A0_0 l0_0.length c0_0, .bool a0_1]] (by rfl) rfl rfl (by (try simp only [List.map_toArray, List.map_cons, List.map_nil]); first | done | rfl | (simp only [List.length_drop, List.length_take]; rfl)) ?_
                                with_reducible refine (stockyardlaw03_copied.calls _ _ l0_0 a0_1 t300 t303 _ ?side1 ?side2 A20.out).mono ?_
                                (case side1 => repeat (first | exact (Kd.C_below HR0_0.out HB.out) | (with_reducible refine Kd.C_alloc ?_ _) | (with_reducible refine Kd.C_drewN ?_ _) | (with_reducible refine Kd.C_drew ?_)))
                                (case side2 => exact HC0_0.out)
                                rintro e w212 ⟨v301, rfl, ho0, hb⟩
                                refine ⟨_, rfl, ?_⟩
                                have n0_ := Aside0.mk (Kd.R_lower ho0 (below_size hb_a))
                                have n1_ := Aside0.mk (blk_below (g := gb295) (o := .cells #[.slice A0_0 l0_0.length c0_0, .bool a0_1] 24 (0, 0)) bk_a hb)
                                have n2_ := Aside0.mk (blk_below (g := gb296) (o := .cells #[.slice A1_0 l1_0.length c1_0, .bool a1_1] 24 (0, 0)) bk_a hb)
                                have n3_ := Aside0.mk (below_step hb_a hb)
                                clear BK295; clear BK296; clear HB
                                have HO302 := n0_
                                have BK295 := n1_
                                have BK296 := n2_
                                have HB := n3_
                                clear n0_ n1_ n2_ n3_
                                (try clear hb)
                                (try clear hb2)
                                (try clear hk)
                                (try clear hi)
                                (try clear ho0)
                                refine hK.out _ _ ⟨(blk_cell BK295.out 0).trans rfl, (blk_cell BK295.out 1).trans rfl, (blk_cell BK296.out 0).trans rfl, (blk_cell BK296.out 1).trans rfl⟩ (fun hHeld => ?_)
                                clear hK K
                                refine norm_ (a' := ?_) ?_ ?_
                                rotate_left
                                · show Act.put _ (some 21) _ = _
                                  simp only [Act.put, List.setIfInBounds_toArray, List.set_cons_zero, List.set_cons_succ, i64_w, i32_w]
                                  rfl
                                exact norm_ (by first | (simp only [putAll, Act.put, List.setIfInBounds_toArray, List.set_cons_zero, List.set_cons_succ]; done) | (simp only [putAll, Act.put, List.setIfInBounds_toArray, List.set_cons_zero, List.set_cons_succ]; rfl)) (hJ1 (v301) _ ⟨hHeld, (by (with_reducible repeat (first | apply Kd.R_alloc | apply Kd.R_drewN | apply Kd.R_drew)); exact HO302.out), bk_a, bk_a, hb_a⟩)
                              · skip
                                refine box_step ?hg (N := 5) ?hd (cs := #[.slice none 0 0, .bool false]) (t := 24) ?hr ?_; (case hd => rfl); (case hg => rfl); (case hr => first | (go_simp; done) | (go_simp; rfl))
                                intro gb308 hg w212 hbox hb
                                have n0_ := Aside0.mk (blk_below (g := gb295) (o := .cells #[.slice A0_0 l0_0.length c0_0, .bool a0_1] 24 (0, 0)) bk_a hb)
                                have n1_ := Aside0.mk (blk_below (g := gb296) (o := .cells #[.slice A1_0 l1_0.length c1_0, .bool a1_1] 24 (0, 0)) bk_a hb)
                                have n2_ := Aside0.mk (below_step hb_a hb)
                                have n3_ := Aside0.mk (hbox)
                                have n4_ := Aside0.mk ((by rw [hg]; exact (below_size hb_a) : w.heap.size ≤ gb308))
                                have n5_ := Aside0.mk ((by rw [hg]; exact (below_size hb_a) : w.heap.size ≤ gb308))
                                have n6_ := Aside0.mk ((by rw [hg]; exact Nat.ne_of_lt (blk_lt (g := gb295) (o := .cells #[.slice A0_0 l0_0.length c0_0, .bool a0_1] 24 (0, 0)) bk_a) : gb295 ≠ gb308))
                                have n7_ := Aside0.mk ((by rw [hg]; exact Nat.ne_of_gt (blk_lt (g := gb295) (o := .cells #[.slice A0_0 l0_0.length c0_0, .bool a0_1] 24 (0, 0)) bk_a) : gb308 ≠ gb295))
                                have n8_ := Aside0.mk ((by rw [hg]; exact Nat.ne_of_lt (blk_lt (g := gb296) (o := .cells #[.slice A1_0 l1_0.length c1_0, .bool a1_1] 24 (0, 0)) bk_a) : gb296 ≠ gb308))
                                have n9_ := Aside0.mk ((by rw [hg]; exact Nat.ne_of_gt (blk_lt (g := gb296) (o := .cells #[.slice A1_0 l1_0.length c1_0, .bool a1_1] 24 (0, 0)) bk_a) : gb308 ≠ gb296))
                                clear BK295; clear BK296; clear HB
                                have BK295 := n0_
                                have BK296 := n1_
                                have HB := n2_
                                have BK308 := n3_
                                have GW308 := n4_
                                have GE308 := n5_
                                have NB295_308 := n6_
                                have NB308_295 := n7_
                                have NB296_308 := n8_
                                have NB308_296 := n9_
                                clear n0_ n1_ n2_ n3_ n4_ n5_ n6_ n7_ n8_ n9_
                                clear hb hbox hg
                                refine hK.out _ _ ⟨(blk_cell BK295.out 0).trans rfl, (blk_cell BK295.out 1).trans rfl, (blk_cell BK296.out 0).trans rfl, (blk_cell BK296.out 1).trans rfl⟩ (fun hHeld => ?_)
                                clear hK K
                                refine norm_ (a' := ?_) ?_ ?_
                                rotate_left
                                · show Act.put _ (some 5) _ = _
                                  simp only [Act.put, List.setIfInBounds_toArray, List.set_cons_zero, List.set_cons_succ, i64_w, i32_w]
                                  rfl
                                exact norm_ (by first | (simp only [putAll, Act.put, List.setIfInBounds_toArray, List.set_cons_zero, List.set_cons_succ]; done) | (simp only [putAll, Act.put, List.setIfInBounds_toArray, List.set_cons_zero, List.set_cons_succ]; rfl)) (hJ4 (gb308) _ ⟨hHeld, bk_a, bk_a, bk_a, GW308.out, GE308.out, NB295_308.out, NB308_295.out, NB296_308.out, NB308_296.out, hb_a⟩)
                              · skip
                                refine box_step ?hg (N := 6) ?hd (cs := #[.slice none 0 0, .bool false]) (t := 24) ?hr ?_; (case hd => rfl); (case hg => rfl); (case hr => first | (go_simp; done) | (go_simp; rfl))
                                intro gb309 hg w212 hbox hb
                                have n0_ := Aside0.mk (blk_below (g := gb295) (o := .cells #[.slice A0_0 l0_0.length c0_0, .bool a0_1] 24 (0, 0)) bk_a hb)
                                have n1_ := Aside0.mk (blk_below (g := gb296) (o := .cells #[.slice A1_0 l1_0.length c1_0, .bool a1_1] 24 (0, 0)) bk_a hb)
                                have n2_ := Aside0.mk (below_step hb_a hb)
                                have n3_ := Aside0.mk (hbox)
                                have n4_ := Aside0.mk ((by rw [hg]; exact (below_size hb_a) : w.heap.size ≤ gb309))
                                have n5_ := Aside0.mk ((by rw [hg]; exact (below_size hb_a) : w.heap.size ≤ gb309))
                                have n6_ := Aside0.mk ((by rw [hg]; exact Nat.ne_of_lt (blk_lt (g := gb295) (o := .cells #[.slice A0_0 l0_0.length c0_0, .bool a0_1] 24 (0, 0)) bk_a) : gb295 ≠ gb309))
                                have n7_ := Aside0.mk ((by rw [hg]; exact Nat.ne_of_gt (blk_lt (g := gb295) (o := .cells #[.slice A0_0 l0_0.length c0_0, .bool a0_1] 24 (0, 0)) bk_a) : gb309 ≠ gb295))
                                have n8_ := Aside0.mk ((by rw [hg]; exact Nat.ne_of_lt (blk_lt (g := gb296) (o := .cells #[.slice A1_0 l1_0.length c1_0, .bool a1_1] 24 (0, 0)) bk_a) : gb296 ≠ gb309))
                                have n9_ := Aside0.mk ((by rw [hg]; exact Nat.ne_of_gt (blk_lt (g := gb296) (o := .cells #[.slice A1_0 l1_0.length c1_0, .bool a1_1] 24 (0, 0)) bk_a) : gb309 ≠ gb296))
                                clear BK295; clear BK296; clear HB
                                have BK295 := n0_
                                have BK296 := n1_
                                have HB := n2_
                                have BK309 := n3_
                                have GW309 := n4_
                                have GE309 := n5_
                                have NB295_309 := n6_
                                have NB309_295 := n7_
                                have NB296_309 := n8_
                                have NB309_296 := n9_
                                clear n0_ n1_ n2_ n3_ n4_ n5_ n6_ n7_ n8_ n9_
                                clear hb hbox hg
                                refine hK.out _ _ ⟨(blk_cell BK295.out 0).trans rfl, (blk_cell BK295.out 1).trans rfl, (blk_cell BK296.out 0).trans rfl, (blk_cell BK296.out 1).trans rfl⟩ (fun hHeld => ?_)
                                clear hK K
                                refine norm_ (a' := ?_) ?_ ?_
                                rotate_left
                                · show Act.put _ (some 6) _ = _
                                  simp only [Act.put, List.setIfInBounds_toArray, List.set_cons_zero, List.set_cons_succ, i64_w, i32_w]
                                  rfl
                                exact norm_ (by first | (simp only [putAll, Act.put, List.setIfInBounds_toArray, List.set_cons_zero, List.set_cons_succ]; done) | (simp only [putAll, Act.put, List.setIfInBounds_toArray, List.set_cons_zero, List.set_cons_succ]; rfl)) (hJ5 (gb309) _ ⟨hHeld, bk_a, bk_a, bk_a, GW309.out, GE309.out, NB295_309.out, NB309_295.out, NB296_309.out, NB309_296.out, hb_a⟩)
                            · skip
                              rintro gb309 w213 ⟨hS_, h0_, h1_, h2_, h3_, h4_, h5_, h6_, h7_, h8_, h9_⟩
                              have n0_ : Aside0 (w213.heap[gb295]? = some (.cells #[.slice A0_0 l0_0.length c0_0, .bool a0_1] 24 (0, 0))) := ⟨h0_⟩
                              have n1_ : Aside0 (w213.heap[gb296]? = some (.cells #[.slice A1_0 l1_0.length c1_0, .bool a1_1] 24 (0, 0))) := ⟨h1_⟩
                              have n2_ : Aside0 (w213.heap[gb309]? = some (.cells #[.slice none 0 0, .bool false] 24 (0, 0))) := ⟨h2_⟩
                              have n3_ : Aside0 (w.heap.size ≤ gb309) := ⟨h3_⟩
                              have n4_ : Aside0 (w.heap.size ≤ gb309) := ⟨h4_⟩
                              have n5_ : Aside0 (gb295 ≠ gb309) := ⟨h5_⟩
                              have n6_ : Aside0 (gb309 ≠ gb295) := ⟨h6_⟩
                              have n7_ : Aside0 (gb296 ≠ gb309) := ⟨h7_⟩
                              have n8_ : Aside0 (gb309 ≠ gb296) := ⟨h8_⟩
                              have n9_ : Aside0 (Below w.heap.size w w213) := ⟨h9_⟩
                              clear BK295; clear BK296; clear HB
                              clear h0_ h1_ h2_ h3_ h4_ h5_ h6_ h7_ h8_ h9_
                              have BK295 := n0_
                              have BK296 := n1_
                              have BK309 := n2_
                              have GW309 := n3_
                              have GE309 := n4_
                              have NB295_309 := n5_
                              have NB309_295 := n6_
                              have NB296_309 := n7_
                              have NB309_296 := n8_
                              have HB := n9_
                              clear n0_ n1_ n2_ n3_ n4_ n5_ n6_ n7_ n8_ n9_
                              have hHeld : w213.cell? ⟨gb295, 0, none⟩ = some (.slice A0_0 l0_0.length c0_0) ∧ w213.cell? ⟨gb295, 1, none⟩ = some (.bool a0_1) ∧ w213.cell? ⟨gb296, 0, none⟩ = some (.slice A1_0 l1_0.length c1_0) ∧ w213.cell? ⟨gb296, 1, none⟩ = some (.bool a1_1) := hS_
                              refine norm_ (a' := ?_) ?_ ?_
                              rotate_left
                              · simp only [putAll, Act.put, List.setIfInBounds_toArray, List.set_cons_zero, List.set_cons_succ]
                                rfl
                              refine two_ (i := 1) (j := 4) (Ni := some 21) (Nj := some 5) #[true, true, true, false, false, true, false, false] #[true, false, true, false, true, true, false, false] rfl rfl rfl rfl (two_of HT_.out (by kernel_rfl)) (by decide) (by decide) (fun K hK => ?_) (fun K hK => ?_)
                              · skip
                                refine goes_ Tryd.func13 (by kernel_rfl) rfl #[.agg #[.slice A0_0 l0_0.length c0_0, .bool a0_1]] (by rfl) rfl rfl (by (try simp only [List.map_toArray, List.map_cons, List.map_nil]); first | done | rfl | (simp only [List.length_drop, List.length_take]; rfl)) ?_
                                with_reducible refine (stockyardlaw03_copied.calls _ _ l0_0 a0_1 t300 t303 _ ?side1 ?side2 A20.out).mono ?_
                                (case side1 => repeat (first | exact (Kd.C_below HR0_0.out HB.out) | (with_reducible refine Kd.C_alloc ?_ _) | (with_reducible refine Kd.C_drewN ?_ _) | (with_reducible refine Kd.C_drew ?_)))
                                (case side2 => exact HC0_0.out)
                                rintro e w214 ⟨v301, rfl, ho0, hb⟩
                                refine ⟨_, rfl, ?_⟩
                                have n0_ := Aside0.mk (Kd.R_lower ho0 (below_size hb_a))
                                have n1_ := Aside0.mk (blk_below (g := gb295) (o := .cells #[.slice A0_0 l0_0.length c0_0, .bool a0_1] 24 (0, 0)) bk_a hb)
                                have n2_ := Aside0.mk (blk_below (g := gb296) (o := .cells #[.slice A1_0 l1_0.length c1_0, .bool a1_1] 24 (0, 0)) bk_a hb)
                                have n3_ := Aside0.mk (blk_below (g := gb309) (o := .cells #[.slice none 0 0, .bool false] 24 (0, 0)) bk_a hb)
                                have n4_ := Aside0.mk (below_step hb_a hb)
                                clear BK295; clear BK296; clear BK309; clear HB
                                have HO302 := n0_
                                have BK295 := n1_
                                have BK296 := n2_
                                have BK309 := n3_
                                have HB := n4_
                                clear n0_ n1_ n2_ n3_ n4_
                                (try clear hb)
                                (try clear hb2)
                                (try clear hk)
                                (try clear hi)
                                (try clear ho0)
                                refine hK.out _ _ ⟨(blk_cell BK295.out 0).trans rfl, (blk_cell BK295.out 1).trans rfl, (blk_cell BK296.out 0).trans rfl, (blk_cell BK296.out 1).trans rfl⟩ (fun hHeld => ?_)
                                clear hK K
                                refine norm_ (a' := ?_) ?_ ?_
                                rotate_left
                                · show Act.put _ (some 21) _ = _
                                  simp only [Act.put, List.setIfInBounds_toArray, List.set_cons_zero, List.set_cons_succ, i64_w, i32_w]
                                  rfl
                                exact norm_ (by first | (simp only [putAll, Act.put, List.setIfInBounds_toArray, List.set_cons_zero, List.set_cons_succ]; done) | (simp only [putAll, Act.put, List.setIfInBounds_toArray, List.set_cons_zero, List.set_cons_succ]; rfl)) (hJ1_5 (v301, gb309) _ ⟨hHeld, (by (with_reducible repeat (first | apply Kd.R_alloc | apply Kd.R_drewN | apply Kd.R_drew)); exact HO302.out), bk_a, bk_a, bk_a, GW309.out, GE309.out, NB295_309.out, NB309_295.out, NB296_309.out, NB309_296.out, hb_a⟩)
                              · skip
                                refine box_step ?hg (N := 5) ?hd (cs := #[.slice none 0 0, .bool false]) (t := 24) ?hr ?_; (case hd => rfl); (case hg => rfl); (case hr => first | (go_simp; done) | (go_simp; rfl))
                                intro gb308 hg w214 hbox hb
                                have n0_ := Aside0.mk (blk_below (g := gb295) (o := .cells #[.slice A0_0 l0_0.length c0_0, .bool a0_1] 24 (0, 0)) bk_a hb)
                                have n1_ := Aside0.mk (blk_below (g := gb296) (o := .cells #[.slice A1_0 l1_0.length c1_0, .bool a1_1] 24 (0, 0)) bk_a hb)
                                have n2_ := Aside0.mk (blk_below (g := gb309) (o := .cells #[.slice none 0 0, .bool false] 24 (0, 0)) bk_a hb)
                                have n3_ := Aside0.mk (below_step hb_a hb)
                                have n4_ := Aside0.mk (hbox)
                                have n5_ := Aside0.mk ((by rw [hg]; exact (below_size hb_a) : w.heap.size ≤ gb308))
                                have n6_ := Aside0.mk ((by rw [hg]; exact (below_size hb_a) : w.heap.size ≤ gb308))
                                have n7_ := Aside0.mk ((by rw [hg]; exact Nat.ne_of_lt (blk_lt (g := gb295) (o := .cells #[.slice A0_0 l0_0.length c0_0, .bool a0_1] 24 (0, 0)) bk_a) : gb295 ≠ gb308))
                                have n8_ := Aside0.mk ((by rw [hg]; exact Nat.ne_of_gt (blk_lt (g := gb295) (o := .cells #[.slice A0_0 l0_0.length c0_0, .bool a0_1] 24 (0, 0)) bk_a) : gb308 ≠ gb295))
                                have n9_ := Aside0.mk ((by rw [hg]; exact Nat.ne_of_lt (blk_lt (g := gb296) (o := .cells #[.slice A1_0 l1_0.length c1_0, .bool a1_1] 24 (0, 0)) bk_a) : gb296 ≠ gb308))
                                have n10_ := Aside0.mk ((by rw [hg]; exact Nat.ne_of_gt (blk_lt (g := gb296) (o := .cells #[.slice A1_0 l1_0.length c1_0, .bool a1_1] 24 (0, 0)) bk_a) : gb308 ≠ gb296))
                                have n11_ := Aside0.mk ((by rw [hg]; exact Nat.ne_of_lt (blk_lt (g := gb309) (o := .cells #[.slice none 0 0, .bool false] 24 (0, 0)) bk_a) : gb309 ≠ gb308))
                                have n12_ := Aside0.mk ((by rw [hg]; exact Nat.ne_of_gt (blk_lt (g := gb309) (o := .cells #[.slice none 0 0, .bool false] 24 (0, 0)) bk_a) : gb308 ≠ gb309))
                                clear BK295; clear BK296; clear BK309; clear HB
                                have BK295 := n0_
                                have BK296 := n1_
                                have BK309 := n2_
                                have HB := n3_
                                have BK308 := n4_
                                have GW308 := n5_
                                have GE308 := n6_
                                have NB295_308 := n7_
                                have NB308_295 := n8_
                                have NB296_308 := n9_
                                have NB308_296 := n10_
                                have NB309_308 := n11_
                                have NB308_309 := n12_
                                clear n0_ n1_ n2_ n3_ n4_ n5_ n6_ n7_ n8_ n9_ n10_ n11_ n12_
                                clear hb hbox hg
                                refine hK.out _ _ ⟨(blk_cell BK295.out 0).trans rfl, (blk_cell BK295.out 1).trans rfl, (blk_cell BK296.out 0).trans rfl, (blk_cell BK296.out 1).trans rfl⟩ (fun hHeld => ?_)
                                clear hK K
                                refine norm_ (a' := ?_) ?_ ?_
                                rotate_left
                                · show Act.put _ (some 5) _ = _
                                  simp only [Act.put, List.setIfInBounds_toArray, List.set_cons_zero, List.set_cons_succ, i64_w, i32_w]
                                  rfl
                                exact norm_ (by first | (simp only [putAll, Act.put, List.setIfInBounds_toArray, List.set_cons_zero, List.set_cons_succ]; done) | (simp only [putAll, Act.put, List.setIfInBounds_toArray, List.set_cons_zero, List.set_cons_succ]; rfl)) (hJ4_5 (gb308, gb309) _ ⟨hHeld, bk_a, bk_a, bk_a, bk_a, GW308.out, GE308.out, NB295_308.out, NB308_295.out, NB296_308.out, NB308_296.out, NB309_308.out, NB308_309.out, GW309.out, GE309.out, NB295_309.out, NB309_295.out, NB296_309.out, NB309_296.out, hb_a⟩)
                          · skip
                            rintro gb308 w213 ⟨hS_, h0_, h1_, h2_, h3_, h4_, h5_, h6_, h7_, h8_, h9_⟩
                            have n0_ : Aside0 (w213.heap[gb295]? = some (.cells #[.slice A0_0 l0_0.length c0_0, .bool a0_1] 24 (0, 0))) := ⟨h0_⟩
                            have n1_ : Aside0 (w213.heap[gb296]? = some (.cells #[.slice A1_0 l1_0.length c1_0, .bool a1_1] 24 (0, 0))) := ⟨h1_⟩
                            have n2_ : Aside0 (w213.heap[gb308]? = some (.cells #[.slice none 0 0, .bool false] 24 (0, 0))) := ⟨h2_⟩
                            have n3_ : Aside0 (w.heap.size ≤ gb308) := ⟨h3_⟩
                            have n4_ : Aside0 (w.heap.size ≤ gb308) := ⟨h4_⟩
                            have n5_ : Aside0 (gb295 ≠ gb308) := ⟨h5_⟩
                            have n6_ : Aside0 (gb308 ≠ gb295) := ⟨h6_⟩
                            have n7_ : Aside0 (gb296 ≠ gb308) := ⟨h7_⟩
                            have n8_ : Aside0 (gb308 ≠ gb296) := ⟨h8_⟩
                            have n9_ : Aside0 (Below w.heap.size w w213) := ⟨h9_⟩
                            clear BK295; clear BK296; clear HB
                            clear h0_ h1_ h2_ h3_ h4_ h5_ h6_ h7_ h8_ h9_
                            have BK295 := n0_
                            have BK296 := n1_
                            have BK308 := n2_
                            have GW308 := n3_
                            have GE308 := n4_
                            have NB295_308 := n5_
                            have NB308_295 := n6_
                            have NB296_308 := n7_
                            have NB308_296 := n8_
                            have HB := n9_
                            clear n0_ n1_ n2_ n3_ n4_ n5_ n6_ n7_ n8_ n9_
                            have hHeld : w213.cell? ⟨gb295, 0, none⟩ = some (.slice A0_0 l0_0.length c0_0) ∧ w213.cell? ⟨gb295, 1, none⟩ = some (.bool a0_1) ∧ w213.cell? ⟨gb296, 0, none⟩ = some (.slice A1_0 l1_0.length c1_0) ∧ w213.cell? ⟨gb296, 1, none⟩ = some (.bool a1_1) := hS_
                            refine norm_ (a' := ?_) ?_ ?_
                            rotate_left
                            · simp only [putAll, Act.put, List.setIfInBounds_toArray, List.set_cons_zero, List.set_cons_succ]
                              rfl
                            refine two_ (i := 1) (j := 5) (Ni := some 21) (Nj := some 6) #[true, true, true, false, true, false, false, false] #[true, false, true, false, true, true, false, false] rfl rfl rfl rfl (two_of HT_.out (by kernel_rfl)) (by decide) (by decide) (fun K hK => ?_) (fun K hK => ?_)
                            · skip
                              refine goes_ Tryd.func13 (by kernel_rfl) rfl #[.agg #[.slice A0_0 l0_0.length c0_0, .bool a0_1]] (by rfl) rfl rfl (by (try simp only [List.map_toArray, List.map_cons, List.map_nil]); first | done | rfl | (simp only [List.length_drop, List.length_take]; rfl)) ?_
                              with_reducible refine (stockyardlaw03_copied.calls _ _ l0_0 a0_1 t300 t303 _ ?side1 ?side2 A20.out).mono ?_
                              (case side1 => repeat (first | exact (Kd.C_below HR0_0.out HB.out) | (with_reducible refine Kd.C_alloc ?_ _) | (with_reducible refine Kd.C_drewN ?_ _) | (with_reducible refine Kd.C_drew ?_)))
                              (case side2 => exact HC0_0.out)
                              rintro e w214 ⟨v301, rfl, ho0, hb⟩
                              refine ⟨_, rfl, ?_⟩
                              have n0_ := Aside0.mk (Kd.R_lower ho0 (below_size hb_a))
                              have n1_ := Aside0.mk (blk_below (g := gb295) (o := .cells #[.slice A0_0 l0_0.length c0_0, .bool a0_1] 24 (0, 0)) bk_a hb)
                              have n2_ := Aside0.mk (blk_below (g := gb296) (o := .cells #[.slice A1_0 l1_0.length c1_0, .bool a1_1] 24 (0, 0)) bk_a hb)
                              have n3_ := Aside0.mk (blk_below (g := gb308) (o := .cells #[.slice none 0 0, .bool false] 24 (0, 0)) bk_a hb)
                              have n4_ := Aside0.mk (below_step hb_a hb)
                              clear BK295; clear BK296; clear BK308; clear HB
                              have HO302 := n0_
                              have BK295 := n1_
                              have BK296 := n2_
                              have BK308 := n3_
                              have HB := n4_
                              clear n0_ n1_ n2_ n3_ n4_
                              (try clear hb)
                              (try clear hb2)
                              (try clear hk)
                              (try clear hi)
                              (try clear ho0)
                              refine hK.out _ _ ⟨(blk_cell BK295.out 0).trans rfl, (blk_cell BK295.out 1).trans rfl, (blk_cell BK296.out 0).trans rfl, (blk_cell BK296.out 1).trans rfl⟩ (fun hHeld => ?_)
                              clear hK K
                              refine norm_ (a' := ?_) ?_ ?_
                              rotate_left
                              · show Act.put _ (some 21) _ = _
                                simp only [Act.put, List.setIfInBounds_toArray, List.set_cons_zero, List.set_cons_succ, i64_w, i32_w]
                                rfl
                              exact norm_ (by first | (simp only [putAll, Act.put, List.setIfInBounds_toArray, List.set_cons_zero, List.set_cons_succ]; done) | (simp only [putAll, Act.put, List.setIfInBounds_toArray, List.set_cons_zero, List.set_cons_succ]; rfl)) (hJ1_4 (v301, gb308) _ ⟨hHeld, (by (with_reducible repeat (first | apply Kd.R_alloc | apply Kd.R_drewN | apply Kd.R_drew)); exact HO302.out), bk_a, bk_a, bk_a, GW308.out, GE308.out, NB295_308.out, NB308_295.out, NB296_308.out, NB308_296.out, hb_a⟩)
                            · skip
                              refine box_step ?hg (N := 6) ?hd (cs := #[.slice none 0 0, .bool false]) (t := 24) ?hr ?_; (case hd => rfl); (case hg => rfl); (case hr => first | (go_simp; done) | (go_simp; rfl))
                              intro gb309 hg w214 hbox hb
                              have n0_ := Aside0.mk (blk_below (g := gb295) (o := .cells #[.slice A0_0 l0_0.length c0_0, .bool a0_1] 24 (0, 0)) bk_a hb)
                              have n1_ := Aside0.mk (blk_below (g := gb296) (o := .cells #[.slice A1_0 l1_0.length c1_0, .bool a1_1] 24 (0, 0)) bk_a hb)
                              have n2_ := Aside0.mk (blk_below (g := gb308) (o := .cells #[.slice none 0 0, .bool false] 24 (0, 0)) bk_a hb)
                              have n3_ := Aside0.mk (below_step hb_a hb)
                              have n4_ := Aside0.mk (hbox)
                              have n5_ := Aside0.mk ((by rw [hg]; exact (below_size hb_a) : w.heap.size ≤ gb309))
                              have n6_ := Aside0.mk ((by rw [hg]; exact (below_size hb_a) : w.heap.size ≤ gb309))
                              have n7_ := Aside0.mk ((by rw [hg]; exact Nat.ne_of_lt (blk_lt (g := gb295) (o := .cells #[.slice A0_0 l0_0.length c0_0, .bool a0_1] 24 (0, 0)) bk_a) : gb295 ≠ gb309))
                              have n8_ := Aside0.mk ((by rw [hg]; exact Nat.ne_of_gt (blk_lt (g := gb295) (o := .cells #[.slice A0_0 l0_0.length c0_0, .bool a0_1] 24 (0, 0)) bk_a) : gb309 ≠ gb295))
                              have n9_ := Aside0.mk ((by rw [hg]; exact Nat.ne_of_lt (blk_lt (g := gb296) (o := .cells #[.slice A1_0 l1_0.length c1_0, .bool a1_1] 24 (0, 0)) bk_a) : gb296 ≠ gb309))
                              have n10_ := Aside0.mk ((by rw [hg]; exact Nat.ne_of_gt (blk_lt (g := gb296) (o := .cells #[.slice A1_0 l1_0.length c1_0, .bool a1_1] 24 (0, 0)) bk_a) : gb309 ≠ gb296))
                              have n11_ := Aside0.mk ((by rw [hg]; exact Nat.ne_of_lt (blk_lt (g := gb308) (o := .cells #[.slice none 0 0, .bool false] 24 (0, 0)) bk_a) : gb308 ≠ gb309))
                              have n12_ := Aside0.mk ((by rw [hg]; exact Nat.ne_of_gt (blk_lt (g := gb308) (o := .cells #[.slice none 0 0, .bool false] 24 (0, 0)) bk_a) : gb309 ≠ gb308))
                              clear BK295; clear BK296; clear BK308; clear HB
                              have BK295 := n0_
                              have BK296 := n1_
                              have BK308 := n2_
                              have HB := n3_
                              have BK309 := n4_
                              have GW309 := n5_
                              have GE309 := n6_
                              have NB295_309 := n7_
                              have NB309_295 := n8_
                              have NB296_309 := n9_
                              have NB309_296 := n10_
                              have NB308_309 := n11_
                              have NB309_308 := n12_
                              clear n0_ n1_ n2_ n3_ n4_ n5_ n6_ n7_ n8_ n9_ n10_ n11_ n12_
                              clear hb hbox hg
                              refine hK.out _ _ ⟨(blk_cell BK295.out 0).trans rfl, (blk_cell BK295.out 1).trans rfl, (blk_cell BK296.out 0).trans rfl, (blk_cell BK296.out 1).trans rfl⟩ (fun hHeld => ?_)
                              clear hK K
                              refine norm_ (a' := ?_) ?_ ?_
                              rotate_left
                              · show Act.put _ (some 6) _ = _
                                simp only [Act.put, List.setIfInBounds_toArray, List.set_cons_zero, List.set_cons_succ, i64_w, i32_w]
                                rfl
                              exact norm_ (by first | (simp only [putAll, Act.put, List.setIfInBounds_toArray, List.set_cons_zero, List.set_cons_succ]; done) | (simp only [putAll, Act.put, List.setIfInBounds_toArray, List.set_cons_zero, List.set_cons_succ]; rfl)) (hJ4_5 (gb308, gb309) _ ⟨hHeld, bk_a, bk_a, bk_a, bk_a, GW308.out, GE308.out, NB295_308.out, NB308_295.out, NB296_308.out, NB308_296.out, NB309_308.out, NB308_309.out, GW309.out, GE309.out, NB295_309.out, NB309_295.out, NB296_309.out, NB309_296.out, hb_a⟩)
                        · skip
                          rintro v301 w213 ⟨hS_, h0_, h1_, h2_, h3_⟩
                          have n0_ : Aside0 (Kd.R Kd.string 9 w213 w.heap.size (fun _ => True) v301 t300) := ⟨h0_⟩
                          have n1_ : Aside0 (w213.heap[gb295]? = some (.cells #[.slice A0_0 l0_0.length c0_0, .bool a0_1] 24 (0, 0))) := ⟨h1_⟩
                          have n2_ : Aside0 (w213.heap[gb296]? = some (.cells #[.slice A1_0 l1_0.length c1_0, .bool a1_1] 24 (0, 0))) := ⟨h2_⟩
                          have n3_ : Aside0 (Below w.heap.size w w213) := ⟨h3_⟩
                          clear BK295; clear BK296; clear HB
                          clear h0_ h1_ h2_ h3_
                          have HO302 := n0_
                          have BK295 := n1_
                          have BK296 := n2_
                          have HB := n3_
                          clear n0_ n1_ n2_ n3_
                          have hHeld : w213.cell? ⟨gb295, 0, none⟩ = some (.slice A0_0 l0_0.length c0_0) ∧ w213.cell? ⟨gb295, 1, none⟩ = some (.bool a0_1) ∧ w213.cell? ⟨gb296, 0, none⟩ = some (.slice A1_0 l1_0.length c1_0) ∧ w213.cell? ⟨gb296, 1, none⟩ = some (.bool a1_1) := hS_
                          refine norm_ (a' := ?_) ?_ ?_
                          rotate_left
                          · simp only [putAll, Act.put, List.setIfInBounds_toArray, List.set_cons_zero, List.set_cons_succ]
                            rfl
                          refine three_ (i := 3) (j := 4) (k := 5) (Ni := some 23) (Nj := some 5) (Nk := some 6) #[true, true, true, true, false, false, false, false] #[true, true, true, false, true, false, false, false] #[true, true, true, false, false, true, false, false] rfl rfl rfl rfl rfl rfl (three_of HT_.out (by kernel_rfl)) (by decide) (by decide) (by decide) (fun K hK => ?_) (fun K hK => ?_) (fun K hK => ?_)
                          · skip
                            refine goes_ Tryd.func13 (by kernel_rfl) rfl #[.agg #[.slice A1_0 l1_0.length c1_0, .bool a1_1]] (by rfl) rfl rfl (by (try simp only [List.map_toArray, List.map_cons, List.map_nil]); first | done | rfl | (simp only [List.length_drop, List.length_take]; rfl)) ?_
                            with_reducible refine (stockyardlaw03_copied.calls _ _ l1_0 a1_1 t304 t307 _ ?side1 ?side2 A21.out).mono ?_
                            (case side1 => repeat (first | exact (Kd.C_below HR1_0.out HB.out) | (with_reducible refine Kd.C_alloc ?_ _) | (with_reducible refine Kd.C_drewN ?_ _) | (with_reducible refine Kd.C_drew ?_)))
                            (case side2 => exact HC1_0.out)
                            rintro e w214 ⟨v305, rfl, ho0, hb⟩
                            refine ⟨_, rfl, ?_⟩
                            have n0_ := Aside0.mk (Kd.R_elder' (by (with_reducible repeat (first | apply Kd.R_alloc | apply Kd.R_drewN | apply Kd.R_drew)); exact HO302.out) (Kd.R_base ho0) hb)
                            have n1_ := Aside0.mk (Kd.R_lower (Kd.R_new' ho0 (Kd.R_lt (by (with_reducible repeat (first | apply Kd.R_alloc | apply Kd.R_drewN | apply Kd.R_drew)); exact HO302.out))) (below_size hb_a))
                            have n2_ := Aside0.mk (blk_below (g := gb295) (o := .cells #[.slice A0_0 l0_0.length c0_0, .bool a0_1] 24 (0, 0)) bk_a hb)
                            have n3_ := Aside0.mk (blk_below (g := gb296) (o := .cells #[.slice A1_0 l1_0.length c1_0, .bool a1_1] 24 (0, 0)) bk_a hb)
                            have n4_ := Aside0.mk (below_step hb_a hb)
                            clear HO302; clear BK295; clear BK296; clear HB
                            have HO302 := n0_
                            have HO306 := n1_
                            have BK295 := n2_
                            have BK296 := n3_
                            have HB := n4_
                            clear n0_ n1_ n2_ n3_ n4_
                            (try clear hb)
                            (try clear hb2)
                            (try clear hk)
                            (try clear hi)
                            (try clear ho0)
                            refine hK.out _ _ ⟨(blk_cell BK295.out 0).trans rfl, (blk_cell BK295.out 1).trans rfl, (blk_cell BK296.out 0).trans rfl, (blk_cell BK296.out 1).trans rfl⟩ (fun hHeld => ?_)
                            clear hK K
                            refine norm_ (a' := ?_) ?_ ?_
                            rotate_left
                            · show Act.put _ (some 23) _ = _
                              simp only [Act.put, List.setIfInBounds_toArray, List.set_cons_zero, List.set_cons_succ, i64_w, i32_w]
                              rfl
                            exact norm_ (by first | (simp only [putAll, Act.put, List.setIfInBounds_toArray, List.set_cons_zero, List.set_cons_succ]; done) | (simp only [putAll, Act.put, List.setIfInBounds_toArray, List.set_cons_zero, List.set_cons_succ]; rfl)) (hJ1_3 (v301, v305) _ ⟨hHeld, (by (with_reducible repeat (first | apply Kd.R_alloc | apply Kd.R_drewN | apply Kd.R_drew)); exact Kd.R_mono HO302.out (fun _ hk => hk.2)), (by (with_reducible repeat (first | apply Kd.R_alloc | apply Kd.R_drewN | apply Kd.R_drew)); exact Kd.R_mono HO306.out (fun _ hk => hk.2)), bk_a, bk_a, hb_a⟩)
                          · skip
                            refine box_step ?hg (N := 5) ?hd (cs := #[.slice none 0 0, .bool false]) (t := 24) ?hr ?_; (case hd => rfl); (case hg => rfl); (case hr => first | (go_simp; done) | (go_simp; rfl))
                            intro gb308 hg w214 hbox hb
                            have n0_ := Aside0.mk (Kd.R_below (by (with_reducible repeat (first | apply Kd.R_alloc | apply Kd.R_drewN | apply Kd.R_drew)); exact HO302.out) hb)
                            have n1_ := Aside0.mk (blk_below (g := gb295) (o := .cells #[.slice A0_0 l0_0.length c0_0, .bool a0_1] 24 (0, 0)) bk_a hb)
                            have n2_ := Aside0.mk (blk_below (g := gb296) (o := .cells #[.slice A1_0 l1_0.length c1_0, .bool a1_1] 24 (0, 0)) bk_a hb)
                            have n3_ := Aside0.mk (below_step hb_a hb)
                            have n4_ := Aside0.mk (hbox)
                            have n5_ := Aside0.mk ((by rw [hg]; exact (below_size hb_a) : w.heap.size ≤ gb308))
                            have n6_ := Aside0.mk ((by rw [hg]; exact (below_size hb_a) : w.heap.size ≤ gb308))
                            have n7_ := Aside0.mk ((by rw [hg]; exact Nat.ne_of_lt (blk_lt (g := gb295) (o := .cells #[.slice A0_0 l0_0.length c0_0, .bool a0_1] 24 (0, 0)) bk_a) : gb295 ≠ gb308))
                            have n8_ := Aside0.mk ((by rw [hg]; exact Nat.ne_of_gt (blk_lt (g := gb295) (o := .cells #[.slice A0_0 l0_0.length c0_0, .bool a0_1] 24 (0, 0)) bk_a) : gb308 ≠ gb295))
                            have n9_ := Aside0.mk ((by rw [hg]; exact Nat.ne_of_lt (blk_lt (g := gb296) (o := .cells #[.slice A1_0 l1_0.length c1_0, .bool a1_1] 24 (0, 0)) bk_a) : gb296 ≠ gb308))
                            have n10_ := Aside0.mk ((by rw [hg]; exact Nat.ne_of_gt (blk_lt (g := gb296) (o := .cells #[.slice A1_0 l1_0.length c1_0, .bool a1_1] 24 (0, 0)) bk_a) : gb308 ≠ gb296))
                            clear HO302; clear BK295; clear BK296; clear HB
                            have HO302 := n0_
                            have BK295 := n1_
                            have BK296 := n2_
                            have HB := n3_
                            have BK308 := n4_
                            have GW308 := n5_
                            have GE308 := n6_
                            have NB295_308 := n7_
                            have NB308_295 := n8_
                            have NB296_308 := n9_
                            have NB308_296 := n10_
                            clear n0_ n1_ n2_ n3_ n4_ n5_ n6_ n7_ n8_ n9_ n10_
                            clear hb hbox hg
                            refine hK.out _ _ ⟨(blk_cell BK295.out 0).trans rfl, (blk_cell BK295.out 1).trans rfl, (blk_cell BK296.out 0).trans rfl, (blk_cell BK296.out 1).trans rfl⟩ (fun hHeld => ?_)
                            clear hK K
                            refine norm_ (a' := ?_) ?_ ?_
                            rotate_left
                            · show Act.put _ (some 5) _ = _
                              simp only [Act.put, List.setIfInBounds_toArray, List.set_cons_zero, List.set_cons_succ, i64_w, i32_w]
                              rfl
                            exact norm_ (by first | (simp only [putAll, Act.put, List.setIfInBounds_toArray, List.set_cons_zero, List.set_cons_succ]; done) | (simp only [putAll, Act.put, List.setIfInBounds_toArray, List.set_cons_zero, List.set_cons_succ]; rfl)) (hJ1_4 (v301, gb308) _ ⟨hHeld, (by (with_reducible repeat (first | apply Kd.R_alloc | apply Kd.R_drewN | apply Kd.R_drew)); exact HO302.out), bk_a, bk_a, bk_a, GW308.out, GE308.out, NB295_308.out, NB308_295.out, NB296_308.out, NB308_296.out, hb_a⟩)
                          · skip
                            refine box_step ?hg (N := 6) ?hd (cs := #[.slice none 0 0, .bool false]) (t := 24) ?hr ?_; (case hd => rfl); (case hg => rfl); (case hr => first | (go_simp; done) | (go_simp; rfl))
                            intro gb309 hg w214 hbox hb
                            have n0_ := Aside0.mk (Kd.R_below (by (with_reducible repeat (first | apply Kd.R_alloc | apply Kd.R_drewN | apply Kd.R_drew)); exact HO302.out) hb)
                            have n1_ := Aside0.mk (blk_below (g := gb295) (o := .cells #[.slice A0_0 l0_0.length c0_0, .bool a0_1] 24 (0, 0)) bk_a hb)
                            have n2_ := Aside0.mk (blk_below (g := gb296) (o := .cells #[.slice A1_0 l1_0.length c1_0, .bool a1_1] 24 (0, 0)) bk_a hb)
                            have n3_ := Aside0.mk (below_step hb_a hb)
                            have n4_ := Aside0.mk (hbox)
                            have n5_ := Aside0.mk ((by rw [hg]; exact (below_size hb_a) : w.heap.size ≤ gb309))
                            have n6_ := Aside0.mk ((by rw [hg]; exact (below_size hb_a) : w.heap.size ≤ gb309))
                            have n7_ := Aside0.mk ((by rw [hg]; exact Nat.ne_of_lt (blk_lt (g := gb295) (o := .cells #[.slice A0_0 l0_0.length c0_0, .bool a0_1] 24 (0, 0)) bk_a) : gb295 ≠ gb309))
                            have n8_ := Aside0.mk ((by rw [hg]; exact Nat.ne_of_gt (blk_lt (g := gb295) (o := .cells #[.slice A0_0 l0_0.length c0_0, .bool a0_1] 24 (0, 0)) bk_a) : gb309 ≠ gb295))
                            have n9_ := Aside0.mk ((by rw [hg]; exact Nat.ne_of_lt (blk_lt (g := gb296) (o := .cells #[.slice A1_0 l1_0.length c1_0, .bool a1_1] 24 (0, 0)) bk_a) : gb296 ≠ gb309))
                            have n10_ := Aside0.mk ((by rw [hg]; exact Nat.ne_of_gt (blk_lt (g := gb296) (o := .cells #[.slice A1_0 l1_0.length c1_0, .bool a1_1] 24 (0, 0)) bk_a) : gb309 ≠ gb296))
                            clear HO302; clear BK295; clear BK296; clear HB
                            have HO302 := n0_
                            have BK295 := n1_
                            have BK296 := n2_
                            have HB := n3_
                            have BK309 := n4_
                            have GW309 := n5_
                            have GE309 := n6_
                            have NB295_309 := n7_
                            have NB309_295 := n8_
                            have NB296_309 := n9_
                            have NB309_296 := n10_
                            clear n0_ n1_ n2_ n3_ n4_ n5_ n6_ n7_ n8_ n9_ n10_
                            clear hb hbox hg
                            refine hK.out _ _ ⟨(blk_cell BK295.out 0).trans rfl, (blk_cell BK295.out 1).trans rfl, (blk_cell BK296.out 0).trans rfl, (blk_cell BK296.out 1).trans rfl⟩ (fun hHeld => ?_)
                            clear hK K
                            refine norm_ (a' := ?_) ?_ ?_
                            rotate_left
                            · show Act.put _ (some 6) _ = _
                              simp only [Act.put, List.setIfInBounds_toArray, List.set_cons_zero, List.set_cons_succ, i64_w, i32_w]
                              rfl
                            exact norm_ (by first | (simp only [putAll, Act.put, List.setIfInBounds_toArray, List.set_cons_zero, List.set_cons_succ]; done) | (simp only [putAll, Act.put, List.setIfInBounds_toArray, List.set_cons_zero, List.set_cons_succ]; rfl)) (hJ1_5 (v301, gb309) _ ⟨hHeld, (by (with_reducible repeat (first | apply Kd.R_alloc | apply Kd.R_drewN | apply Kd.R_drew)); exact HO302.out), bk_a, bk_a, bk_a, GW309.out, GE309.out, NB295_309.out, NB309_295.out, NB296_309.out, NB309_296.out, hb_a⟩)
                      · skip
                        rintro ⟨gb308, gb309⟩ w214 ⟨hS_, h0_, h1_, h2_, h3_, h4_, h5_, h6_, h7_, h8_, h9_, h10_, h11_, h12_, h13_, h14_, h15_, h16_, h17_, h18_⟩
                        have n0_ : Aside0 (w214.heap[gb295]? = some (.cells #[.slice A0_0 l0_0.length c0_0, .bool a0_1] 24 (0, 0))) := ⟨h0_⟩
                        have n1_ : Aside0 (w214.heap[gb296]? = some (.cells #[.slice A1_0 l1_0.length c1_0, .bool a1_1] 24 (0, 0))) := ⟨h1_⟩
                        have n2_ : Aside0 (w214.heap[gb308]? = some (.cells #[.slice none 0 0, .bool false] 24 (0, 0))) := ⟨h2_⟩
                        have n3_ : Aside0 (w214.heap[gb309]? = some (.cells #[.slice none 0 0, .bool false] 24 (0, 0))) := ⟨h3_⟩
                        have n4_ : Aside0 (w.heap.size ≤ gb308) := ⟨h4_⟩
                        have n5_ : Aside0 (w.heap.size ≤ gb308) := ⟨h5_⟩
                        have n6_ : Aside0 (gb295 ≠ gb308) := ⟨h6_⟩
                        have n7_ : Aside0 (gb308 ≠ gb295) := ⟨h7_⟩
                        have n8_ : Aside0 (gb296 ≠ gb308) := ⟨h8_⟩
                        have n9_ : Aside0 (gb308 ≠ gb296) := ⟨h9_⟩
                        have n10_ : Aside0 (gb309 ≠ gb308) := ⟨h10_⟩
                        have n11_ : Aside0 (gb308 ≠ gb309) := ⟨h11_⟩
                        have n12_ : Aside0 (w.heap.size ≤ gb309) := ⟨h12_⟩
                        have n13_ : Aside0 (w.heap.size ≤ gb309) := ⟨h13_⟩
                        have n14_ : Aside0 (gb295 ≠ gb309) := ⟨h14_⟩
                        have n15_ : Aside0 (gb309 ≠ gb295) := ⟨h15_⟩
                        have n16_ : Aside0 (gb296 ≠ gb309) := ⟨h16_⟩
                        have n17_ : Aside0 (gb309 ≠ gb296) := ⟨h17_⟩
                        have n18_ : Aside0 (Below w.heap.size w w214) := ⟨h18_⟩
                        clear BK295; clear BK296; clear HB
                        clear h0_ h1_ h2_ h3_ h4_ h5_ h6_ h7_ h8_ h9_ h10_ h11_ h12_ h13_ h14_ h15_ h16_ h17_ h18_
                        have BK295 := n0_
                        have BK296 := n1_
                        have BK308 := n2_
                        have BK309 := n3_
                        have GW308 := n4_
                        have GE308 := n5_
                        have NB295_308 := n6_
                        have NB308_295 := n7_
                        have NB296_308 := n8_
                        have NB308_296 := n9_
                        have NB309_308 := n10_
                        have NB308_309 := n11_
                        have GW309 := n12_
                        have GE309 := n13_
                        have NB295_309 := n14_
                        have NB309_295 := n15_
                        have NB296_309 := n16_
                        have NB309_296 := n17_
                        have HB := n18_
                        clear n0_ n1_ n2_ n3_ n4_ n5_ n6_ n7_ n8_ n9_ n10_ n11_ n12_ n13_ n14_ n15_ n16_ n17_ n18_
                        have hHeld : w214.cell? ⟨gb295, 0, none⟩ = some (.slice A0_0 l0_0.length c0_0) ∧ w214.cell? ⟨gb295, 1, none⟩ = some (.bool a0_1) ∧ w214.cell? ⟨gb296, 0, none⟩ = some (.slice A1_0 l1_0.length c1_0) ∧ w214.cell? ⟨gb296, 1, none⟩ = some (.bool a1_1) := hS_
                        refine norm_ (a' := ?_) ?_ ?_
                        rotate_left
                        · simp only [putAll, Act.put, List.setIfInBounds_toArray, List.set_cons_zero, List.set_cons_succ]
                          rfl
                        refine one_ (i := 1) (N := some 21) #[true, true, true, false, true, true, false, false] rfl rfl (one_of HT_.out (by kernel_rfl)) (by decide) (fun K hK => ?_)
                        refine goes_ Tryd.func13 (by kernel_rfl) rfl #[.agg #[.slice A0_0 l0_0.length c0_0, .bool a0_1]] (by rfl) rfl rfl (by (try simp only [List.map_toArray, List.map_cons, List.map_nil]); first | done | rfl | (simp only [List.length_drop, List.length_take]; rfl)) ?_
                        with_reducible refine (stockyardlaw03_copied.calls _ _ l0_0 a0_1 t300 t303 _ ?side1 ?side2 A20.out).mono ?_
                        (case side1 => repeat (first | exact (Kd.C_below HR0_0.out HB.out) | (with_reducible refine Kd.C_alloc ?_ _) | (with_reducible refine Kd.C_drewN ?_ _) | (with_reducible refine Kd.C_drew ?_)))
                        (case side2 => exact HC0_0.out)
                        rintro e w215 ⟨v301, rfl, ho0, hb⟩
                        refine ⟨_, rfl, ?_⟩
                        have n0_ := Aside0.mk (Kd.R_lower ho0 (below_size hb_a))
                        have n1_ := Aside0.mk (blk_below (g := gb295) (o := .cells #[.slice A0_0 l0_0.length c0_0, .bool a0_1] 24 (0, 0)) bk_a hb)
                        have n2_ := Aside0.mk (blk_below (g := gb296) (o := .cells #[.slice A1_0 l1_0.length c1_0, .bool a1_1] 24 (0, 0)) bk_a hb)
                        have n3_ := Aside0.mk (blk_below (g := gb308) (o := .cells #[.slice none 0 0, .bool false] 24 (0, 0)) bk_a hb)
                        have n4_ := Aside0.mk (blk_below (g := gb309) (o := .cells #[.slice none 0 0, .bool false] 24 (0, 0)) bk_a hb)
                        have n5_ := Aside0.mk (below_step hb_a hb)
                        clear BK295; clear BK296; clear BK308; clear BK309; clear HB
                        have HO302 := n0_
                        have BK295 := n1_
                        have BK296 := n2_
                        have BK308 := n3_
                        have BK309 := n4_
                        have HB := n5_
                        clear n0_ n1_ n2_ n3_ n4_ n5_
                        (try clear hb)
                        (try clear hb2)
                        (try clear hk)
                        (try clear hi)
                        (try clear ho0)
                        refine hK.out _ _ ⟨(blk_cell BK295.out 0).trans rfl, (blk_cell BK295.out 1).trans rfl, (blk_cell BK296.out 0).trans rfl, (blk_cell BK296.out 1).trans rfl⟩ (fun hHeld => ?_)
                        clear hK K
                        refine norm_ (a' := ?_) ?_ ?_
                        rotate_left
                        · show Act.put _ (some 21) _ = _
                          simp only [Act.put, List.setIfInBounds_toArray, List.set_cons_zero, List.set_cons_succ, i64_w, i32_w]
                          rfl
                        exact norm_ (by first | (simp only [putAll, Act.put, List.setIfInBounds_toArray, List.set_cons_zero, List.set_cons_succ]; done) | (simp only [putAll, Act.put, List.setIfInBounds_toArray, List.set_cons_zero, List.set_cons_succ]; rfl)) (hJ1_4_5 (v301, gb308, gb309) _ ⟨hHeld, (by (with_reducible repeat (first | apply Kd.R_alloc | apply Kd.R_drewN | apply Kd.R_drew)); exact HO302.out), bk_a, bk_a, bk_a, bk_a, GW308.out, GE308.out, NB295_308.out, NB308_295.out, NB296_308.out, NB308_296.out, NB309_308.out, NB308_309.out, GW309.out, GE309.out, NB295_309.out, NB309_295.out, NB296_309.out, NB309_296.out, hb_a⟩)
                    · skip
                      rintro ⟨v301, gb309⟩ w214 ⟨hS_, h0_, h1_, h2_, h3_, h4_, h5_, h6_, h7_, h8_, h9_, h10_⟩
                      have n0_ : Aside0 (Kd.R Kd.string 9 w214 w.heap.size (fun _ => True) v301 t300) := ⟨h0_⟩
                      have n1_ : Aside0 (w214.heap[gb295]? = some (.cells #[.slice A0_0 l0_0.length c0_0, .bool a0_1] 24 (0, 0))) := ⟨h1_⟩
                      have n2_ : Aside0 (w214.heap[gb296]? = some (.cells #[.slice A1_0 l1_0.length c1_0, .bool a1_1] 24 (0, 0))) := ⟨h2_⟩
                      have n3_ : Aside0 (w214.heap[gb309]? = some (.cells #[.slice none 0 0, .bool false] 24 (0, 0))) := ⟨h3_⟩
                      have n4_ : Aside0 (w.heap.size ≤ gb309) := ⟨h4_⟩
                      have n5_ : Aside0 (w.heap.size ≤ gb309) := ⟨h5_⟩
                      have n6_ : Aside0 (gb295 ≠ gb309) := ⟨h6_⟩
                      have n7_ : Aside0 (gb309 ≠ gb295) := ⟨h7_⟩
                      have n8_ : Aside0 (gb296 ≠ gb309) := ⟨h8_⟩
                      have n9_ : Aside0 (gb309 ≠ gb296) := ⟨h9_⟩
                      have n10_ : Aside0 (Below w.heap.size w w214) := ⟨h10_⟩
                      clear BK295; clear BK296; clear HB
                      clear h0_ h1_ h2_ h3_ h4_ h5_ h6_ h7_ h8_ h9_ h10_
                      have HO302 := n0_
                      have BK295 := n1_
                      have BK296 := n2_
                      have BK309 := n3_
                      have GW309 := n4_
                      have GE309 := n5_
                      have NB295_309 := n6_
                      have NB309_295 := n7_
                      have NB296_309 := n8_
                      have NB309_296 := n9_
                      have HB := n10_
                      clear n0_ n1_ n2_ n3_ n4_ n5_ n6_ n7_ n8_ n9_ n10_
                      have hHeld : w214.cell? ⟨gb295, 0, none⟩ = some (.slice A0_0 l0_0.length c0_0) ∧ w214.cell? ⟨gb295, 1, none⟩ = some (.bool a0_1) ∧ w214.cell? ⟨gb296, 0, none⟩ = some (.slice A1_0 l1_0.length c1_0) ∧ w214.cell? ⟨gb296, 1, none⟩ = some (.bool a1_1) := hS_
                      refine norm_ (a' := ?_) ?_ ?_
                      rotate_left
                      · simp only [putAll, Act.put, List.setIfInBounds_toArray, List.set_cons_zero, List.set_cons_succ]
                        rfl
                      refine two_ (i := 3) (j := 4) (Ni := some 23) (Nj := some 5) #[true, true, true, true, false, true, false, false] #[true, true, true, false, true, true, false, false] rfl rfl rfl rfl (two_of HT_.out (by kernel_rfl)) (by decide) (by decide) (fun K hK => ?_) (fun K hK => ?_)
                      · skip
                        refine goes_ Tryd.func13 (by kernel_rfl) rfl #[.agg #[.slice A1_0 l1_0.length c1_0, .bool a1_1]] (by rfl) rfl rfl (by (try simp only [List.map_toArray, List.map_cons, List.map_nil]); first | done | rfl | (simp only [List.length_drop, List.length_take]; rfl)) ?_
                        with_reducible refine (stockyardlaw03_copied.calls _ _ l1_0 a1_1 t304 t307 _ ?side1 ?side2 A21.out).mono ?_
                        (case side1 => repeat (first | exact (Kd.C_below HR1_0.out HB.out) | (with_reducible refine Kd.C_alloc ?_ _) | (with_reducible refine Kd.C_drewN ?_ _) | (with_reducible refine Kd.C_drew ?_)))
                        (case side2 => exact HC1_0.out)
                        rintro e w215 ⟨v305, rfl, ho0, hb⟩
                        refine ⟨_, rfl, ?_⟩
                        have n0_ := Aside0.mk (Kd.R_elder' (by (with_reducible repeat (first | apply Kd.R_alloc | apply Kd.R_drewN | apply Kd.R_drew)); exact HO302.out) (Kd.R_base ho0) hb)
                        have n1_ := Aside0.mk (Kd.R_lower (Kd.R_new' ho0 (Kd.R_lt (by (with_reducible repeat (first | apply Kd.R_alloc | apply Kd.R_drewN | apply Kd.R_drew)); exact HO302.out))) (below_size hb_a))
                        have n2_ := Aside0.mk (blk_below (g := gb295) (o := .cells #[.slice A0_0 l0_0.length c0_0, .bool a0_1] 24 (0, 0)) bk_a hb)
                        have n3_ := Aside0.mk (blk_below (g := gb296) (o := .cells #[.slice A1_0 l1_0.length c1_0, .bool a1_1] 24 (0, 0)) bk_a hb)
                        have n4_ := Aside0.mk (blk_below (g := gb309) (o := .cells #[.slice none 0 0, .bool false] 24 (0, 0)) bk_a hb)
                        have n5_ := Aside0.mk (below_step hb_a hb)
                        clear HO302; clear BK295; clear BK296; clear BK309; clear HB
                        have HO302 := n0_
                        have HO306 := n1_
                        have BK295 := n2_
                        have BK296 := n3_
                        have BK309 := n4_
                        have HB := n5_
                        clear n0_ n1_ n2_ n3_ n4_ n5_
                        (try clear hb)
                        (try clear hb2)
                        (try clear hk)
                        (try clear hi)
                        (try clear ho0)
                        refine hK.out _ _ ⟨(blk_cell BK295.out 0).trans rfl, (blk_cell BK295.out 1).trans rfl, (blk_cell BK296.out 0).trans rfl, (blk_cell BK296.out 1).trans rfl⟩ (fun hHeld => ?_)
                        clear hK K
                        refine norm_ (a' := ?_) ?_ ?_
                        rotate_left
                        · show Act.put _ (some 23) _ = _
                          simp only [Act.put, List.setIfInBounds_toArray, List.set_cons_zero, List.set_cons_succ, i64_w, i32_w]
                          rfl
                        exact norm_ (by first | (simp only [putAll, Act.put, List.setIfInBounds_toArray, List.set_cons_zero, List.set_cons_succ]; done) | (simp only [putAll, Act.put, List.setIfInBounds_toArray, List.set_cons_zero, List.set_cons_succ]; rfl)) (hJ1_3_5 (v301, v305, gb309) _ ⟨hHeld, (by (with_reducible repeat (first | apply Kd.R_alloc | apply Kd.R_drewN | apply Kd.R_drew)); exact Kd.R_mono HO302.out (fun _ hk => hk.2)), (by (with_reducible repeat (first | apply Kd.R_alloc | apply Kd.R_drewN | apply Kd.R_drew)); exact Kd.R_mono HO306.out (fun _ hk => hk.2)), bk_a, bk_a, bk_a, GW309.out, GE309.out, NB295_309.out, NB309_295.out, NB296_309.out, NB309_296.out, hb_a⟩)
                      · skip
                        refine box_step ?hg (N := 5) ?hd (cs := #[.slice none 0 0, .bool false]) (t := 24) ?hr ?_; (case hd => rfl); (case hg => rfl); (case hr => first | (go_simp; done) | (go_simp; rfl))
                        intro gb308 hg w215 hbox hb
                        have n0_ := Aside0.mk (Kd.R_below (by (with_reducible repeat (first | apply Kd.R_alloc | apply Kd.R_drewN | apply Kd.R_drew)); exact HO302.out) hb)
                        have n1_ := Aside0.mk (blk_below (g := gb295) (o := .cells #[.slice A0_0 l0_0.length c0_0, .bool a0_1] 24 (0, 0)) bk_a hb)
                        have n2_ := Aside0.mk (blk_below (g := gb296) (o := .cells #[.slice A1_0 l1_0.length c1_0, .bool a1_1] 24 (0, 0)) bk_a hb)
                        have n3_ := Aside0.mk (blk_below (g := gb309) (o := .cells #[.slice none 0 0, .bool false] 24 (0, 0)) bk_a hb)
                        have n4_ := Aside0.mk (below_step hb_a hb)
                        have n5_ := Aside0.mk (hbox)
                        have n6_ := Aside0.mk ((by rw [hg]; exact (below_size hb_a) : w.heap.size ≤ gb308))
                        have n7_ := Aside0.mk ((by rw [hg]; exact (below_size hb_a) : w.heap.size ≤ gb308))
                        have n8_ := Aside0.mk ((by rw [hg]; exact Nat.ne_of_lt (blk_lt (g := gb295) (o := .cells #[.slice A0_0 l0_0.length c0_0, .bool a0_1] 24 (0, 0)) bk_a) : gb295 ≠ gb308))
                        have n9_ := Aside0.mk ((by rw [hg]; exact Nat.ne_of_gt (blk_lt (g := gb295) (o := .cells #[.slice A0_0 l0_0.length c0_0, .bool a0_1] 24 (0, 0)) bk_a) : gb308 ≠ gb295))
                        have n10_ := Aside0.mk ((by rw [hg]; exact Nat.ne_of_lt (blk_lt (g := gb296) (o := .cells #[.slice A1_0 l1_0.length c1_0, .bool a1_1] 24 (0, 0)) bk_a) : gb296 ≠ gb308))
                        have n11_ := Aside0.mk ((by rw [hg]; exact Nat.ne_of_gt (blk_lt (g := gb296) (o := .cells #[.slice A1_0 l1_0.length c1_0, .bool a1_1] 24 (0, 0)) bk_a) : gb308 ≠ gb296))
                        have n12_ := Aside0.mk ((by rw [hg]; exact Nat.ne_of_lt (blk_lt (g := gb309) (o := .cells #[.slice none 0 0, .bool false] 24 (0, 0)) bk_a) : gb309 ≠ gb308))
                        have n13_ := Aside0.mk ((by rw [hg]; exact Nat.ne_of_gt (blk_lt (g := gb309) (o := .cells #[.slice none 0 0, .bool false] 24 (0, 0)) bk_a) : gb308 ≠ gb309))
                        clear HO302; clear BK295; clear BK296; clear BK309; clear HB
                        have HO302 := n0_
                        have BK295 := n1_
                        have BK296 := n2_
                        have BK309 := n3_
                        have HB := n4_
                        have BK308 := n5_
                        have GW308 := n6_
                        have GE308 := n7_
                        have NB295_308 := n8_
                        have NB308_295 := n9_
                        have NB296_308 := n10_
                        have NB308_296 := n11_
                        have NB309_308 := n12_
                        have NB308_309 := n13_
                        clear n0_ n1_ n2_ n3_ n4_ n5_ n6_ n7_ n8_ n9_ n10_ n11_ n12_ n13_
                        clear hb hbox hg
                        refine hK.out _ _ ⟨(blk_cell BK295.out 0).trans rfl, (blk_cell BK295.out 1).trans rfl, (blk_cell BK296.out 0).trans rfl, (blk_cell BK296.out 1).trans rfl⟩ (fun hHeld => ?_)
                        clear hK K
                        refine norm_ (a' := ?_) ?_ ?_
                        rotate_left
                        · show Act.put _ (some 5) _ = _
                          simp only [Act.put, List.setIfInBounds_toArray, List.set_cons_zero, List.set_cons_succ, i64_w, i32_w]
                          rfl
                        exact norm_ (by first | (simp only [putAll, Act.put, List.setIfInBounds_toArray, List.set_cons_zero, List.set_cons_succ]; done) | (simp only [putAll, Act.put, List.setIfInBounds_toArray, List.set_cons_zero, List.set_cons_succ]; rfl)) (hJ1_4_5 (v301, gb308, gb309) _ ⟨hHeld, (by (with_reducible repeat (first | apply Kd.R_alloc | apply Kd.R_drewN | apply Kd.R_drew)); exact HO302.out), bk_a, bk_a, bk_a, bk_a, GW308.out, GE308.out, NB295_308.out, NB308_295.out, NB296_308.out, NB308_296.out, NB309_308.out, NB308_309.out, GW309.out, GE309.out, NB295_309.out, NB309_295.out, NB296_309.out, NB309_296.out, hb_a⟩)
                  · skip
                    rintro ⟨v301, gb308⟩ w214 ⟨hS_, h0_, h1_, h2_, h3_, h4_, h5_, h6_, h7_, h8_, h9_, h10_⟩
                    have n0_ : Aside0 (Kd.R Kd.string 9 w214 w.heap.size (fun _ => True) v301 t300) := ⟨h0_⟩
                    have n1_ : Aside0 (w214.heap[gb295]? = some (.cells #[.slice A0_0 l0_0.length c0_0, .bool a0_1] 24 (0, 0))) := ⟨h1_⟩
                    have n2_ : Aside0 (w214.heap[gb296]? = some (.cells #[.slice A1_0 l1_0.length c1_0, .bool a1_1] 24 (0, 0))) := ⟨h2_⟩
                    have n3_ : Aside0 (w214.heap[gb308]? = some (.cells #[.slice none 0 0, .bool false] 24 (0, 0))) := ⟨h3_⟩
                    have n4_ : Aside0 (w.heap.size ≤ gb308) := ⟨h4_⟩
                    have n5_ : Aside0 (w.heap.size ≤ gb308) := ⟨h5_⟩
                    have n6_ : Aside0 (gb295 ≠ gb308) := ⟨h6_⟩
                    have n7_ : Aside0 (gb308 ≠ gb295) := ⟨h7_⟩
                    have n8_ : Aside0 (gb296 ≠ gb308) := ⟨h8_⟩
                    have n9_ : Aside0 (gb308 ≠ gb296) := ⟨h9_⟩
                    have n10_ : Aside0 (Below w.heap.size w w214) := ⟨h10_⟩
                    clear BK295; clear BK296; clear HB
                    clear h0_ h1_ h2_ h3_ h4_ h5_ h6_ h7_ h8_ h9_ h10_
                    have HO302 := n0_
                    have BK295 := n1_
                    have BK296 := n2_
                    have BK308 := n3_
                    have GW308 := n4_
                    have GE308 := n5_
                    have NB295_308 := n6_
                    have NB308_295 := n7_
                    have NB296_308 := n8_
                    have NB308_296 := n9_
                    have HB := n10_
                    clear n0_ n1_ n2_ n3_ n4_ n5_ n6_ n7_ n8_ n9_ n10_
                    have hHeld : w214.cell? ⟨gb295, 0, none⟩ = some (.slice A0_0 l0_0.length c0_0) ∧ w214.cell? ⟨gb295, 1, none⟩ = some (.bool a0_1) ∧ w214.cell? ⟨gb296, 0, none⟩ = some (.slice A1_0 l1_0.length c1_0) ∧ w214.cell? ⟨gb296, 1, none⟩ = some (.bool a1_1) := hS_
                    refine norm_ (a' := ?_) ?_ ?_
                    rotate_left
                    · simp only [putAll, Act.put, List.setIfInBounds_toArray, List.set_cons_zero, List.set_cons_succ]
                      rfl
                    refine two_ (i := 3) (j := 5) (Ni := some 23) (Nj := some 6) #[true, true, true, true, true, false, false, false] #[true, true, true, false, true, true, false, false] rfl rfl rfl rfl (two_of HT_.out (by kernel_rfl)) (by decide) (by decide) (fun K hK => ?_) (fun K hK => ?_)
                    · skip
                      refine goes_ Tryd.func13 (by kernel_rfl) rfl #[.agg #[.slice A1_0 l1_0.length c1_0, .bool a1_1]] (by rfl) rfl rfl (by (try simp only [List.map_toArray, List.map_cons, List.map_nil]); first | done | rfl | (simp only [List.length_drop, List.length_take]; rfl)) ?_
                      with_reducible refine (stockyardlaw03_copied.calls _ _ l1_0 a1_1 t304 t307 _ ?side1 ?side2 A21.out).mono ?_
                      (case side1 => repeat (first | exact (Kd.C_below HR1_0.out HB.out) | (with_reducible refine Kd.C_alloc ?_ _) | (with_reducible refine Kd.C_drewN ?_ _) | (with_reducible refine Kd.C_drew ?_)))
                      (case side2 => exact HC1_0.out)
                      rintro e w215 ⟨v305, rfl, ho0, hb⟩
                      refine ⟨_, rfl, ?_⟩
                      have n0_ := Aside0.mk (Kd.R_elder' (by (with_reducible repeat (first | apply Kd.R_alloc | apply Kd.R_drewN | apply Kd.R_drew)); exact HO302.out) (Kd.R_base ho0) hb)
                      have n1_ := Aside0.mk (Kd.R_lower (Kd.R_new' ho0 (Kd.R_lt (by (with_reducible repeat (first | apply Kd.R_alloc | apply Kd.R_drewN | apply Kd.R_drew)); exact HO302.out))) (below_size hb_a))
                      have n2_ := Aside0.mk (blk_below (g := gb295) (o := .cells #[.slice A0_0 l0_0.length c0_0, .bool a0_1] 24 (0, 0)) bk_a hb)
                      have n3_ := Aside0.mk (blk_below (g := gb296) (o := .cells #[.slice A1_0 l1_0.length c1_0, .bool a1_1] 24 (0, 0)) bk_a hb)
                      have n4_ := Aside0.mk (blk_below (g := gb308) (o := .cells #[.slice none 0 0, .bool false] 24 (0, 0)) bk_a hb)
                      have n5_ := Aside0.mk (below_step hb_a hb)
                      clear HO302; clear BK295; clear BK296; clear BK308; clear HB
                      have HO302 := n0_
                      have HO306 := n1_
                      have BK295 := n2_
                      have BK296 := n3_
                      have BK308 := n4_
                      have HB := n5_
                      clear n0_ n1_ n2_ n3_ n4_ n5_
                      (try clear hb)
                      (try clear hb2)
                      (try clear hk)
                      (try clear hi)
                      (try clear ho0)
                      refine hK.out _ _ ⟨(blk_cell BK295.out 0).trans rfl, (blk_cell BK295.out 1).trans rfl, (blk_cell BK296.out 0).trans rfl, (blk_cell BK296.out 1).trans rfl⟩ (fun hHeld => ?_)
                      clear hK K
                      refine norm_ (a' := ?_) ?_ ?_
                      rotate_left
                      · show Act.put _ (some 23) _ = _
                        simp only [Act.put, List.setIfInBounds_toArray, List.set_cons_zero, List.set_cons_succ, i64_w, i32_w]
                        rfl
                      exact norm_ (by first | (simp only [putAll, Act.put, List.setIfInBounds_toArray, List.set_cons_zero, List.set_cons_succ]; done) | (simp only [putAll, Act.put, List.setIfInBounds_toArray, List.set_cons_zero, List.set_cons_succ]; rfl)) (hJ1_3_4 (v301, v305, gb308) _ ⟨hHeld, (by (with_reducible repeat (first | apply Kd.R_alloc | apply Kd.R_drewN | apply Kd.R_drew)); exact Kd.R_mono HO302.out (fun _ hk => hk.2)), (by (with_reducible repeat (first | apply Kd.R_alloc | apply Kd.R_drewN | apply Kd.R_drew)); exact Kd.R_mono HO306.out (fun _ hk => hk.2)), bk_a, bk_a, bk_a, GW308.out, GE308.out, NB295_308.out, NB308_295.out, NB296_308.out, NB308_296.out, hb_a⟩)
                    · skip
                      refine box_step ?hg (N := 6) ?hd (cs := #[.slice none 0 0, .bool false]) (t := 24) ?hr ?_; (case hd => rfl); (case hg => rfl); (case hr => first | (go_simp; done) | (go_simp; rfl))
                      intro gb309 hg w215 hbox hb
                      have n0_ := Aside0.mk (Kd.R_below (by (with_reducible repeat (first | apply Kd.R_alloc | apply Kd.R_drewN | apply Kd.R_drew)); exact HO302.out) hb)
                      have n1_ := Aside0.mk (blk_below (g := gb295) (o := .cells #[.slice A0_0 l0_0.length c0_0, .bool a0_1] 24 (0, 0)) bk_a hb)
                      have n2_ := Aside0.mk (blk_below (g := gb296) (o := .cells #[.slice A1_0 l1_0.length c1_0, .bool a1_1] 24 (0, 0)) bk_a hb)
                      have n3_ := Aside0.mk (blk_below (g := gb308) (o := .cells #[.slice none 0 0, .bool false] 24 (0, 0)) bk_a hb)
                      have n4_ := Aside0.mk (below_step hb_a hb)
                      have n5_ := Aside0.mk (hbox)
                      have n6_ := Aside0.mk ((by rw [hg]; exact (below_size hb_a) : w.heap.size ≤ gb309))
                      have n7_ := Aside0.mk ((by rw [hg]; exact (below_size hb_a) : w.heap.size ≤ gb309))
                      have n8_ := Aside0.mk ((by rw [hg]; exact Nat.ne_of_lt (blk_lt (g := gb295) (o := .cells #[.slice A0_0 l0_0.length c0_0, .bool a0_1] 24 (0, 0)) bk_a) : gb295 ≠ gb309))
                      have n9_ := Aside0.mk ((by rw [hg]; exact Nat.ne_of_gt (blk_lt (g := gb295) (o := .cells #[.slice A0_0 l0_0.length c0_0, .bool a0_1] 24 (0, 0)) bk_a) : gb309 ≠ gb295))
                      have n10_ := Aside0.mk ((by rw [hg]; exact Nat.ne_of_lt (blk_lt (g := gb296) (o := .cells #[.slice A1_0 l1_0.length c1_0, .bool a1_1] 24 (0, 0)) bk_a) : gb296 ≠ gb309))
                      have n11_ := Aside0.mk ((by rw [hg]; exact Nat.ne_of_gt (blk_lt (g := gb296) (o := .cells #[.slice A1_0 l1_0.length c1_0, .bool a1_1] 24 (0, 0)) bk_a) : gb309 ≠ gb296))
                      have n12_ := Aside0.mk ((by rw [hg]; exact Nat.ne_of_lt (blk_lt (g := gb308) (o := .cells #[.slice none 0 0, .bool false] 24 (0, 0)) bk_a) : gb308 ≠ gb309))
                      have n13_ := Aside0.mk ((by rw [hg]; exact Nat.ne_of_gt (blk_lt (g := gb308) (o := .cells #[.slice none 0 0, .bool false] 24 (0, 0)) bk_a) : gb309 ≠ gb308))
                      clear HO302; clear BK295; clear BK296; clear BK308; clear HB
                      have HO302 := n0_
                      have BK295 := n1_
                      have BK296 := n2_
                      have BK308 := n3_
                      have HB := n4_
                      have BK309 := n5_
                      have GW309 := n6_
                      have GE309 := n7_
                      have NB295_309 := n8_
                      have NB309_295 := n9_
                      have NB296_309 := n10_
                      have NB309_296 := n11_
                      have NB308_309 := n12_
                      have NB309_308 := n13_
                      clear n0_ n1_ n2_ n3_ n4_ n5_ n6_ n7_ n8_ n9_ n10_ n11_ n12_ n13_
                      clear hb hbox hg
                      refine hK.out _ _ ⟨(blk_cell BK295.out 0).trans rfl, (blk_cell BK295.out 1).trans rfl, (blk_cell BK296.out 0).trans rfl, (blk_cell BK296.out 1).trans rfl⟩ (fun hHeld => ?_)
                      clear hK K
                      refine norm_ (a' := ?_) ?_ ?_
                      rotate_left
                      · show Act.put _ (some 6) _ = _
                        simp only [Act.put, List.setIfInBounds_toArray, List.set_cons_zero, List.set_cons_succ, i64_w, i32_w]
                        rfl
                      exact norm_ (by first | (simp only [putAll, Act.put, List.setIfInBounds_toArray, List.set_cons_zero, List.set_cons_succ]; done) | (simp only [putAll, Act.put, List.setIfInBounds_toArray, List.set_cons_zero, List.set_cons_succ]; rfl)) (hJ1_4_5 (v301, gb308, gb309) _ ⟨hHeld, (by (with_reducible repeat (first | apply Kd.R_alloc | apply Kd.R_drewN | apply Kd.R_drew)); exact HO302.out), bk_a, bk_a, bk_a, bk_a, GW308.out, GE308.out, NB295_308.out, NB308_295.out, NB296_308.out, NB308_296.out, NB309_308.out, NB308_309.out, GW309.out, GE309.out, NB295_309.out, NB309_295.out, NB296_309.out, NB309_296.out, hb_a⟩)
                · skip
                  rintro ⟨v301, v305⟩ w214 ⟨hS_, h0_, h1_, h2_, h3_, h4_⟩
                  have n0_ : Aside0 (Kd.R Kd.string 9 w214 w.heap.size (fun k_ => some k_ ≠ (v305 : Value).ownBlock) v301 t300) := ⟨h0_⟩
                  have n1_ : Aside0 (Kd.R Kd.string 9 w214 w.heap.size (fun k_ => some k_ ≠ (v301 : Value).ownBlock) v305 t304) := ⟨h1_⟩
                  have n2_ : Aside0 (w214.heap[gb295]? = some (.cells #[.slice A0_0 l0_0.length c0_0, .bool a0_1] 24 (0, 0))) := ⟨h2_⟩
                  have n3_ : Aside0 (w214.heap[gb296]? = some (.cells #[.slice A1_0 l1_0.length c1_0, .bool a1_1] 24 (0, 0))) := ⟨h3_⟩
                  have n4_ : Aside0 (Below w.heap.size w w214) := ⟨h4_⟩
                  clear BK295; clear BK296; clear HB
                  clear h0_ h1_ h2_ h3_ h4_
                  have HO302 := n0_
                  have HO306 := n1_
                  have BK295 := n2_
                  have BK296 := n3_
                  have HB := n4_
                  clear n0_ n1_ n2_ n3_ n4_
                  have hHeld : w214.cell? ⟨gb295, 0, none⟩ = some (.slice A0_0 l0_0.length c0_0) ∧ w214.cell? ⟨gb295, 1, none⟩ = some (.bool a0_1) ∧ w214.cell? ⟨gb296, 0, none⟩ = some (.slice A1_0 l1_0.length c1_0) ∧ w214.cell? ⟨gb296, 1, none⟩ = some (.bool a1_1) := hS_
                  refine norm_ (a' := ?_) ?_ ?_
                  rotate_left
                  · simp only [putAll, Act.put, List.setIfInBounds_toArray, List.set_cons_zero, List.set_cons_succ]
                    rfl
                  refine two_ (i := 4) (j := 5) (Ni := some 5) (Nj := some 6) #[true, true, true, true, true, false, false, false] #[true, true, true, true, false, true, false, false] rfl rfl rfl rfl (two_of HT_.out (by kernel_rfl)) (by decide) (by decide) (fun K hK => ?_) (fun K hK => ?_)
                  · skip
                    refine box_step ?hg (N := 5) ?hd (cs := #[.slice none 0 0, .bool false]) (t := 24) ?hr ?_; (case hd => rfl); (case hg => rfl); (case hr => first | (go_simp; done) | (go_simp; rfl))
                    intro gb308 hg w215 hbox hb
                    have n0_ := Aside0.mk (Kd.R_below (by (with_reducible repeat (first | apply Kd.R_alloc | apply Kd.R_drewN | apply Kd.R_drew)); exact HO302.out) hb)
                    have n1_ := Aside0.mk (Kd.R_below (by (with_reducible repeat (first | apply Kd.R_alloc | apply Kd.R_drewN | apply Kd.R_drew)); exact HO306.out) hb)
                    have n2_ := Aside0.mk (blk_below (g := gb295) (o := .cells #[.slice A0_0 l0_0.length c0_0, .bool a0_1] 24 (0, 0)) bk_a hb)
                    have n3_ := Aside0.mk (blk_below (g := gb296) (o := .cells #[.slice A1_0 l1_0.length c1_0, .bool a1_1] 24 (0, 0)) bk_a hb)
                    have n4_ := Aside0.mk (below_step hb_a hb)
                    have n5_ := Aside0.mk (hbox)
                    have n6_ := Aside0.mk ((by rw [hg]; exact (below_size hb_a) : w.heap.size ≤ gb308))
                    have n7_ := Aside0.mk ((by rw [hg]; exact (below_size hb_a) : w.heap.size ≤ gb308))
                    have n8_ := Aside0.mk ((by rw [hg]; exact Nat.ne_of_lt (blk_lt (g := gb295) (o := .cells #[.slice A0_0 l0_0.length c0_0, .bool a0_1] 24 (0, 0)) bk_a) : gb295 ≠ gb308))
                    have n9_ := Aside0.mk ((by rw [hg]; exact Nat.ne_of_gt (blk_lt (g := gb295) (o := .cells #[.slice A0_0 l0_0.length c0_0, .bool a0_1] 24 (0, 0)) bk_a) : gb308 ≠ gb295))
                    have n10_ := Aside0.mk ((by rw [hg]; exact Nat.ne_of_lt (blk_lt (g := gb296) (o := .cells #[.slice A1_0 l1_0.length c1_0, .bool a1_1] 24 (0, 0)) bk_a) : gb296 ≠ gb308))
                    have n11_ := Aside0.mk ((by rw [hg]; exact Nat.ne_of_gt (blk_lt (g := gb296) (o := .cells #[.slice A1_0 l1_0.length c1_0, .bool a1_1] 24 (0, 0)) bk_a) : gb308 ≠ gb296))
                    clear HO302; clear HO306; clear BK295; clear BK296; clear HB
                    have HO302 := n0_
                    have HO306 := n1_
                    have BK295 := n2_
                    have BK296 := n3_
                    have HB := n4_
                    have BK308 := n5_
                    have GW308 := n6_
                    have GE308 := n7_
                    have NB295_308 := n8_
                    have NB308_295 := n9_
                    have NB296_308 := n10_
                    have NB308_296 := n11_
                    clear n0_ n1_ n2_ n3_ n4_ n5_ n6_ n7_ n8_ n9_ n10_ n11_
                    clear hb hbox hg
                    refine hK.out _ _ ⟨(blk_cell BK295.out 0).trans rfl, (blk_cell BK295.out 1).trans rfl, (blk_cell BK296.out 0).trans rfl, (blk_cell BK296.out 1).trans rfl⟩ (fun hHeld => ?_)
                    clear hK K
                    refine norm_ (a' := ?_) ?_ ?_
                    rotate_left
                    · show Act.put _ (some 5) _ = _
                      simp only [Act.put, List.setIfInBounds_toArray, List.set_cons_zero, List.set_cons_succ, i64_w, i32_w]
                      rfl
                    exact norm_ (by first | (simp only [putAll, Act.put, List.setIfInBounds_toArray, List.set_cons_zero, List.set_cons_succ]; done) | (simp only [putAll, Act.put, List.setIfInBounds_toArray, List.set_cons_zero, List.set_cons_succ]; rfl)) (hJ1_3_4 (v301, v305, gb308) _ ⟨hHeld, (by (with_reducible repeat (first | apply Kd.R_alloc | apply Kd.R_drewN | apply Kd.R_drew)); exact HO302.out), (by (with_reducible repeat (first | apply Kd.R_alloc | apply Kd.R_drewN | apply Kd.R_drew)); exact HO306.out), bk_a, bk_a, bk_a, GW308.out, GE308.out, NB295_308.out, NB308_295.out, NB296_308.out, NB308_296.out, hb_a⟩)
                  · skip
                    refine box_step ?hg (N := 6) ?hd (cs := #[.slice none 0 0, .bool false]) (t := 24) ?hr ?_; (case hd => rfl); (case hg => rfl); (case hr => first | (go_simp; done) | (go_simp; rfl))
                    intro gb309 hg w215 hbox hb
                    have n0_ := Aside0.mk (Kd.R_below (by (with_reducible repeat (first | apply Kd.R_alloc | apply Kd.R_drewN | apply Kd.R_drew)); exact HO302.out) hb)
                    have n1_ := Aside0.mk (Kd.R_below (by (with_reducible repeat (first | apply Kd.R_alloc | apply Kd.R_drewN | apply Kd.R_drew)); exact HO306.out) hb)
                    have n2_ := Aside0.mk (blk_below (g := gb295) (o := .cells #[.slice A0_0 l0_0.length c0_0, .bool a0_1] 24 (0, 0)) bk_a hb)
                    have n3_ := Aside0.mk (blk_below (g := gb296) (o := .cells #[.slice A1_0 l1_0.length c1_0, .bool a1_1] 24 (0, 0)) bk_a hb)
                    have n4_ := Aside0.mk (below_step hb_a hb)
                    have n5_ := Aside0.mk (hbox)
                    have n6_ := Aside0.mk ((by rw [hg]; exact (below_size hb_a) : w.heap.size ≤ gb309))
                    have n7_ := Aside0.mk ((by rw [hg]; exact (below_size hb_a) : w.heap.size ≤ gb309))
                    have n8_ := Aside0.mk ((by rw [hg]; exact Nat.ne_of_lt (blk_lt (g := gb295) (o := .cells #[.slice A0_0 l0_0.length c0_0, .bool a0_1] 24 (0, 0)) bk_a) : gb295 ≠ gb309))
                    have n9_ := Aside0.mk ((by rw [hg]; exact Nat.ne_of_gt (blk_lt (g := gb295) (o := .cells #[.slice A0_0 l0_0.length c0_0, .bool a0_1] 24 (0, 0)) bk_a) : gb309 ≠ gb295))
                    have n10_ := Aside0.mk ((by rw [hg]; exact Nat.ne_of_lt (blk_lt (g := gb296) (o := .cells #[.slice A1_0 l1_0.length c1_0, .bool a1_1] 24 (0, 0)) bk_a) : gb296 ≠ gb309))
                    have n11_ := Aside0.mk ((by rw [hg]; exact Nat.ne_of_gt (blk_lt (g := gb296) (o := .cells #[.slice A1_0 l1_0.length c1_0, .bool a1_1] 24 (0, 0)) bk_a) : gb309 ≠ gb296))
                    clear HO302; clear HO306; clear BK295; clear BK296; clear HB
                    have HO302 := n0_
                    have HO306 := n1_
                    have BK295 := n2_
                    have BK296 := n3_
                    have HB := n4_
                    have BK309 := n5_
                    have GW309 := n6_
                    have GE309 := n7_
                    have NB295_309 := n8_
                    have NB309_295 := n9_
                    have NB296_309 := n10_
                    have NB309_296 := n11_
                    clear n0_ n1_ n2_ n3_ n4_ n5_ n6_ n7_ n8_ n9_ n10_ n11_
                    clear hb hbox hg
                    refine hK.out _ _ ⟨(blk_cell BK295.out 0).trans rfl, (blk_cell BK295.out 1).trans rfl, (blk_cell BK296.out 0).trans rfl, (blk_cell BK296.out 1).trans rfl⟩ (fun hHeld => ?_)
                    clear hK K
                    refine norm_ (a' := ?_) ?_ ?_
                    rotate_left
                    · show Act.put _ (some 6) _ = _
                      simp only [Act.put, List.setIfInBounds_toArray, List.set_cons_zero, List.set_cons_succ, i64_w, i32_w]
                      rfl
                    exact norm_ (by first | (simp only [putAll, Act.put, List.setIfInBounds_toArray, List.set_cons_zero, List.set_cons_succ]; done) | (simp only [putAll, Act.put, List.setIfInBounds_toArray, List.set_cons_zero, List.set_cons_succ]; rfl)) (hJ1_3_5 (v301, v305, gb309) _ ⟨hHeld, (by (with_reducible repeat (first | apply Kd.R_alloc | apply Kd.R_drewN | apply Kd.R_drew)); exact HO302.out), (by (with_reducible repeat (first | apply Kd.R_alloc | apply Kd.R_drewN | apply Kd.R_drew)); exact HO306.out), bk_a, bk_a, bk_a, GW309.out, GE309.out, NB295_309.out, NB309_295.out, NB296_309.out, NB309_296.out, hb_a⟩)
              · skip
                rintro ⟨v301, gb308, gb309⟩ w215 ⟨hS_, h0_, h1_, h2_, h3_, h4_, h5_, h6_, h7_, h8_, h9_, h10_, h11_, h12_, h13_, h14_, h15_, h16_, h17_, h18_, h19_⟩
                have n0_ : Aside0 (Kd.R Kd.string 9 w215 w.heap.size (fun _ => True) v301 t300) := ⟨h0_⟩
                have n1_ : Aside0 (w215.heap[gb295]? = some (.cells #[.slice A0_0 l0_0.length c0_0, .bool a0_1] 24 (0, 0))) := ⟨h1_⟩
                have n2_ : Aside0 (w215.heap[gb296]? = some (.cells #[.slice A1_0 l1_0.length c1_0, .bool a1_1] 24 (0, 0))) := ⟨h2_⟩
                have n3_ : Aside0 (w215.heap[gb308]? = some (.cells #[.slice none 0 0, .bool false] 24 (0, 0))) := ⟨h3_⟩
                have n4_ : Aside0 (w215.heap[gb309]? = some (.cells #[.slice none 0 0, .bool false] 24 (0, 0))) := ⟨h4_⟩
                have n5_ : Aside0 (w.heap.size ≤ gb308) := ⟨h5_⟩
                have n6_ : Aside0 (w.heap.size ≤ gb308) := ⟨h6_⟩
                have n7_ : Aside0 (gb295 ≠ gb308) := ⟨h7_⟩
                have n8_ : Aside0 (gb308 ≠ gb295) := ⟨h8_⟩
                have n9_ : Aside0 (gb296 ≠ gb308) := ⟨h9_⟩
                have n10_ : Aside0 (gb308 ≠ gb296) := ⟨h10_⟩
                have n11_ : Aside0 (gb309 ≠ gb308) := ⟨h11_⟩
                have n12_ : Aside0 (gb308 ≠ gb309) := ⟨h12_⟩
                have n13_ : Aside0 (w.heap.size ≤ gb309) := ⟨h13_⟩
                have n14_ : Aside0 (w.heap.size ≤ gb309) := ⟨h14_⟩
                have n15_ : Aside0 (gb295 ≠ gb309) := ⟨h15_⟩
                have n16_ : Aside0 (gb309 ≠ gb295) := ⟨h16_⟩
                have n17_ : Aside0 (gb296 ≠ gb309) := ⟨h17_⟩
                have n18_ : Aside0 (gb309 ≠ gb296) := ⟨h18_⟩
                have n19_ : Aside0 (Below w.heap.size w w215) := ⟨h19_⟩
                clear BK295; clear BK296; clear HB
                clear h0_ h1_ h2_ h3_ h4_ h5_ h6_ h7_ h8_ h9_ h10_ h11_ h12_ h13_ h14_ h15_ h16_ h17_ h18_ h19_
                have HO302 := n0_
                have BK295 := n1_
                have BK296 := n2_
                have BK308 := n3_
                have BK309 := n4_
                have GW308 := n5_
                have GE308 := n6_
                have NB295_308 := n7_
                have NB308_295 := n8_
                have NB296_308 := n9_
                have NB308_296 := n10_
                have NB309_308 := n11_
                have NB308_309 := n12_
                have GW309 := n13_
                have GE309 := n14_
                have NB295_309 := n15_
                have NB309_295 := n16_
                have NB296_309 := n17_
                have NB309_296 := n18_
                have HB := n19_
                clear n0_ n1_ n2_ n3_ n4_ n5_ n6_ n7_ n8_ n9_ n10_ n11_ n12_ n13_ n14_ n15_ n16_ n17_ n18_ n19_
                have hHeld : w215.cell? ⟨gb295, 0, none⟩ = some (.slice A0_0 l0_0.length c0_0) ∧ w215.cell? ⟨gb295, 1, none⟩ = some (.bool a0_1) ∧ w215.cell? ⟨gb296, 0, none⟩ = some (.slice A1_0 l1_0.length c1_0) ∧ w215.cell? ⟨gb296, 1, none⟩ = some (.bool a1_1) := hS_
                refine norm_ (a' := ?_) ?_ ?_
                rotate_left
                · simp only [putAll, Act.put, List.setIfInBounds_toArray, List.set_cons_zero, List.set_cons_succ]
                  rfl
                refine one_ (i := 3) (N := some 23) #[true, true, true, true, true, true, false, false] rfl rfl (one_of HT_.out (by kernel_rfl)) (by decide) (fun K hK => ?_)
                refine goes_ Tryd.func13 (by kernel_rfl) rfl #[.agg #[.slice A1_0 l1_0.length c1_0, .bool a1_1]] (by rfl) rfl rfl (by (try simp only [List.map_toArray, List.map_cons, List.map_nil]); first | done | rfl | (simp only [List.length_drop, List.length_take]; rfl)) ?_
                with_reducible refine (stockyardlaw03_copied.calls _ _ l1_0 a1_1 t304 t307 _ ?side1 ?side2 A21.out).mono ?_
                (case side1 => repeat (first | exact (Kd.C_below HR1_0.out HB.out) | (with_reducible refine Kd.C_alloc ?_ _) | (with_reducible refine Kd.C_drewN ?_ _) | (with_reducible refine Kd.C_drew ?_)))
                (case side2 => exact HC1_0.out)
                rintro e w216 ⟨v305, rfl, ho0, hb⟩
                refine ⟨_, rfl, ?_⟩
                have n0_ := Aside0.mk (Kd.R_elder' (by (with_reducible repeat (first | apply Kd.R_alloc | apply Kd.R_drewN | apply Kd.R_drew)); exact HO302.out) (Kd.R_base ho0) hb)
                have n1_ := Aside0.mk (Kd.R_lower (Kd.R_new' ho0 (Kd.R_lt (by (with_reducible repeat (first | apply Kd.R_alloc | apply Kd.R_drewN | apply Kd.R_drew)); exact HO302.out))) (below_size hb_a))
                have n2_ := Aside0.mk (blk_below (g := gb295) (o := .cells #[.slice A0_0 l0_0.length c0_0, .bool a0_1] 24 (0, 0)) bk_a hb)
                have n3_ := Aside0.mk (blk_below (g := gb296) (o := .cells #[.slice A1_0 l1_0.length c1_0, .bool a1_1] 24 (0, 0)) bk_a hb)
                have n4_ := Aside0.mk (blk_below (g := gb308) (o := .cells #[.slice none 0 0, .bool false] 24 (0, 0)) bk_a hb)
                have n5_ := Aside0.mk (blk_below (g := gb309) (o := .cells #[.slice none 0 0, .bool false] 24 (0, 0)) bk_a hb)
                have n6_ := Aside0.mk (below_step hb_a hb)
                clear HO302; clear BK295; clear BK296; clear BK308; clear BK309; clear HB
                have HO302 := n0_
                have HO306 := n1_
                have BK295 := n2_
                have BK296 := n3_
                have BK308 := n4_
                have BK309 := n5_
                have HB := n6_
                clear n0_ n1_ n2_ n3_ n4_ n5_ n6_
                (try clear hb)
                (try clear hb2)
                (try clear hk)
                (try clear hi)
                (try clear ho0)
                refine hK.out _ _ ⟨(blk_cell BK295.out 0).trans rfl, (blk_cell BK295.out 1).trans rfl, (blk_cell BK296.out 0).trans rfl, (blk_cell BK296.out 1).trans rfl⟩ (fun hHeld => ?_)
                clear hK K
                refine norm_ (a' := ?_) ?_ ?_
                rotate_left
                · show Act.put _ (some 23) _ = _
                  simp only [Act.put, List.setIfInBounds_toArray, List.set_cons_zero, List.set_cons_succ, i64_w, i32_w]
                  rfl
                exact norm_ (by first | (simp only [putAll, Act.put, List.setIfInBounds_toArray, List.set_cons_zero, List.set_cons_succ]; done) | (simp only [putAll, Act.put, List.setIfInBounds_toArray, List.set_cons_zero, List.set_cons_succ]; rfl)) (hJ1_3_4_5 (v301, v305, gb308, gb309) _ ⟨hHeld, (by (with_reducible repeat (first | apply Kd.R_alloc | apply Kd.R_drewN | apply Kd.R_drew)); exact Kd.R_mono HO302.out (fun _ hk => hk.2)), (by (with_reducible repeat (first | apply Kd.R_alloc | apply Kd.R_drewN | apply Kd.R_drew)); exact Kd.R_mono HO306.out (fun _ hk => hk.2)), bk_a, bk_a, bk_a, bk_a, GW308.out, GE308.out, NB295_308.out, NB308_295.out, NB296_308.out, NB308_296.out, NB309_308.out, NB308_309.out, GW309.out, GE309.out, NB295_309.out, NB309_295.out, NB296_309.out, NB309_296.out, hb_a⟩)
            · skip
              rintro ⟨v301, v305, gb309⟩ w215 ⟨hS_, h0_, h1_, h2_, h3_, h4_, h5_, h6_, h7_, h8_, h9_, h10_, h11_⟩
              have n0_ : Aside0 (Kd.R Kd.string 9 w215 w.heap.size (fun k_ => some k_ ≠ (v305 : Value).ownBlock) v301 t300) := ⟨h0_⟩
              have n1_ : Aside0 (Kd.R Kd.string 9 w215 w.heap.size (fun k_ => some k_ ≠ (v301 : Value).ownBlock) v305 t304) := ⟨h1_⟩
              have n2_ : Aside0 (w215.heap[gb295]? = some (.cells #[.slice A0_0 l0_0.length c0_0, .bool a0_1] 24 (0, 0))) := ⟨h2_⟩
              have n3_ : Aside0 (w215.heap[gb296]? = some (.cells #[.slice A1_0 l1_0.length c1_0, .bool a1_1] 24 (0, 0))) := ⟨h3_⟩
              have n4_ : Aside0 (w215.heap[gb309]? = some (.cells #[.slice none 0 0, .bool false] 24 (0, 0))) := ⟨h4_⟩
              have n5_ : Aside0 (w.heap.size ≤ gb309) := ⟨h5_⟩
              have n6_ : Aside0 (w.heap.size ≤ gb309) := ⟨h6_⟩
              have n7_ : Aside0 (gb295 ≠ gb309) := ⟨h7_⟩
              have n8_ : Aside0 (gb309 ≠ gb295) := ⟨h8_⟩
              have n9_ : Aside0 (gb296 ≠ gb309) := ⟨h9_⟩
              have n10_ : Aside0 (gb309 ≠ gb296) := ⟨h10_⟩
              have n11_ : Aside0 (Below w.heap.size w w215) := ⟨h11_⟩
              clear BK295; clear BK296; clear HB
              clear h0_ h1_ h2_ h3_ h4_ h5_ h6_ h7_ h8_ h9_ h10_ h11_
              have HO302 := n0_
              have HO306 := n1_
              have BK295 := n2_
              have BK296 := n3_
              have BK309 := n4_
              have GW309 := n5_
              have GE309 := n6_
              have NB295_309 := n7_
              have NB309_295 := n8_
              have NB296_309 := n9_
              have NB309_296 := n10_
              have HB := n11_
              clear n0_ n1_ n2_ n3_ n4_ n5_ n6_ n7_ n8_ n9_ n10_ n11_
              have hHeld : w215.cell? ⟨gb295, 0, none⟩ = some (.slice A0_0 l0_0.length c0_0) ∧ w215.cell? ⟨gb295, 1, none⟩ = some (.bool a0_1) ∧ w215.cell? ⟨gb296, 0, none⟩ = some (.slice A1_0 l1_0.length c1_0) ∧ w215.cell? ⟨gb296, 1, none⟩ = some (.bool a1_1) := hS_
              refine norm_ (a' := ?_) ?_ ?_
              rotate_left
              · simp only [putAll, Act.put, List.setIfInBounds_toArray, List.set_cons_zero, List.set_cons_succ]
                rfl
              refine one_ (i := 4) (N := some 5) #[true, true, true, true, true, true, false, false] rfl rfl (one_of HT_.out (by kernel_rfl)) (by decide) (fun K hK => ?_)
              refine box_step ?hg (N := 5) ?hd (cs := #[.slice none 0 0, .bool false]) (t := 24) ?hr ?_; (case hd => rfl); (case hg => rfl); (case hr => first | (go_simp; done) | (go_simp; rfl))
              intro gb308 hg w216 hbox hb
              have n0_ := Aside0.mk (Kd.R_below (by (with_reducible repeat (first | apply Kd.R_alloc | apply Kd.R_drewN | apply Kd.R_drew)); exact HO302.out) hb)
              have n1_ := Aside0.mk (Kd.R_below (by (with_reducible repeat (first | apply Kd.R_alloc | apply Kd.R_drewN | apply Kd.R_drew)); exact HO306.out) hb)
              have n2_ := Aside0.mk (blk_below (g := gb295) (o := .cells #[.slice A0_0 l0_0.length c0_0, .bool a0_1] 24 (0, 0)) bk_a hb)
              have n3_ := Aside0.mk (blk_below (g := gb296) (o := .cells #[.slice A1_0 l1_0.length c1_0, .bool a1_1] 24 (0, 0)) bk_a hb)
              have n4_ := Aside0.mk (blk_below (g := gb309) (o := .cells #[.slice none 0 0, .bool false] 24 (0, 0)) bk_a hb)
              have n5_ := Aside0.mk (below_step hb_a hb)
              have n6_ := Aside0.mk (hbox)
              have n7_ := Aside0.mk ((by rw [hg]; exact (below_size hb_a) : w.heap.size ≤ gb308))
              have n8_ := Aside0.mk ((by rw [hg]; exact (below_size hb_a) : w.heap.size ≤ gb308))
              have n9_ := Aside0.mk ((by rw [hg]; exact Nat.ne_of_lt (blk_lt (g := gb295) (o := .cells #[.slice A0_0 l0_0.length c0_0, .bool a0_1] 24 (0, 0)) bk_a) : gb295 ≠ gb308))
              have n10_ := Aside0.mk ((by rw [hg]; exact Nat.ne_of_gt (blk_lt (g := gb295) (o := .cells #[.slice A0_0 l0_0.length c0_0, .bool a0_1] 24 (0, 0)) bk_a) : gb308 ≠ gb295))
              have n11_ := Aside0.mk ((by rw [hg]; exact Nat.ne_of_lt (blk_lt (g := gb296) (o := .cells #[.slice A1_0 l1_0.length c1_0, .bool a1_1] 24 (0, 0)) bk_a) : gb296 ≠ gb308))
              have n12_ := Aside0.mk ((by rw [hg]; exact Nat.ne_of_gt (blk_lt (g := gb296) (o := .cells #[.slice A1_0 l1_0.length c1_0, .bool a1_1] 24 (0, 0)) bk_a) : gb308 ≠ gb296))
              have n13_ := Aside0.mk ((by rw [hg]; exact Nat.ne_of_lt (blk_lt (g := gb309) (o := .cells #[.slice none 0 0, .bool false] 24 (0, 0)) bk_a) : gb309 ≠ gb308))
              have n14_ := Aside0.mk ((by rw [hg]; exact Nat.ne_of_gt (blk_lt (g := gb309) (o := .cells #[.slice none 0 0, .bool false] 24 (0, 0)) bk_a) : gb308 ≠ gb309))
              clear HO302; clear HO306; clear BK295; clear BK296; clear BK309; clear HB
              have HO302 := n0_
              have HO306 := n1_
              have BK295 := n2_
              have BK296 := n3_
              have BK309 := n4_
              have HB := n5_
              have BK308 := n6_
              have GW308 := n7_
              have GE308 := n8_
              have NB295_308 := n9_
              have NB308_295 := n10_
              have NB296_308 := n11_
              have NB308_296 := n12_
              have NB309_308 := n13_
              have NB308_309 := n14_
              clear n0_ n1_ n2_ n3_ n4_ n5_ n6_ n7_ n8_ n9_ n10_ n11_ n12_ n13_ n14_
              clear hb hbox hg
              refine hK.out _ _ ⟨(blk_cell BK295.out 0).trans rfl, (blk_cell BK295.out 1).trans rfl, (blk_cell BK296.out 0).trans rfl, (blk_cell BK296.out 1).trans rfl⟩ (fun hHeld => ?_)
              clear hK K
              refine norm_ (a' := ?_) ?_ ?_
              rotate_left
              · show Act.put _ (some 5) _ = _
                simp only [Act.put, List.setIfInBounds_toArray, List.set_cons_zero, List.set_cons_succ, i64_w, i32_w]
                rfl
              exact norm_ (by first | (simp only [putAll, Act.put, List.setIfInBounds_toArray, List.set_cons_zero, List.set_cons_succ]; done) | (simp only [putAll, Act.put, List.setIfInBounds_toArray, List.set_cons_zero, List.set_cons_succ]; rfl)) (hJ1_3_4_5 (v301, v305, gb308, gb309) _ ⟨hHeld, (by (with_reducible repeat (first | apply Kd.R_alloc | apply Kd.R_drewN | apply Kd.R_drew)); exact HO302.out), (by (with_reducible repeat (first | apply Kd.R_alloc | apply Kd.R_drewN | apply Kd.R_drew)); exact HO306.out), bk_a, bk_a, bk_a, bk_a, GW308.out, GE308.out, NB295_308.out, NB308_295.out, NB296_308.out, NB308_296.out, NB309_308.out, NB308_309.out, GW309.out, GE309.out, NB295_309.out, NB309_295.out, NB296_309.out, NB309_296.out, hb_a⟩)
          · skip
            rintro ⟨v301, v305, gb308⟩ w215 ⟨hS_, h0_, h1_, h2_, h3_, h4_, h5_, h6_, h7_, h8_, h9_, h10_, h11_⟩
            have n0_ : Aside0 (Kd.R Kd.string 9 w215 w.heap.size (fun k_ => some k_ ≠ (v305 : Value).ownBlock) v301 t300) := ⟨h0_⟩
            have n1_ : Aside0 (Kd.R Kd.string 9 w215 w.heap.size (fun k_ => some k_ ≠ (v301 : Value).ownBlock) v305 t304) := ⟨h1_⟩
            have n2_ : Aside0 (w215.heap[gb295]? = some (.cells #[.slice A0_0 l0_0.length c0_0, .bool a0_1] 24 (0, 0))) := ⟨h2_⟩
            have n3_ : Aside0 (w215.heap[gb296]? = some (.cells #[.slice A1_0 l1_0.length c1_0, .bool a1_1] 24 (0, 0))) := ⟨h3_⟩
            have n4_ : Aside0 (w215.heap[gb308]? = some (.cells #[.slice none 0 0, .bool false] 24 (0, 0))) := ⟨h4_⟩
            have n5_ : Aside0 (w.heap.size ≤ gb308) := ⟨h5_⟩
            have n6_ : Aside0 (w.heap.size ≤ gb308) := ⟨h6_⟩
            have n7_ : Aside0 (gb295 ≠ gb308) := ⟨h7_⟩
            have n8_ : Aside0 (gb308 ≠ gb295) := ⟨h8_⟩
            have n9_ : Aside0 (gb296 ≠ gb308) := ⟨h9_⟩
            have n10_ : Aside0 (gb308 ≠ gb296) := ⟨h10_⟩
            have n11_ : Aside0 (Below w.heap.size w w215) := ⟨h11_⟩
            clear BK295; clear BK296; clear HB
            clear h0_ h1_ h2_ h3_ h4_ h5_ h6_ h7_ h8_ h9_ h10_ h11_
            have HO302 := n0_
            have HO306 := n1_
            have BK295 := n2_
            have BK296 := n3_
            have BK308 := n4_
            have GW308 := n5_
            have GE308 := n6_
            have NB295_308 := n7_
            have NB308_295 := n8_
            have NB296_308 := n9_
            have NB308_296 := n10_
            have HB := n11_
            clear n0_ n1_ n2_ n3_ n4_ n5_ n6_ n7_ n8_ n9_ n10_ n11_
            have hHeld : w215.cell? ⟨gb295, 0, none⟩ = some (.slice A0_0 l0_0.length c0_0) ∧ w215.cell? ⟨gb295, 1, none⟩ = some (.bool a0_1) ∧ w215.cell? ⟨gb296, 0, none⟩ = some (.slice A1_0 l1_0.length c1_0) ∧ w215.cell? ⟨gb296, 1, none⟩ = some (.bool a1_1) := hS_
            refine norm_ (a' := ?_) ?_ ?_
            rotate_left
            · simp only [putAll, Act.put, List.setIfInBounds_toArray, List.set_cons_zero, List.set_cons_succ]
              rfl
            refine one_ (i := 5) (N := some 6) #[true, true, true, true, true, true, false, false] rfl rfl (one_of HT_.out (by kernel_rfl)) (by decide) (fun K hK => ?_)
            refine box_step ?hg (N := 6) ?hd (cs := #[.slice none 0 0, .bool false]) (t := 24) ?hr ?_; (case hd => rfl); (case hg => rfl); (case hr => first | (go_simp; done) | (go_simp; rfl))
            intro gb309 hg w216 hbox hb
            have n0_ := Aside0.mk (Kd.R_below (by (with_reducible repeat (first | apply Kd.R_alloc | apply Kd.R_drewN | apply Kd.R_drew)); exact HO302.out) hb)
            have n1_ := Aside0.mk (Kd.R_below (by (with_reducible repeat (first | apply Kd.R_alloc | apply Kd.R_drewN | apply Kd.R_drew)); exact HO306.out) hb)
            have n2_ := Aside0.mk (blk_below (g := gb295) (o := .cells #[.slice A0_0 l0_0.length c0_0, .bool a0_1] 24 (0, 0)) bk_a hb)
            have n3_ := Aside0.mk (blk_below (g := gb296) (o := .cells #[.slice A1_0 l1_0.length c1_0, .bool a1_1] 24 (0, 0)) bk_a hb)
            have n4_ := Aside0.mk (blk_below (g := gb308) (o := .cells #[.slice none 0 0, .bool false] 24 (0, 0)) bk_a hb)
            have n5_ := Aside0.mk (below_step hb_a hb)
            have n6_ := Aside0.mk (hbox)
            have n7_ := Aside0.mk ((by rw [hg]; exact (below_size hb_a) : w.heap.size ≤ gb309))
            have n8_ := Aside0.mk ((by rw [hg]; exact (below_size hb_a) : w.heap.size ≤ gb309))
            have n9_ := Aside0.mk ((by rw [hg]; exact Nat.ne_of_lt (blk_lt (g := gb295) (o := .cells #[.slice A0_0 l0_0.length c0_0, .bool a0_1] 24 (0, 0)) bk_a) : gb295 ≠ gb309))
            have n10_ := Aside0.mk ((by rw [hg]; exact Nat.ne_of_gt (blk_lt (g := gb295) (o := .cells #[.slice A0_0 l0_0.length c0_0, .bool a0_1] 24 (0, 0)) bk_a) : gb309 ≠ gb295))
            have n11_ := Aside0.mk ((by rw [hg]; exact Nat.ne_of_lt (blk_lt (g := gb296) (o := .cells #[.slice A1_0 l1_0.length c1_0, .bool a1_1] 24 (0, 0)) bk_a) : gb296 ≠ gb309))
            have n12_ := Aside0.mk ((by rw [hg]; exact Nat.ne_of_gt (blk_lt (g := gb296) (o := .cells #[.slice A1_0 l1_0.length c1_0, .bool a1_1] 24 (0, 0)) bk_a) : gb309 ≠ gb296))
            have n13_ := Aside0.mk ((by rw [hg]; exact Nat.ne_of_lt (blk_lt (g := gb308) (o := .cells #[.slice none 0 0, .bool false] 24 (0, 0)) bk_a) : gb308 ≠ gb309))
            have n14_ := Aside0.mk ((by rw [hg]; exact Nat.ne_of_gt (blk_lt (g := gb308) (o := .cells #[.slice none 0 0, .bool false] 24 (0, 0)) bk_a) : gb309 ≠ gb308))
            clear HO302; clear HO306; clear BK295; clear BK296; clear BK308; clear HB
            have HO302 := n0_
            have HO306 := n1_
            have BK295 := n2_
            have BK296 := n3_
            have BK308 := n4_
            have HB := n5_
            have BK309 := n6_
            have GW309 := n7_
            have GE309 := n8_
            have NB295_309 := n9_
            have NB309_295 := n10_
            have NB296_309 := n11_
            have NB309_296 := n12_
            have NB308_309 := n13_
            have NB309_308 := n14_
            clear n0_ n1_ n2_ n3_ n4_ n5_ n6_ n7_ n8_ n9_ n10_ n11_ n12_ n13_ n14_
            clear hb hbox hg
            refine hK.out _ _ ⟨(blk_cell BK295.out 0).trans rfl, (blk_cell BK295.out 1).trans rfl, (blk_cell BK296.out 0).trans rfl, (blk_cell BK296.out 1).trans rfl⟩ (fun hHeld => ?_)
            clear hK K
            refine norm_ (a' := ?_) ?_ ?_
            rotate_left
            · show Act.put _ (some 6) _ = _
              simp only [Act.put, List.setIfInBounds_toArray, List.set_cons_zero, List.set_cons_succ, i64_w, i32_w]
              rfl
            exact norm_ (by first | (simp only [putAll, Act.put, List.setIfInBounds_toArray, List.set_cons_zero, List.set_cons_succ]; done) | (simp only [putAll, Act.put, List.setIfInBounds_toArray, List.set_cons_zero, List.set_cons_succ]; rfl)) (hJ1_3_4_5 (v301, v305, gb308, gb309) _ ⟨hHeld, (by (with_reducible repeat (first | apply Kd.R_alloc | apply Kd.R_drewN | apply Kd.R_drew)); exact HO302.out), (by (with_reducible repeat (first | apply Kd.R_alloc | apply Kd.R_drewN | apply Kd.R_drew)); exact HO306.out), bk_a, bk_a, bk_a, bk_a, GW308.out, GE308.out, NB295_308.out, NB308_295.out, NB296_308.out, NB308_296.out, NB309_308.out, NB308_309.out, GW309.out, GE309.out, NB295_309.out, NB309_295.out, NB296_309.out, NB309_296.out, hb_a⟩)
        rintro ⟨v301, v305, gb308, gb309⟩ w216 ⟨hS_, h0_, h1_, h2_, h3_, h4_, h5_, h6_, h7_, h8_, h9_, h10_, h11_, h12_, h13_, h14_, h15_, h16_, h17_, h18_, h19_, h20_⟩
        have n0_ : Aside0 (Kd.R Kd.string 9 w216 w.heap.size (fun k_ => some k_ ≠ (v305 : Value).ownBlock) v301 t300) := ⟨h0_⟩
        have n1_ : Aside0 (Kd.R Kd.string 9 w216 w.heap.size (fun k_ => some k_ ≠ (v301 : Value).ownBlock) v305 t304) := ⟨h1_⟩
        have n2_ : Aside0 (w216.heap[gb295]? = some (.cells #[.slice A0_0 l0_0.length c0_0, .bool a0_1] 24 (0, 0))) := ⟨h2_⟩
        have n3_ : Aside0 (w216.heap[gb296]? = some (.cells #[.slice A1_0 l1_0.length c1_0, .bool a1_1] 24 (0, 0))) := ⟨h3_⟩
        have n4_ : Aside0 (w216.heap[gb308]? = some (.cells #[.slice none 0 0, .bool false] 24 (0, 0))) := ⟨h4_⟩
        have n5_ : Aside0 (w216.heap[gb309]? = some (.cells #[.slice none 0 0, .bool false] 24 (0, 0))) := ⟨h5_⟩
        have n6_ : Aside0 (w.heap.size ≤ gb308) := ⟨h6_⟩
        have n7_ : Aside0 (w.heap.size ≤ gb308) := ⟨h7_⟩
        have n8_ : Aside0 (gb295 ≠ gb308) := ⟨h8_⟩
        have n9_ : Aside0 (gb308 ≠ gb295) := ⟨h9_⟩
        have n10_ : Aside0 (gb296 ≠ gb308) := ⟨h10_⟩
        have n11_ : Aside0 (gb308 ≠ gb296) := ⟨h11_⟩
        have n12_ : Aside0 (gb309 ≠ gb308) := ⟨h12_⟩
        have n13_ : Aside0 (gb308 ≠ gb309) := ⟨h13_⟩
        have n14_ : Aside0 (w.heap.size ≤ gb309) := ⟨h14_⟩
        have n15_ : Aside0 (w.heap.size ≤ gb309) := ⟨h15_⟩
        have n16_ : Aside0 (gb295 ≠ gb309) := ⟨h16_⟩
        have n17_ : Aside0 (gb309 ≠ gb295) := ⟨h17_⟩
        have n18_ : Aside0 (gb296 ≠ gb309) := ⟨h18_⟩
        have n19_ : Aside0 (gb309 ≠ gb296) := ⟨h19_⟩
        have n20_ : Aside0 (Below w.heap.size w w216) := ⟨h20_⟩
        clear BK295; clear BK296; clear HB
        clear h0_ h1_ h2_ h3_ h4_ h5_ h6_ h7_ h8_ h9_ h10_ h11_ h12_ h13_ h14_ h15_ h16_ h17_ h18_ h19_ h20_
        have HO302 := n0_
        have HO306 := n1_
        have BK295 := n2_
        have BK296 := n3_
        have BK308 := n4_
        have BK309 := n5_
        have GW308 := n6_
        have GE308 := n7_
        have NB295_308 := n8_
        have NB308_295 := n9_
        have NB296_308 := n10_
        have NB308_296 := n11_
        have NB309_308 := n12_
        have NB308_309 := n13_
        have GW309 := n14_
        have GE309 := n15_
        have NB295_309 := n16_
        have NB309_295 := n17_
        have NB296_309 := n18_
        have NB309_296 := n19_
        have HB := n20_
        clear n0_ n1_ n2_ n3_ n4_ n5_ n6_ n7_ n8_ n9_ n10_ n11_ n12_ n13_ n14_ n15_ n16_ n17_ n18_ n19_ n20_
        have hHeld : w216.cell? ⟨gb295, 0, none⟩ = some (.slice A0_0 l0_0.length c0_0) ∧ w216.cell? ⟨gb295, 1, none⟩ = some (.bool a0_1) ∧ w216.cell? ⟨gb296, 0, none⟩ = some (.slice A1_0 l1_0.length c1_0) ∧ w216.cell? ⟨gb296, 1, none⟩ = some (.bool a1_1) := hS_
        obtain ⟨Ao217, co217, eo217⟩ := Kd.R_slice HO302.out
        (first | subst eo217 | (injection eo217 with f1_ f2_ f3_; have f4_ := f1_.symm; have f5_ := f3_.symm; clear f1_ f2_ f3_; subst f4_; subst f5_))
        obtain ⟨Ao220, co220, eo220⟩ := Kd.R_slice HO306.out
        (first | subst eo220 | (injection eo220 with f1_ f2_ f3_; have f4_ := f1_.symm; have f5_ := f3_.symm; clear f1_ f2_ f3_; subst f4_; subst f5_))
        refine norm_ (a' := ?_) ?_ ?_
        rotate_left
        · simp only [putAll, Act.put, List.setIfInBounds_toArray, List.set_cons_zero, List.set_cons_succ]
          rfl
        refine one_ (i := 6) (N := none) #[true, true, true, true, true, true, true, false] rfl rfl (one_of HT_.out (by kernel_rfl)) (by decide) (fun K hK => ?_)
        have hs218 : w216.cell? ⟨gb308, 0, none⟩ = some (.slice none 0 0) := (blk_cell BK308.out 0).trans rfl
        have hfs218 := blk_frozen BK308.out 0
        have hns218_0 := NB295_308.out
        have hns218_1 := NB296_308.out
        have hns218_3 := NB309_308.out
        have hms218_0 := NB308_295.out
        have hms218_1 := NB308_296.out
        have hms218_3 := NB308_309.out
        have hs219 : w216.cell? ⟨gb308, 1, none⟩ = some (.bool false) := (blk_cell BK308.out 1).trans rfl
        have hfs219 := blk_frozen BK308.out 1
        have hns219_0 := NB295_308.out
        have hns219_1 := NB296_308.out
        have hns219_3 := NB309_308.out
        have hms219_0 := NB308_295.out
        have hms219_1 := NB308_296.out
        have hms219_3 := NB308_309.out
        refine skip_ (w1 := ?_) (by rfl) rfl ?_ ?_
        rotate_left
        · go_simp
          rfl
        refine hK.out _ _ ⟨((cell_far (p := ⟨gb308, _, none⟩) NB295_308.out _).trans (((cell_far (p := ⟨gb308, _, none⟩) NB295_308.out _).trans (hHeld.1)))), ((cell_far (p := ⟨gb308, _, none⟩) NB295_308.out _).trans (((cell_far (p := ⟨gb308, _, none⟩) NB295_308.out _).trans (hHeld.2.1)))), ((cell_far (p := ⟨gb308, _, none⟩) NB296_308.out _).trans (((cell_far (p := ⟨gb308, _, none⟩) NB296_308.out _).trans (hHeld.2.2.1)))), ((cell_far (p := ⟨gb308, _, none⟩) NB296_308.out _).trans (((cell_far (p := ⟨gb308, _, none⟩) NB296_308.out _).trans (hHeld.2.2.2))))⟩ (fun hHeld => ?_)
        clear hK K
        refine one_ (i := 7) (N := none) #[true, true, true, true, true, true, true, true] rfl rfl (one_of HT_.out (by kernel_rfl)) (by decide) (fun K hK => ?_)
        have hs221 : w216.cell? ⟨gb309, 0, none⟩ = some (.slice none 0 0) := (blk_cell BK309.out 0).trans rfl
        have hfs221 := blk_frozen BK309.out 0
        have hns221_0 := NB295_309.out
        have hns221_1 := NB296_309.out
        have hns221_2 := NB308_309.out
        have hms221_0 := NB309_295.out
        have hms221_1 := NB309_296.out
        have hms221_2 := NB309_308.out
        have hs222 : w216.cell? ⟨gb309, 1, none⟩ = some (.bool false) := (blk_cell BK309.out 1).trans rfl
        have hfs222 := blk_frozen BK309.out 1
        have hns222_0 := NB295_309.out
        have hns222_1 := NB296_309.out
        have hns222_2 := NB308_309.out
        have hms222_0 := NB309_295.out
        have hms222_1 := NB309_296.out
        have hms222_2 := NB309_308.out
        refine skip_ (w1 := ?_) (by rfl) rfl ?_ ?_
        rotate_left
        · go_simp
          rfl
        refine hK.out _ _ ⟨((cell_far (p := ⟨gb309, _, none⟩) NB295_309.out _).trans (((cell_far (p := ⟨gb309, _, none⟩) NB295_309.out _).trans (hHeld.1)))), ((cell_far (p := ⟨gb309, _, none⟩) NB295_309.out _).trans (((cell_far (p := ⟨gb309, _, none⟩) NB295_309.out _).trans (hHeld.2.1)))), ((cell_far (p := ⟨gb309, _, none⟩) NB296_309.out _).trans (((cell_far (p := ⟨gb309, _, none⟩) NB296_309.out _).trans (hHeld.2.2.1)))), ((cell_far (p := ⟨gb309, _, none⟩) NB296_309.out _).trans (((cell_far (p := ⟨gb309, _, none⟩) NB296_309.out _).trans (hHeld.2.2.2))))⟩ (fun hHeld => ?_)
        clear hK K
        refine done_ (done_of HT_.out (by kernel_rfl)) ?_
        have hnb223 := NB295_296.out
        have hnc223 := NB296_295.out
        have hnb224 := NB295_308.out
        have hnc224 := NB308_295.out
        have hnb225 := NB295_309.out
        have hnc225 := NB309_295.out
        have hcz226_0 : w216.cell? ⟨gb295, 0, none⟩ = some (.slice A0_0 l0_0.length c0_0) := (blk_cell BK295.out 0).trans rfl
        have hcz226_1 : w216.cell? ⟨gb295, 1, none⟩ = some (.bool a0_1) := (blk_cell BK295.out 1).trans rfl
        have hfz226_0 := blk_frozen BK295.out 0
        have hfz226_1 := blk_frozen BK295.out 1
        have hnb227 := NB296_308.out
        have hnc227 := NB308_296.out
        have hnb228 := NB296_309.out
        have hnc228 := NB309_296.out
        have hcz229_0 : w216.cell? ⟨gb296, 0, none⟩ = some (.slice A1_0 l1_0.length c1_0) := (blk_cell BK296.out 0).trans rfl
        have hcz229_1 : w216.cell? ⟨gb296, 1, none⟩ = some (.bool a1_1) := (blk_cell BK296.out 1).trans rfl
        have hfz229_0 := blk_frozen BK296.out 0
        have hfz229_1 := blk_frozen BK296.out 1
        go_upto_region 5 with (first | ((with_reducible refine gate_callee (f := 14) rfl ?_); refine goesL_ (some 27) rfl rfl Tryd.func14 (by kernel_rfl) rfl #[.agg #[.slice A0_0 l0_0.length c0_0, .bool a0_1], .agg #[.slice A1_0 l1_0.length c1_0, .bool a1_1]] rfl (by (try simp only [List.map_toArray, List.map_cons, List.map_nil]); first | done | rfl | (simp only [List.length_drop, List.length_take]; rfl)) ?_; (with_reducible refine (pattern_Meet.calls kj2 _ _ l0_0 a0_1 _ _ l1_0 a1_1 t310 t313 t314 _ ?side1 ?side2 ?side3 ?side4 A22.out).mono ?_); (case side1 => exact Kd.C_below HR0_0.out hb_a); (case side2 => exact HC0_0.out); (case side3 => exact Kd.C_below HR1_0.out hb_a); (case side4 => exact HC1_0.out); rintro e w230 ⟨v311, rfl, ho0, hb⟩; refine ⟨_, rfl, ?_⟩; have n0_ := Aside0.mk (Kd.R_elder' (by (with_reducible repeat (first | apply Kd.R_alloc | apply Kd.R_drewN | apply Kd.R_drew)); exact (Kd.R_mono (Kd.R_mono (Kd.R_far (p := ⟨gb309, 1, none⟩) (Kd.R_far (p := ⟨gb309, 0, none⟩) (Kd.R_far (p := ⟨gb308, 1, none⟩) (Kd.R_far (p := ⟨gb308, 0, none⟩) (Kd.R_types (Kd.R_types HO302.out BK308.out (by decide)) BK309.out (by decide)) (fun _ hk => hk.1.2) (.slice Ao217 t300.length co217)) (fun _ hk => hk.1.2) (.bool t303)) (fun _ hk => hk.2) (.slice Ao220 t304.length co220)) (fun _ hk => hk.2) (.bool t307)) (fun _ h_ => h_.1)) (fun _ h_ => h_.1))) (Kd.R_base ho0) hb); have n1_ := Aside0.mk (Kd.R_elder' (by (with_reducible repeat (first | apply Kd.R_alloc | apply Kd.R_drewN | apply Kd.R_drew)); exact (Kd.R_mono (Kd.R_mono (Kd.R_far (p := ⟨gb309, 1, none⟩) (Kd.R_far (p := ⟨gb309, 0, none⟩) (Kd.R_far (p := ⟨gb308, 1, none⟩) (Kd.R_far (p := ⟨gb308, 0, none⟩) (Kd.R_types (Kd.R_types HO306.out BK308.out (by decide)) BK309.out (by decide)) (fun _ hk => hk.1.2) (.slice Ao217 t300.length co217)) (fun _ hk => hk.1.2) (.bool t303)) (fun _ hk => hk.2) (.slice Ao220 t304.length co220)) (fun _ hk => hk.2) (.bool t307)) (fun _ h_ => h_.1)) (fun _ h_ => h_.1))) (Kd.R_base ho0) hb); have n2_ := Aside0.mk (Kd.R_lower (Kd.R_new' (Kd.R_new' ho0 (Kd.R_lt (by (with_reducible repeat (first | apply Kd.R_alloc | apply Kd.R_drewN | apply Kd.R_drew)); exact (Kd.R_mono (Kd.R_mono (Kd.R_far (p := ⟨gb309, 1, none⟩) (Kd.R_far (p := ⟨gb309, 0, none⟩) (Kd.R_far (p := ⟨gb308, 1, none⟩) (Kd.R_far (p := ⟨gb308, 0, none⟩) (Kd.R_types (Kd.R_types HO302.out BK308.out (by decide)) BK309.out (by decide)) (fun _ hk => hk.1.2) (.slice Ao217 t300.length co217)) (fun _ hk => hk.1.2) (.bool t303)) (fun _ hk => hk.2) (.slice Ao220 t304.length co220)) (fun _ hk => hk.2) (.bool t307)) (fun _ h_ => h_.1)) (fun _ h_ => h_.1))))) (Kd.R_lt (by (with_reducible repeat (first | apply Kd.R_alloc | apply Kd.R_drewN | apply Kd.R_drew)); exact (Kd.R_mono (Kd.R_mono (Kd.R_far (p := ⟨gb309, 1, none⟩) (Kd.R_far (p := ⟨gb309, 0, none⟩) (Kd.R_far (p := ⟨gb308, 1, none⟩) (Kd.R_far (p := ⟨gb308, 0, none⟩) (Kd.R_types (Kd.R_types HO306.out BK308.out (by decide)) BK309.out (by decide)) (fun _ hk => hk.1.2) (.slice Ao217 t300.length co217)) (fun _ hk => hk.1.2) (.bool t303)) (fun _ hk => hk.2) (.slice Ao220 t304.length co220)) (fun _ hk => hk.2) (.bool t307)) (fun _ h_ => h_.1)) (fun _ h_ => h_.1))))) (below_size hb_a)); have n3_ := Aside0.mk (blk_below (g := gb295) (o := .cells #[.slice A0_0 l0_0.length c0_0, .bool a0_1] 24 (0, 0)) (by (with_reducible repeat (first | refine blk_drewN ?_ _ | refine blk_drew ?_ | refine blk_alloc ?_ _)); refine blk_far ?_ NB295_309.out _; (with_reducible repeat (first | refine blk_drewN ?_ _ | refine blk_drew ?_ | refine blk_alloc ?_ _)); refine blk_far ?_ NB295_309.out _; (with_reducible repeat (first | refine blk_drewN ?_ _ | refine blk_drew ?_ | refine blk_alloc ?_ _)); refine blk_far ?_ NB295_308.out _; (with_reducible repeat (first | refine blk_drewN ?_ _ | refine blk_drew ?_ | refine blk_alloc ?_ _)); refine blk_far ?_ NB295_308.out _; (with_reducible repeat (first | refine blk_drewN ?_ _ | refine blk_drew ?_ | refine blk_alloc ?_ _)); exact BK295.out) hb); have n4_ := Aside0.mk (blk_below (g := gb296) (o := .cells #[.slice A1_0 l1_0.length c1_0, .bool a1_1] 24 (0, 0)) (by (with_reducible repeat (first | refine blk_drewN ?_ _ | refine blk_drew ?_ | refine blk_alloc ?_ _)); refine blk_far ?_ NB296_309.out _; (with_reducible repeat (first | refine blk_drewN ?_ _ | refine blk_drew ?_ | refine blk_alloc ?_ _)); refine blk_far ?_ NB296_309.out _; (with_reducible repeat (first | refine blk_drewN ?_ _ | refine blk_drew ?_ | refine blk_alloc ?_ _)); refine blk_far ?_ NB296_308.out _; (with_reducible repeat (first | refine blk_drewN ?_ _ | refine blk_drew ?_ | refine blk_alloc ?_ _)); refine blk_far ?_ NB296_308.out _; (with_reducible repeat (first | refine blk_drewN ?_ _ | refine blk_drew ?_ | refine blk_alloc ?_ _)); exact BK296.out) hb); have n5_ := Aside0.mk (blk_below (g := gb308) (o := .cells #[.slice Ao217 t300.length co217, .bool t303] 24 (0, 0)) (by (with_reducible repeat (first | refine blk_drewN ?_ _ | refine blk_drew ?_ | refine blk_alloc ?_ _)); refine blk_far ?_ NB308_309.out _; (with_reducible repeat (first | refine blk_drewN ?_ _ | refine blk_drew ?_ | refine blk_alloc ?_ _)); refine blk_far ?_ NB308_309.out _; (with_reducible repeat (first | refine blk_drewN ?_ _ | refine blk_drew ?_ | refine blk_alloc ?_ _)); refine blk_put (cs := #[.slice Ao217 t300.length co217, .bool false]) ?_ 1 _ rfl; (with_reducible repeat (first | refine blk_drewN ?_ _ | refine blk_drew ?_ | refine blk_alloc ?_ _)); refine blk_put (cs := #[.slice none 0 0, .bool false]) ?_ 0 _ rfl; (with_reducible repeat (first | refine blk_drewN ?_ _ | refine blk_drew ?_ | refine blk_alloc ?_ _)); exact BK308.out) hb); have n6_ := Aside0.mk (blk_below (g := gb309) (o := .cells #[.slice Ao220 t304.length co220, .bool t307] 24 (0, 0)) (by (with_reducible repeat (first | refine blk_drewN ?_ _ | refine blk_drew ?_ | refine blk_alloc ?_ _)); refine blk_put (cs := #[.slice Ao220 t304.length co220, .bool false]) ?_ 1 _ rfl; (with_reducible repeat (first | refine blk_drewN ?_ _ | refine blk_drew ?_ | refine blk_alloc ?_ _)); refine blk_put (cs := #[.slice none 0 0, .bool false]) ?_ 0 _ rfl; (with_reducible repeat (first | refine blk_drewN ?_ _ | refine blk_drew ?_ | refine blk_alloc ?_ _)); refine blk_far ?_ NB309_308.out _; (with_reducible repeat (first | refine blk_drewN ?_ _ | refine blk_drew ?_ | refine blk_alloc ?_ _)); refine blk_far ?_ NB309_308.out _; (with_reducible repeat (first | refine blk_drewN ?_ _ | refine blk_drew ?_ | refine blk_alloc ?_ _)); exact BK309.out) hb); have n7_ := Aside0.mk (below_step hb_a hb); clear HO302; clear HO306; clear BK295; clear BK296; clear BK308; clear BK309; clear HB; have HO302 := n0_; have HO306 := n1_; have HO312 := n2_; have BK295 := n3_; have BK296 := n4_; have BK308 := n5_; have BK309 := n6_; have HB := n7_; clear n0_ n1_ n2_ n3_ n4_ n5_ n6_ n7_; (try clear hb); (try clear hb2); (try clear hk); (try clear hi); (try clear ho0)) | ((with_reducible refine gate_dst (N := 7) rfl ?_); refine box_event ?hg (N := 7) ?hd (cs := #[.slice none 0 0, .bool false]) (t := 24) ?hr ?_; (case hd => rfl); (case hg => rfl); (case hr => first | (go_simp; done) | (go_simp; rfl)); intro gb315 hg w231 hbox hb; have n0_ := Aside0.mk (Kd.R_below (by (with_reducible repeat (first | apply Kd.R_alloc | apply Kd.R_drewN | apply Kd.R_drew)); exact HO302.out) hb); have n1_ := Aside0.mk (Kd.R_below (by (with_reducible repeat (first | apply Kd.R_alloc | apply Kd.R_drewN | apply Kd.R_drew)); exact HO306.out) hb); have n2_ := Aside0.mk (Kd.R_below (by (with_reducible repeat (first | apply Kd.R_alloc | apply Kd.R_drewN | apply Kd.R_drew)); exact HO312.out) hb); have n3_ := Aside0.mk (blk_below (g := gb295) (o := .cells #[.slice A0_0 l0_0.length c0_0, .bool a0_1] 24 (0, 0)) bk_a hb); have n4_ := Aside0.mk (blk_below (g := gb296) (o := .cells #[.slice A1_0 l1_0.length c1_0, .bool a1_1] 24 (0, 0)) bk_a hb); have n5_ := Aside0.mk (blk_below (g := gb308) (o := .cells #[.slice Ao217 t300.length co217, .bool t303] 24 (0, 0)) bk_a hb); have n6_ := Aside0.mk (blk_below (g := gb309) (o := .cells #[.slice Ao220 t304.length co220, .bool t307] 24 (0, 0)) bk_a hb); have n7_ := Aside0.mk (below_step hb_a hb); have n8_ := Aside0.mk (hbox); have n9_ := Aside0.mk ((by rw [hg]; exact (below_size hb_a) : w.heap.size ≤ gb315)); have n10_ := Aside0.mk ((by rw [hg]; exact (below_size hb_a) : w.heap.size ≤ gb315)); have n11_ := Aside0.mk ((by rw [hg]; exact Nat.ne_of_lt (blk_lt (g := gb295) (o := .cells #[.slice A0_0 l0_0.length c0_0, .bool a0_1] 24 (0, 0)) bk_a) : gb295 ≠ gb315)); have n12_ := Aside0.mk ((by rw [hg]; exact Nat.ne_of_gt (blk_lt (g := gb295) (o := .cells #[.slice A0_0 l0_0.length c0_0, .bool a0_1] 24 (0, 0)) bk_a) : gb315 ≠ gb295)); have n13_ := Aside0.mk ((by rw [hg]; exact Nat.ne_of_lt (blk_lt (g := gb296) (o := .cells #[.slice A1_0 l1_0.length c1_0, .bool a1_1] 24 (0, 0)) bk_a) : gb296 ≠ gb315)); have n14_ := Aside0.mk ((by rw [hg]; exact Nat.ne_of_gt (blk_lt (g := gb296) (o := .cells #[.slice A1_0 l1_0.length c1_0, .bool a1_1] 24 (0, 0)) bk_a) : gb315 ≠ gb296)); have n15_ := Aside0.mk ((by rw [hg]; exact Nat.ne_of_lt (blk_lt (g := gb308) (o := .cells #[.slice Ao217 t300.length co217, .bool t303] 24 (0, 0)) bk_a) : gb308 ≠ gb315)); have n16_ := Aside0.mk ((by rw [hg]; exact Nat.ne_of_gt (blk_lt (g := gb308) (o := .cells #[.slice Ao217 t300.length co217, .bool t303] 24 (0, 0)) bk_a) : gb315 ≠ gb308)); have n17_ := Aside0.mk ((by rw [hg]; exact Nat.ne_of_lt (blk_lt (g := gb309) (o := .cells #[.slice Ao220 t304.length co220, .bool t307] 24 (0, 0)) bk_a) : gb309 ≠ gb315)); have n18_ := Aside0.mk ((by rw [hg]; exact Nat.ne_of_gt (blk_lt (g := gb309) (o := .cells #[.slice Ao220 t304.length co220, .bool t307] 24 (0, 0)) bk_a) : gb315 ≠ gb309)); clear HO302; clear HO306; clear HO312; clear BK295; clear BK296; clear BK308; clear BK309; clear HB; have HO302 := n0_; have HO306 := n1_; have HO312 := n2_; have BK295 := n3_; have BK296 := n4_; have BK308 := n5_; have BK309 := n6_; have HB := n7_; have BK315 := n8_; have GW315 := n9_; have GE315 := n10_; have NB295_315 := n11_; have NB315_295 := n12_; have NB296_315 := n13_; have NB315_296 := n14_; have NB308_315 := n15_; have NB315_308 := n16_; have NB309_315 := n17_; have NB315_309 := n18_; clear n0_ n1_ n2_ n3_ n4_ n5_ n6_ n7_ n8_ n9_ n10_ n11_ n12_ n13_ n14_ n15_ n16_ n17_ n18_; clear hb hbox hg; obtain ⟨Ao232, co232, eo232⟩ := Kd.R_slice HO312.out; subst eo232; have hnb233 := NB315_295.out; have hnc233 := NB295_315.out; have hnb234 := NB315_296.out; have hnc234 := NB296_315.out; have hnb235 := NB315_308.out; have hnc235 := NB308_315.out; have hnb236 := NB315_309.out; have hnc236 := NB309_315.out; have hcz237_0 : w231.cell? ⟨gb315, 0, none⟩ = some (.slice none 0 0) := (blk_cell BK315.out 0).trans rfl; have hcz237_1 : w231.cell? ⟨gb315, 1, none⟩ = some (.bool false) := (blk_cell BK315.out 1).trans rfl; have hfz237_0 := blk_frozen BK315.out 0; have hfz237_1 := blk_frozen BK315.out 1; have hcz238_0 : w231.cell? ⟨gb295, 0, none⟩ = some (.slice A0_0 l0_0.length c0_0) := (blk_cell BK295.out 0).trans rfl; have hcz238_1 : w231.cell? ⟨gb295, 1, none⟩ = some (.bool a0_1) := (blk_cell BK295.out 1).trans rfl; have hfz238_0 := blk_frozen BK295.out 0; have hfz238_1 := blk_frozen BK295.out 1; have hcz239_0 : w231.cell? ⟨gb296, 0, none⟩ = some (.slice A1_0 l1_0.length c1_0) := (blk_cell BK296.out 0).trans rfl; have hcz239_1 : w231.cell? ⟨gb296, 1, none⟩ = some (.bool a1_1) := (blk_cell BK296.out 1).trans rfl; have hfz239_0 := blk_frozen BK296.out 0; have hfz239_1 := blk_frozen BK296.out 1))
        have H := HX_.out
        clear HX_
        by_cases c24 : (t314 == t320) = true
        · rw [if_pos c24] at H
          have c24b0 : (t314 == t320) = true := c24
          (try (have c24b1 : decide (t314 = t320) = true := by simpa using c24))
          (try (have c24b2 : (t314 == t320) = true := by simpa using c24))
          clear c24
          replace H := Option.bind_eq_some_iff.mp H
          obtain ⟨t322, A250, H⟩ := H
          replace H : (if t322 = true then ((stockyardref03_Same.f kj2 l0_0 a0_1 t300 t303).bind fun t323 => (if t323 = true then ((stockyardref03_Same.f kj2 l1_0 a1_1 t304 t307).bind fun t324 => (if t324 = true then ((stockyardlaw03_awake.f kj2).bind fun t325 => (some t325)) else (some false))) else (some false))) else (some false)) = some r := H
          have A25 := Aside0.mk A250
          clear A250
          by_cases c26 : t322 = true
          · subst c26
            have H1 : ((stockyardref03_Same.f kj2 l0_0 a0_1 t300 t303).bind fun t323 => (if t323 = true then ((stockyardref03_Same.f kj2 l1_0 a1_1 t304 t307).bind fun t324 => (if t324 = true then ((stockyardlaw03_awake.f kj2).bind fun t325 => (some t325)) else (some false))) else (some false))) = some r := by rw [if_pos rfl] at H; exact H
            clear H
            have H := H1
            clear H1
            replace H := Option.bind_eq_some_iff.mp H
            obtain ⟨t323, A270, H⟩ := H
            replace H : (if t323 = true then ((stockyardref03_Same.f kj2 l1_0 a1_1 t304 t307).bind fun t324 => (if t324 = true then ((stockyardlaw03_awake.f kj2).bind fun t325 => (some t325)) else (some false))) else (some false)) = some r := H
            have A27 := Aside0.mk A270
            clear A270
            by_cases c28 : t323 = true
            · subst c28
              have H1 : ((stockyardref03_Same.f kj2 l1_0 a1_1 t304 t307).bind fun t324 => (if t324 = true then ((stockyardlaw03_awake.f kj2).bind fun t325 => (some t325)) else (some false))) = some r := by rw [if_pos rfl] at H; exact H
              clear H
              have H := H1
              clear H1
              replace H := Option.bind_eq_some_iff.mp H
              obtain ⟨t324, A290, H⟩ := H
              replace H : (if t324 = true then ((stockyardlaw03_awake.f kj2).bind fun t325 => (some t325)) else (some false)) = some r := H
              have A29 := Aside0.mk A290
              clear A290
              by_cases c30 : t324 = true
              · subst c30
                have H1 : ((stockyardlaw03_awake.f kj2).bind fun t325 => (some t325)) = some r := by rw [if_pos rfl] at H; exact H
                clear H
                have H := H1
                clear H1
                replace H := Option.bind_eq_some_iff.mp H
                obtain ⟨t325, A310, H⟩ := H
                replace H : (some t325) = some r := H
                have A31 := Aside0.mk A310
                clear A310
                obtain rfl := Option.some.inj H
                try go_wp2_with (first | ((with_reducible refine gate_callee (f := 15) rfl ?_); refine goesL_ (some 33) rfl rfl Tryd.func15 (by kernel_rfl) rfl #[.agg #[.slice A0_0 l0_0.length c0_0, .bool a0_1], .agg #[.slice A1_0 l1_0.length c1_0, .bool a1_1]] rfl (by (try simp only [List.map_toArray, List.map_cons, List.map_nil]); first | done | rfl | (simp only [List.length_drop, List.length_take]; rfl)) ?_; (with_reducible refine (stockyardref03_Meet.calls kj2 _ _ l0_0 a0_1 _ _ l1_0 a1_1 t316 t319 t320 _ ?side1 ?side2 ?side3 ?side4 A23.out).mono ?_); (case side1 => exact Kd.C_below HR0_0.out hb_a); (case side2 => exact HC0_0.out); (case side3 => exact Kd.C_below HR1_0.out hb_a); (case side4 => exact HC1_0.out); rintro e w61 ⟨v317, rfl, ho0, hb⟩; refine ⟨_, rfl, ?_⟩; have n0_ := Aside0.mk (Kd.R_elder' (by (with_reducible repeat (first | apply Kd.R_alloc | apply Kd.R_drewN | apply Kd.R_drew)); exact (Kd.R_mono (Kd.R_far (p := ⟨gb315, 1, none⟩) (Kd.R_far (p := ⟨gb315, 0, none⟩) (Kd.R_types HO302.out BK315.out (by decide)) (fun _ hk => hk.2) (.slice Ao232 t310.length co232)) (fun _ hk => hk.2) (.bool t313)) (fun _ h_ => h_.1))) (Kd.R_base ho0) hb); have n1_ := Aside0.mk (Kd.R_elder' (by (with_reducible repeat (first | apply Kd.R_alloc | apply Kd.R_drewN | apply Kd.R_drew)); exact (Kd.R_mono (Kd.R_far (p := ⟨gb315, 1, none⟩) (Kd.R_far (p := ⟨gb315, 0, none⟩) (Kd.R_types HO306.out BK315.out (by decide)) (fun _ hk => hk.2) (.slice Ao232 t310.length co232)) (fun _ hk => hk.2) (.bool t313)) (fun _ h_ => h_.1))) (Kd.R_base ho0) hb); have n2_ := Aside0.mk (Kd.R_elder' (by (with_reducible repeat (first | apply Kd.R_alloc | apply Kd.R_drewN | apply Kd.R_drew)); exact (Kd.R_mono (Kd.R_far (p := ⟨gb315, 1, none⟩) (Kd.R_far (p := ⟨gb315, 0, none⟩) (Kd.R_types HO312.out BK315.out (by decide)) (fun _ hk => hk.2) (.slice Ao232 t310.length co232)) (fun _ hk => hk.2) (.bool t313)) (fun _ h_ => h_.1))) (Kd.R_base ho0) hb); have n3_ := Aside0.mk (Kd.R_lower (Kd.R_new' (Kd.R_new' (Kd.R_new' ho0 (Kd.R_lt (by (with_reducible repeat (first | apply Kd.R_alloc | apply Kd.R_drewN | apply Kd.R_drew)); exact (Kd.R_mono (Kd.R_far (p := ⟨gb315, 1, none⟩) (Kd.R_far (p := ⟨gb315, 0, none⟩) (Kd.R_types HO302.out BK315.out (by decide)) (fun _ hk => hk.2) (.slice Ao232 t310.length co232)) (fun _ hk => hk.2) (.bool t313)) (fun _ h_ => h_.1))))) (Kd.R_lt (by (with_reducible repeat (first | apply Kd.R_alloc | apply Kd.R_drewN | apply Kd.R_drew)); exact (Kd.R_mono (Kd.R_far (p := ⟨gb315, 1, none⟩) (Kd.R_far (p := ⟨gb315, 0, none⟩) (Kd.R_types HO306.out BK315.out (by decide)) (fun _ hk => hk.2) (.slice Ao232 t310.length co232)) (fun _ hk => hk.2) (.bool t313)) (fun _ h_ => h_.1))))) (Kd.R_lt (by (with_reducible repeat (first | apply Kd.R_alloc | apply Kd.R_drewN | apply Kd.R_drew)); exact (Kd.R_mono (Kd.R_far (p := ⟨gb315, 1, none⟩) (Kd.R_far (p := ⟨gb315, 0, none⟩) (Kd.R_types HO312.out BK315.out (by decide)) (fun _ hk => hk.2) (.slice Ao232 t310.length co232)) (fun _ hk => hk.2) (.bool t313)) (fun _ h_ => h_.1))))) (below_size hb_a)); have n4_ := Aside0.mk (blk_below (g := gb295) (o := .cells #[.slice A0_0 l0_0.length c0_0, .bool a0_1] 24 (0, 0)) (by (with_reducible repeat (first | refine blk_drewN ?_ _ | refine blk_drew ?_ | refine blk_alloc ?_ _)); refine blk_far ?_ NB295_315.out _; (with_reducible repeat (first | refine blk_drewN ?_ _ | refine blk_drew ?_ | refine blk_alloc ?_ _)); refine blk_far ?_ NB295_315.out _; (with_reducible repeat (first | refine blk_drewN ?_ _ | refine blk_drew ?_ | refine blk_alloc ?_ _)); exact BK295.out) hb); have n5_ := Aside0.mk (blk_below (g := gb296) (o := .cells #[.slice A1_0 l1_0.length c1_0, .bool a1_1] 24 (0, 0)) (by (with_reducible repeat (first | refine blk_drewN ?_ _ | refine blk_drew ?_ | refine blk_alloc ?_ _)); refine blk_far ?_ NB296_315.out _; (with_reducible repeat (first | refine blk_drewN ?_ _ | refine blk_drew ?_ | refine blk_alloc ?_ _)); refine blk_far ?_ NB296_315.out _; (with_reducible repeat (first | refine blk_drewN ?_ _ | refine blk_drew ?_ | refine blk_alloc ?_ _)); exact BK296.out) hb); have n6_ := Aside0.mk (blk_below (g := gb308) (o := .cells #[.slice Ao217 t300.length co217, .bool t303] 24 (0, 0)) (by (with_reducible repeat (first | refine blk_drewN ?_ _ | refine blk_drew ?_ | refine blk_alloc ?_ _)); refine blk_far ?_ NB308_315.out _; (with_reducible repeat (first | refine blk_drewN ?_ _ | refine blk_drew ?_ | refine blk_alloc ?_ _)); refine blk_far ?_ NB308_315.out _; (with_reducible repeat (first | refine blk_drewN ?_ _ | refine blk_drew ?_ | refine blk_alloc ?_ _)); exact BK308.out) hb); have n7_ := Aside0.mk (blk_below (g := gb309) (o := .cells #[.slice Ao220 t304.length co220, .bool t307] 24 (0, 0)) (by (with_reducible repeat (first | refine blk_drewN ?_ _ | refine blk_drew ?_ | refine blk_alloc ?_ _)); refine blk_far ?_ NB309_315.out _; (with_reducible repeat (first | refine blk_drewN ?_ _ | refine blk_drew ?_ | refine blk_alloc ?_ _)); refine blk_far ?_ NB309_315.out _; (with_reducible repeat (first | refine blk_drewN ?_ _ | refine blk_drew ?_ | refine blk_alloc ?_ _)); exact BK309.out) hb); have n8_ := Aside0.mk (blk_below (g := gb315) (o := .cells #[.slice Ao232 t310.length co232, .bool t313] 24 (0, 0)) (by (with_reducible repeat (first | refine blk_drewN ?_ _ | refine blk_drew ?_ | refine blk_alloc ?_ _)); refine blk_put (cs := #[.slice Ao232 t310.length co232, .bool false]) ?_ 1 _ rfl; (with_reducible repeat (first | refine blk_drewN ?_ _ | refine blk_drew ?_ | refine blk_alloc ?_ _)); refine blk_put (cs := #[.slice none 0 0, .bool false]) ?_ 0 _ rfl; (with_reducible repeat (first | refine blk_drewN ?_ _ | refine blk_drew ?_ | refine blk_alloc ?_ _)); exact BK315.out) hb); have n9_ := Aside0.mk (below_step hb_a hb); clear HO302; clear HO306; clear HO312; clear BK295; clear BK296; clear BK308; clear BK309; clear BK315; clear HB; have HO302 := n0_; have HO306 := n1_; have HO312 := n2_; have HO318 := n3_; have BK295 := n4_; have BK296 := n5_; have BK308 := n6_; have BK309 := n7_; have BK315 := n8_; have HB := n9_; clear n0_ n1_ n2_ n3_ n4_ n5_ n6_ n7_ n8_ n9_; (try clear hb); (try clear hb2); (try clear hk); (try clear hi); (try clear ho0)) | ((with_reducible refine gate_dst (N := 9) rfl ?_); refine box_event ?hg (N := 9) ?hd (cs := #[.slice none 0 0, .bool false]) (t := 24) ?hr ?_; (case hd => rfl); (case hg => rfl); (case hr => first | (go_simp; done) | (go_simp; rfl)); intro gb321 hg w62 hbox hb; have n0_ := Aside0.mk (Kd.R_below (by (with_reducible repeat (first | apply Kd.R_alloc | apply Kd.R_drewN | apply Kd.R_drew)); exact HO302.out) hb); have n1_ := Aside0.mk (Kd.R_below (by (with_reducible repeat (first | apply Kd.R_alloc | apply Kd.R_drewN | apply Kd.R_drew)); exact HO306.out) hb); have n2_ := Aside0.mk (Kd.R_below (by (with_reducible repeat (first | apply Kd.R_alloc | apply Kd.R_drewN | apply Kd.R_drew)); exact HO312.out) hb); have n3_ := Aside0.mk (Kd.R_below (by (with_reducible repeat (first | apply Kd.R_alloc | apply Kd.R_drewN | apply Kd.R_drew)); exact HO318.out) hb); have n4_ := Aside0.mk (blk_below (g := gb295) (o := .cells #[.slice A0_0 l0_0.length c0_0, .bool a0_1] 24 (0, 0)) bk_a hb); have n5_ := Aside0.mk (blk_below (g := gb296) (o := .cells #[.slice A1_0 l1_0.length c1_0, .bool a1_1] 24 (0, 0)) bk_a hb); have n6_ := Aside0.mk (blk_below (g := gb308) (o := .cells #[.slice Ao217 t300.length co217, .bool t303] 24 (0, 0)) bk_a hb); have n7_ := Aside0.mk (blk_below (g := gb309) (o := .cells #[.slice Ao220 t304.length co220, .bool t307] 24 (0, 0)) bk_a hb); have n8_ := Aside0.mk (blk_below (g := gb315) (o := .cells #[.slice Ao232 t310.length co232, .bool t313] 24 (0, 0)) bk_a hb); have n9_ := Aside0.mk (below_step hb_a hb); have n10_ := Aside0.mk (hbox); have n11_ := Aside0.mk ((by rw [hg]; exact (below_size hb_a) : w.heap.size ≤ gb321)); have n12_ := Aside0.mk ((by rw [hg]; exact (below_size hb_a) : w.heap.size ≤ gb321)); have n13_ := Aside0.mk ((by rw [hg]; exact Nat.ne_of_lt (blk_lt (g := gb295) (o := .cells #[.slice A0_0 l0_0.length c0_0, .bool a0_1] 24 (0, 0)) bk_a) : gb295 ≠ gb321)); have n14_ := Aside0.mk ((by rw [hg]; exact Nat.ne_of_gt (blk_lt (g := gb295) (o := .cells #[.slice A0_0 l0_0.length c0_0, .bool a0_1] 24 (0, 0)) bk_a) : gb321 ≠ gb295)); have n15_ := Aside0.mk ((by rw [hg]; exact Nat.ne_of_lt (blk_lt (g := gb296) (o := .cells #[.slice A1_0 l1_0.length c1_0, .bool a1_1] 24 (0, 0)) bk_a) : gb296 ≠ gb321)); have n16_ := Aside0.mk ((by rw [hg]; exact Nat.ne_of_gt (blk_lt (g := gb296) (o := .cells #[.slice A1_0 l1_0.length c1_0, .bool a1_1] 24 (0, 0)) bk_a) : gb321 ≠ gb296)); have n17_ := Aside0.mk ((by rw [hg]; exact Nat.ne_of_lt (blk_lt (g := gb308) (o := .cells #[.slice Ao217 t300.length co217, .bool t303] 24 (0, 0)) bk_a) : gb308 ≠ gb321)); have n18_ := Aside0.mk ((by rw [hg]; exact Nat.ne_of_gt (blk_lt (g := gb308) (o := .cells #[.slice Ao217 t300.length co217, .bool t303] 24 (0, 0)) bk_a) : gb321 ≠ gb308)); have n19_ := Aside0.mk ((by rw [hg]; exact Nat.ne_of_lt (blk_lt (g := gb309) (o := .cells #[.slice Ao220 t304.length co220, .bool t307] 24 (0, 0)) bk_a) : gb309 ≠ gb321)); have n20_ := Aside0.mk ((by rw [hg]; exact Nat.ne_of_gt (blk_lt (g := gb309) (o := .cells #[.slice Ao220 t304.length co220, .bool t307] 24 (0, 0)) bk_a) : gb321 ≠ gb309)); have n21_ := Aside0.mk ((by rw [hg]; exact Nat.ne_of_lt (blk_lt (g := gb315) (o := .cells #[.slice Ao232 t310.length co232, .bool t313] 24 (0, 0)) bk_a) : gb315 ≠ gb321)); have n22_ := Aside0.mk ((by rw [hg]; exact Nat.ne_of_gt (blk_lt (g := gb315) (o := .cells #[.slice Ao232 t310.length co232, .bool t313] 24 (0, 0)) bk_a) : gb321 ≠ gb315)); clear HO302; clear HO306; clear HO312; clear HO318; clear BK295; clear BK296; clear BK308; clear BK309; clear BK315; clear HB; have HO302 := n0_; have HO306 := n1_; have HO312 := n2_; have HO318 := n3_; have BK295 := n4_; have BK296 := n5_; have BK308 := n6_; have BK309 := n7_; have BK315 := n8_; have HB := n9_; have BK321 := n10_; have GW321 := n11_; have GE321 := n12_; have NB295_321 := n13_; have NB321_295 := n14_; have NB296_321 := n15_; have NB321_296 := n16_; have NB308_321 := n17_; have NB321_308 := n18_; have NB309_321 := n19_; have NB321_309 := n20_; have NB315_321 := n21_; have NB321_315 := n22_; clear n0_ n1_ n2_ n3_ n4_ n5_ n6_ n7_ n8_ n9_ n10_ n11_ n12_ n13_ n14_ n15_ n16_ n17_ n18_ n19_ n20_ n21_ n22_; clear hb hbox hg; obtain ⟨Ao63, co63, eo63⟩ := Kd.R_slice HO318.out; subst eo63; have hnb64 := NB321_295.out; have hnc64 := NB295_321.out; have hnb65 := NB321_296.out; have hnc65 := NB296_321.out; have hnb66 := NB321_308.out; have hnc66 := NB308_321.out; have hnb67 := NB321_309.out; have hnc67 := NB309_321.out; have hnb68 := NB321_315.out; have hnc68 := NB315_321.out; have hcz69_0 : w62.cell? ⟨gb321, 0, none⟩ = some (.slice none 0 0) := (blk_cell BK321.out 0).trans rfl; have hcz69_1 : w62.cell? ⟨gb321, 1, none⟩ = some (.bool false) := (blk_cell BK321.out 1).trans rfl; have hfz69_0 := blk_frozen BK321.out 0; have hfz69_1 := blk_frozen BK321.out 1; have hcz70_0 : w62.cell? ⟨gb315, 0, none⟩ = some (.slice Ao232 t310.length co232) := (blk_cell BK315.out 0).trans rfl; have hcz70_1 : w62.cell? ⟨gb315, 1, none⟩ = some (.bool t313) := (blk_cell BK315.out 1).trans rfl; have hfz70_0 := blk_frozen BK315.out 0; have hfz70_1 := blk_frozen BK315.out 1) | (go_at_call 16; (with_reducible refine (stockyardref03_Same.calls kj2 _ _ t310 t313 _ _ t316 t319 true _ ?side1 ?side2 ?side3 ?side4 A25.out).mono ?_); (case side1 => refine (Kd.R_reads' (e := 9) (base := w.heap.size) (ok := fun k_ => (((True ∧ some k_ ≠ (.slice Ao217 t300.length co217 : Value).ownBlock) ∧ some k_ ≠ (.slice Ao220 t304.length co220 : Value).ownBlock) ∧ some k_ ≠ (.slice Ao63 t316.length co63 : Value).ownBlock)) (n := t310.length) (c := co232) ?_).2.2; exact (by (with_reducible repeat (first | apply Kd.R_alloc | apply Kd.R_drewN | apply Kd.R_drew)); exact (Kd.R_mono (Kd.R_far (p := ⟨gb321, 1, none⟩) (Kd.R_far (p := ⟨gb321, 0, none⟩) (Kd.R_types HO312.out BK321.out (by decide)) (fun _ hk => hk.2) (.slice Ao63 t316.length co63)) (fun _ hk => hk.2) (.bool t319)) (fun _ h_ => h_.1)))); (case side2 => exact (Kd.R_reads' HO312.out).2.1); (case side3 => refine (Kd.R_reads' (e := 9) (base := w.heap.size) (ok := fun k_ => (((True ∧ some k_ ≠ (.slice Ao217 t300.length co217 : Value).ownBlock) ∧ some k_ ≠ (.slice Ao220 t304.length co220 : Value).ownBlock) ∧ some k_ ≠ (.slice Ao232 t310.length co232 : Value).ownBlock)) (n := t316.length) (c := co63) ?_).2.2; exact (by (with_reducible repeat (first | apply Kd.R_alloc | apply Kd.R_drewN | apply Kd.R_drew)); exact (Kd.R_mono (Kd.R_far (p := ⟨gb321, 1, none⟩) (Kd.R_far (p := ⟨gb321, 0, none⟩) (Kd.R_types HO318.out BK321.out (by decide)) (fun _ hk => hk.2) (.slice Ao63 t316.length co63)) (fun _ hk => hk.2) (.bool t319)) (fun _ h_ => h_.1)))); (case side4 => exact (Kd.R_reads' HO318.out).2.1); rintro e w71 ⟨rfl, hb⟩; have n0_ := Aside0.mk (Kd.R_below (by (with_reducible repeat (first | apply Kd.R_alloc | apply Kd.R_drewN | apply Kd.R_drew)); exact (Kd.R_mono (Kd.R_far (p := ⟨gb321, 1, none⟩) (Kd.R_far (p := ⟨gb321, 0, none⟩) (Kd.R_types HO302.out BK321.out (by decide)) (fun _ hk => hk.2) (.slice Ao63 t316.length co63)) (fun _ hk => hk.2) (.bool t319)) (fun _ h_ => h_.1))) hb); have n1_ := Aside0.mk (Kd.R_below (by (with_reducible repeat (first | apply Kd.R_alloc | apply Kd.R_drewN | apply Kd.R_drew)); exact (Kd.R_mono (Kd.R_far (p := ⟨gb321, 1, none⟩) (Kd.R_far (p := ⟨gb321, 0, none⟩) (Kd.R_types HO306.out BK321.out (by decide)) (fun _ hk => hk.2) (.slice Ao63 t316.length co63)) (fun _ hk => hk.2) (.bool t319)) (fun _ h_ => h_.1))) hb); have n2_ := Aside0.mk (Kd.R_below (by (with_reducible repeat (first | apply Kd.R_alloc | apply Kd.R_drewN | apply Kd.R_drew)); exact (Kd.R_mono (Kd.R_far (p := ⟨gb321, 1, none⟩) (Kd.R_far (p := ⟨gb321, 0, none⟩) (Kd.R_types HO312.out BK321.out (by decide)) (fun _ hk => hk.2) (.slice Ao63 t316.length co63)) (fun _ hk => hk.2) (.bool t319)) (fun _ h_ => h_.1))) hb); have n3_ := Aside0.mk (Kd.R_below (by (with_reducible repeat (first | apply Kd.R_alloc | apply Kd.R_drewN | apply Kd.R_drew)); exact (Kd.R_mono (Kd.R_far (p := ⟨gb321, 1, none⟩) (Kd.R_far (p := ⟨gb321, 0, none⟩) (Kd.R_types HO318.out BK321.out (by decide)) (fun _ hk => hk.2) (.slice Ao63 t316.length co63)) (fun _ hk => hk.2) (.bool t319)) (fun _ h_ => h_.1))) hb); have n4_ := Aside0.mk (blk_below (g := gb295) (o := .cells #[.slice A0_0 l0_0.length c0_0, .bool a0_1] 24 (0, 0)) (by (with_reducible repeat (first | refine blk_drewN ?_ _ | refine blk_drew ?_ | refine blk_alloc ?_ _)); refine blk_far ?_ NB295_321.out _; (with_reducible repeat (first | refine blk_drewN ?_ _ | refine blk_drew ?_ | refine blk_alloc ?_ _)); refine blk_far ?_ NB295_321.out _; (with_reducible repeat (first | refine blk_drewN ?_ _ | refine blk_drew ?_ | refine blk_alloc ?_ _)); exact BK295.out) hb); have n5_ := Aside0.mk (blk_below (g := gb296) (o := .cells #[.slice A1_0 l1_0.length c1_0, .bool a1_1] 24 (0, 0)) (by (with_reducible repeat (first | refine blk_drewN ?_ _ | refine blk_drew ?_ | refine blk_alloc ?_ _)); refine blk_far ?_ NB296_321.out _; (with_reducible repeat (first | refine blk_drewN ?_ _ | refine blk_drew ?_ | refine blk_alloc ?_ _)); refine blk_far ?_ NB296_321.out _; (with_reducible repeat (first | refine blk_drewN ?_ _ | refine blk_drew ?_ | refine blk_alloc ?_ _)); exact BK296.out) hb); have n6_ := Aside0.mk (blk_below (g := gb308) (o := .cells #[.slice Ao217 t300.length co217, .bool t303] 24 (0, 0)) (by (with_reducible repeat (first | refine blk_drewN ?_ _ | refine blk_drew ?_ | refine blk_alloc ?_ _)); refine blk_far ?_ NB308_321.out _; (with_reducible repeat (first | refine blk_drewN ?_ _ | refine blk_drew ?_ | refine blk_alloc ?_ _)); refine blk_far ?_ NB308_321.out _; (with_reducible repeat (first | refine blk_drewN ?_ _ | refine blk_drew ?_ | refine blk_alloc ?_ _)); exact BK308.out) hb); have n7_ := Aside0.mk (blk_below (g := gb309) (o := .cells #[.slice Ao220 t304.length co220, .bool t307] 24 (0, 0)) (by (with_reducible repeat (first | refine blk_drewN ?_ _ | refine blk_drew ?_ | refine blk_alloc ?_ _)); refine blk_far ?_ NB309_321.out _; (with_reducible repeat (first | refine blk_drewN ?_ _ | refine blk_drew ?_ | refine blk_alloc ?_ _)); refine blk_far ?_ NB309_321.out _; (with_reducible repeat (first | refine blk_drewN ?_ _ | refine blk_drew ?_ | refine blk_alloc ?_ _)); exact BK309.out) hb); have n8_ := Aside0.mk (blk_below (g := gb315) (o := .cells #[.slice Ao232 t310.length co232, .bool t313] 24 (0, 0)) (by (with_reducible repeat (first | refine blk_drewN ?_ _ | refine blk_drew ?_ | refine blk_alloc ?_ _)); refine blk_far ?_ NB315_321.out _; (with_reducible repeat (first | refine blk_drewN ?_ _ | refine blk_drew ?_ | refine blk_alloc ?_ _)); refine blk_far ?_ NB315_321.out _; (with_reducible repeat (first | refine blk_drewN ?_ _ | refine blk_drew ?_ | refine blk_alloc ?_ _)); exact BK315.out) hb); have n9_ := Aside0.mk (blk_below (g := gb321) (o := .cells #[.slice Ao63 t316.length co63, .bool t319] 24 (0, 0)) (by (with_reducible repeat (first | refine blk_drewN ?_ _ | refine blk_drew ?_ | refine blk_alloc ?_ _)); refine blk_put (cs := #[.slice Ao63 t316.length co63, .bool false]) ?_ 1 _ rfl; (with_reducible repeat (first | refine blk_drewN ?_ _ | refine blk_drew ?_ | refine blk_alloc ?_ _)); refine blk_put (cs := #[.slice none 0 0, .bool false]) ?_ 0 _ rfl; (with_reducible repeat (first | refine blk_drewN ?_ _ | refine blk_drew ?_ | refine blk_alloc ?_ _)); exact BK321.out) hb); have n10_ := Aside0.mk (below_step hb_a hb); clear HO302; clear HO306; clear HO312; clear HO318; clear BK295; clear BK296; clear BK308; clear BK309; clear BK315; clear BK321; clear HB; have HO302 := n0_; have HO306 := n1_; have HO312 := n2_; have HO318 := n3_; have BK295 := n4_; have BK296 := n5_; have BK308 := n6_; have BK309 := n7_; have BK315 := n8_; have BK321 := n9_; have HB := n10_; clear n0_ n1_ n2_ n3_ n4_ n5_ n6_ n7_ n8_ n9_ n10_; (try clear hb); (try clear hb2); (try clear hk); (try clear hi); have hcz72_0 : w71.cell? ⟨gb295, 0, none⟩ = some (.slice A0_0 l0_0.length c0_0) := (blk_cell BK295.out 0).trans rfl; have hcz72_1 : w71.cell? ⟨gb295, 1, none⟩ = some (.bool a0_1) := (blk_cell BK295.out 1).trans rfl; have hfz72_0 := blk_frozen BK295.out 0; have hfz72_1 := blk_frozen BK295.out 1; have hnb73 := NB308_309.out; have hnc73 := NB309_308.out; have hcz74_0 : w71.cell? ⟨gb308, 0, none⟩ = some (.slice Ao217 t300.length co217) := (blk_cell BK308.out 0).trans rfl; have hcz74_1 : w71.cell? ⟨gb308, 1, none⟩ = some (.bool t303) := (blk_cell BK308.out 1).trans rfl; have hfz74_0 := blk_frozen BK308.out 0; have hfz74_1 := blk_frozen BK308.out 1) | (go_at_call 16; (with_reducible refine (stockyardref03_Same.calls kj2 _ _ l0_0 a0_1 _ _ t300 t303 true _ ?side1 ?side2 ?side3 ?side4 A27.out).mono ?_); (case side1 => repeat (first | exact (Kd.C_below HR0_0.out HB.out) | (with_reducible refine Kd.C_alloc ?_ _) | (with_reducible refine Kd.C_drewN ?_ _) | (with_reducible refine Kd.C_drew ?_))); (case side2 => exact HC0_0.out); (case side3 => repeat (first | exact (Kd.R_reads' HO302.out).2.2 | (with_reducible refine Kd.C_alloc ?_ _) | (with_reducible refine Kd.C_drewN ?_ _) | (with_reducible refine Kd.C_drew ?_))); (case side4 => exact (Kd.R_reads' HO302.out).2.1); rintro e w75 ⟨rfl, hb⟩; have n0_ := Aside0.mk (Kd.R_below (by (with_reducible repeat (first | apply Kd.R_alloc | apply Kd.R_drewN | apply Kd.R_drew)); exact HO302.out) hb); have n1_ := Aside0.mk (Kd.R_below (by (with_reducible repeat (first | apply Kd.R_alloc | apply Kd.R_drewN | apply Kd.R_drew)); exact HO306.out) hb); have n2_ := Aside0.mk (Kd.R_below (by (with_reducible repeat (first | apply Kd.R_alloc | apply Kd.R_drewN | apply Kd.R_drew)); exact HO312.out) hb); have n3_ := Aside0.mk (Kd.R_below (by (with_reducible repeat (first | apply Kd.R_alloc | apply Kd.R_drewN | apply Kd.R_drew)); exact HO318.out) hb); have n4_ := Aside0.mk (blk_below (g := gb295) (o := .cells #[.slice A0_0 l0_0.length c0_0, .bool a0_1] 24 (0, 0)) bk_a hb); have n5_ := Aside0.mk (blk_below (g := gb296) (o := .cells #[.slice A1_0 l1_0.length c1_0, .bool a1_1] 24 (0, 0)) bk_a hb); have n6_ := Aside0.mk (blk_below (g := gb308) (o := .cells #[.slice Ao217 t300.length co217, .bool t303] 24 (0, 0)) bk_a hb); have n7_ := Aside0.mk (blk_below (g := gb309) (o := .cells #[.slice Ao220 t304.length co220, .bool t307] 24 (0, 0)) bk_a hb); have n8_ := Aside0.mk (blk_below (g := gb315) (o := .cells #[.slice Ao232 t310.length co232, .bool t313] 24 (0, 0)) bk_a hb); have n9_ := Aside0.mk (blk_below (g := gb321) (o := .cells #[.slice Ao63 t316.length co63, .bool t319] 24 (0, 0)) bk_a hb); have n10_ := Aside0.mk (below_step hb_a hb); clear HO302; clear HO306; clear HO312; clear HO318; clear BK295; clear BK296; clear BK308; clear BK309; clear BK315; clear BK321; clear HB; have HO302 := n0_; have HO306 := n1_; have HO312 := n2_; have HO318 := n3_; have BK295 := n4_; have BK296 := n5_; have BK308 := n6_; have BK309 := n7_; have BK315 := n8_; have BK321 := n9_; have HB := n10_; clear n0_ n1_ n2_ n3_ n4_ n5_ n6_ n7_ n8_ n9_ n10_; (try clear hb); (try clear hb2); (try clear hk); (try clear hi); have hcz76_0 : w75.cell? ⟨gb296, 0, none⟩ = some (.slice A1_0 l1_0.length c1_0) := (blk_cell BK296.out 0).trans rfl; have hcz76_1 : w75.cell? ⟨gb296, 1, none⟩ = some (.bool a1_1) := (blk_cell BK296.out 1).trans rfl; have hfz76_0 := blk_frozen BK296.out 0; have hfz76_1 := blk_frozen BK296.out 1; have hcz77_0 : w75.cell? ⟨gb309, 0, none⟩ = some (.slice Ao220 t304.length co220) := (blk_cell BK309.out 0).trans rfl; have hcz77_1 : w75.cell? ⟨gb309, 1, none⟩ = some (.bool t307) := (blk_cell BK309.out 1).trans rfl; have hfz77_0 := blk_frozen BK309.out 0; have hfz77_1 := blk_frozen BK309.out 1) | (go_at_call 16; (with_reducible refine (stockyardref03_Same.calls kj2 _ _ l1_0 a1_1 _ _ t304 t307 true _ ?side1 ?side2 ?side3 ?side4 A29.out).mono ?_); (case side1 => repeat (first | exact (Kd.C_below HR1_0.out HB.out) | (with_reducible refine Kd.C_alloc ?_ _) | (with_reducible refine Kd.C_drewN ?_ _) | (with_reducible refine Kd.C_drew ?_))); (case side2 => exact HC1_0.out); (case side3 => repeat (first | exact (Kd.R_reads' HO306.out).2.2 | (with_reducible refine Kd.C_alloc ?_ _) | (with_reducible refine Kd.C_drewN ?_ _) | (with_reducible refine Kd.C_drew ?_))); (case side4 => exact (Kd.R_reads' HO306.out).2.1); rintro e w78 ⟨rfl, hb⟩; have n0_ := Aside0.mk (Kd.R_below (by (with_reducible repeat (first | apply Kd.R_alloc | apply Kd.R_drewN | apply Kd.R_drew)); exact HO302.out) hb); have n1_ := Aside0.mk (Kd.R_below (by (with_reducible repeat (first | apply Kd.R_alloc | apply Kd.R_drewN | apply Kd.R_drew)); exact HO306.out) hb); have n2_ := Aside0.mk (Kd.R_below (by (with_reducible repeat (first | apply Kd.R_alloc | apply Kd.R_drewN | apply Kd.R_drew)); exact HO312.out) hb); have n3_ := Aside0.mk (Kd.R_below (by (with_reducible repeat (first | apply Kd.R_alloc | apply Kd.R_drewN | apply Kd.R_drew)); exact HO318.out) hb); have n4_ := Aside0.mk (blk_below (g := gb295) (o := .cells #[.slice A0_0 l0_0.length c0_0, .bool a0_1] 24 (0, 0)) bk_a hb); have n5_ := Aside0.mk (blk_below (g := gb296) (o := .cells #[.slice A1_0 l1_0.length c1_0, .bool a1_1] 24 (0, 0)) bk_a hb); have n6_ := Aside0.mk (blk_below (g := gb308) (o := .cells #[.slice Ao217 t300.length co217, .bool t303] 24 (0, 0)) bk_a hb); have n7_ := Aside0.mk (blk_below (g := gb309) (o := .cells #[.slice Ao220 t304.length co220, .bool t307] 24 (0, 0)) bk_a hb); have n8_ := Aside0.mk (blk_below (g := gb315) (o := .cells #[.slice Ao232 t310.length co232, .bool t313] 24 (0, 0)) bk_a hb); have n9_ := Aside0.mk (blk_below (g := gb321) (o := .cells #[.slice Ao63 t316.length co63, .bool t319] 24 (0, 0)) bk_a hb); have n10_ := Aside0.mk (below_step hb_a hb); clear HO302; clear HO306; clear HO312; clear HO318; clear BK295; clear BK296; clear BK308; clear BK309; clear BK315; clear BK321; clear HB; have HO302 := n0_; have HO306 := n1_; have HO312 := n2_; have HO318 := n3_; have BK295 := n4_; have BK296 := n5_; have BK308 := n6_; have BK309 := n7_; have BK315 := n8_; have BK321 := n9_; have HB := n10_; clear n0_ n1_ n2_ n3_ n4_ n5_ n6_ n7_ n8_ n9_ n10_; (try clear hb); (try clear hb2); (try clear hk); (try clear hi)) | (go_at_call 12; (with_reducible refine (stockyardlaw03_awake.calls kj2  t325 _ A31.out).mono ?_); rintro e w79 ⟨rfl, hb⟩; have n0_ := Aside0.mk (Kd.R_below (by (with_reducible repeat (first | apply Kd.R_alloc | apply Kd.R_drewN | apply Kd.R_drew)); exact HO302.out) hb); have n1_ := Aside0.mk (Kd.R_below (by (with_reducible repeat (first | apply Kd.R_alloc | apply Kd.R_drewN | apply Kd.R_drew)); exact HO306.out) hb); have n2_ := Aside0.mk (Kd.R_below (by (with_reducible repeat (first | apply Kd.R_alloc | apply Kd.R_drewN | apply Kd.R_drew)); exact HO312.out) hb); have n3_ := Aside0.mk (Kd.R_below (by (with_reducible repeat (first | apply Kd.R_alloc | apply Kd.R_drewN | apply Kd.R_drew)); exact HO318.out) hb); have n4_ := Aside0.mk (blk_below (g := gb295) (o := .cells #[.slice A0_0 l0_0.length c0_0, .bool a0_1] 24 (0, 0)) bk_a hb); have n5_ := Aside0.mk (blk_below (g := gb296) (o := .cells #[.slice A1_0 l1_0.length c1_0, .bool a1_1] 24 (0, 0)) bk_a hb); have n6_ := Aside0.mk (blk_below (g := gb308) (o := .cells #[.slice Ao217 t300.length co217, .bool t303] 24 (0, 0)) bk_a hb); have n7_ := Aside0.mk (blk_below (g := gb309) (o := .cells #[.slice Ao220 t304.length co220, .bool t307] 24 (0, 0)) bk_a hb); have n8_ := Aside0.mk (blk_below (g := gb315) (o := .cells #[.slice Ao232 t310.length co232, .bool t313] 24 (0, 0)) bk_a hb); have n9_ := Aside0.mk (blk_below (g := gb321) (o := .cells #[.slice Ao63 t316.length co63, .bool t319] 24 (0, 0)) bk_a hb); have n10_ := Aside0.mk (below_step hb_a hb); clear HO302; clear HO306; clear HO312; clear HO318; clear BK295; clear BK296; clear BK308; clear BK309; clear BK315; clear BK321; clear HB; have HO302 := n0_; have HO306 := n1_; have HO312 := n2_; have HO318 := n3_; have BK295 := n4_; have BK296 := n5_; have BK308 := n6_; have BK309 := n7_; have BK315 := n8_; have BK321 := n9_; have HB := n10_; clear n0_ n1_ n2_ n3_ n4_ n5_ n6_ n7_ n8_ n9_ n10_; (try clear hb); (try clear hb2); (try clear hk); (try clear hi)))
                go_ret
                exact ⟨by first | rfl | (simp [errW_none, errW_some] <;> rfl) | (simp [*, errW_none, errW_some] <;> rfl), hb_a⟩
              · replace c30 := Bool.eq_false_iff.mpr c30
                subst c30
                have H1 : (some false) = some r := by rw [if_neg (show ¬ (false = true) by decide)] at H; exact H
                clear H
                have H := H1
                clear H1
                obtain rfl := Option.some.inj H
                try go_wp2_with (first | ((with_reducible refine gate_callee (f := 15) rfl ?_); refine goesL_ (some 33) rfl rfl Tryd.func15 (by kernel_rfl) rfl #[.agg #[.slice A0_0 l0_0.length c0_0, .bool a0_1], .agg #[.slice A1_0 l1_0.length c1_0, .bool a1_1]] rfl (by (try simp only [List.map_toArray, List.map_cons, List.map_nil]); first | done | rfl | (simp only [List.length_drop, List.length_take]; rfl)) ?_; (with_reducible refine (stockyardref03_Meet.calls kj2 _ _ l0_0 a0_1 _ _ l1_0 a1_1 t316 t319 t320 _ ?side1 ?side2 ?side3 ?side4 A23.out).mono ?_); (case side1 => exact Kd.C_below HR0_0.out hb_a); (case side2 => exact HC0_0.out); (case side3 => exact Kd.C_below HR1_0.out hb_a); (case side4 => exact HC1_0.out); rintro e w109 ⟨v317, rfl, ho0, hb⟩; refine ⟨_, rfl, ?_⟩; have n0_ := Aside0.mk (Kd.R_elder' (by (with_reducible repeat (first | apply Kd.R_alloc | apply Kd.R_drewN | apply Kd.R_drew)); exact (Kd.R_mono (Kd.R_far (p := ⟨gb315, 1, none⟩) (Kd.R_far (p := ⟨gb315, 0, none⟩) (Kd.R_types HO302.out BK315.out (by decide)) (fun _ hk => hk.2) (.slice Ao232 t310.length co232)) (fun _ hk => hk.2) (.bool t313)) (fun _ h_ => h_.1))) (Kd.R_base ho0) hb); have n1_ := Aside0.mk (Kd.R_elder' (by (with_reducible repeat (first | apply Kd.R_alloc | apply Kd.R_drewN | apply Kd.R_drew)); exact (Kd.R_mono (Kd.R_far (p := ⟨gb315, 1, none⟩) (Kd.R_far (p := ⟨gb315, 0, none⟩) (Kd.R_types HO306.out BK315.out (by decide)) (fun _ hk => hk.2) (.slice Ao232 t310.length co232)) (fun _ hk => hk.2) (.bool t313)) (fun _ h_ => h_.1))) (Kd.R_base ho0) hb); have n2_ := Aside0.mk (Kd.R_elder' (by (with_reducible repeat (first | apply Kd.R_alloc | apply Kd.R_drewN | apply Kd.R_drew)); exact (Kd.R_mono (Kd.R_far (p := ⟨gb315, 1, none⟩) (Kd.R_far (p := ⟨gb315, 0, none⟩) (Kd.R_types HO312.out BK315.out (by decide)) (fun _ hk => hk.2) (.slice Ao232 t310.length co232)) (fun _ hk => hk.2) (.bool t313)) (fun _ h_ => h_.1))) (Kd.R_base ho0) hb); have n3_ := Aside0.mk (Kd.R_lower (Kd.R_new' (Kd.R_new' (Kd.R_new' ho0 (Kd.R_lt (by (with_reducible repeat (first | apply Kd.R_alloc | apply Kd.R_drewN | apply Kd.R_drew)); exact (Kd.R_mono (Kd.R_far (p := ⟨gb315, 1, none⟩) (Kd.R_far (p := ⟨gb315, 0, none⟩) (Kd.R_types HO302.out BK315.out (by decide)) (fun _ hk => hk.2) (.slice Ao232 t310.length co232)) (fun _ hk => hk.2) (.bool t313)) (fun _ h_ => h_.1))))) (Kd.R_lt (by (with_reducible repeat (first | apply Kd.R_alloc | apply Kd.R_drewN | apply Kd.R_drew)); exact (Kd.R_mono (Kd.R_far (p := ⟨gb315, 1, none⟩) (Kd.R_far (p := ⟨gb315, 0, none⟩) (Kd.R_types HO306.out BK315.out (by decide)) (fun _ hk => hk.2) (.slice Ao232 t310.length co232)) (fun _ hk => hk.2) (.bool t313)) (fun _ h_ => h_.1))))) (Kd.R_lt (by (with_reducible repeat (first | apply Kd.R_alloc | apply Kd.R_drewN | apply Kd.R_drew)); exact (Kd.R_mono (Kd.R_far (p := ⟨gb315, 1, none⟩) (Kd.R_far (p := ⟨gb315, 0, none⟩) (Kd.R_types HO312.out BK315.out (by decide)) (fun _ hk => hk.2) (.slice Ao232 t310.length co232)) (fun _ hk => hk.2) (.bool t313)) (fun _ h_ => h_.1))))) (below_size hb_a)); have n4_ := Aside0.mk (blk_below (g := gb295) (o := .cells #[.slice A0_0 l0_0.length c0_0, .bool a0_1] 24 (0, 0)) (by (with_reducible repeat (first | refine blk_drewN ?_ _ | refine blk_drew ?_ | refine blk_alloc ?_ _)); refine blk_far ?_ NB295_315.out _; (with_reducible repeat (first | refine blk_drewN ?_ _ | refine blk_drew ?_ | refine blk_alloc ?_ _)); refine blk_far ?_ NB295_315.out _; (with_reducible repeat (first | refine blk_drewN ?_ _ | refine blk_drew ?_ | refine blk_alloc ?_ _)); exact BK295.out) hb); have n5_ := Aside0.mk (blk_below (g := gb296) (o := .cells #[.slice A1_0 l1_0.length c1_0, .bool a1_1] 24 (0, 0)) (by (with_reducible repeat (first | refine blk_drewN ?_ _ | refine blk_drew ?_ | refine blk_alloc ?_ _)); refine blk_far ?_ NB296_315.out _; (with_reducible repeat (first | refine blk_drewN ?_ _ | refine blk_drew ?_ | refine blk_alloc ?_ _)); refine blk_far ?_ NB296_315.out _; (with_reducible repeat (first | refine blk_drewN ?_ _ | refine blk_drew ?_ | refine blk_alloc ?_ _)); exact BK296.out) hb); have n6_ := Aside0.mk (blk_below (g := gb308) (o := .cells #[.slice Ao217 t300.length co217, .bool t303] 24 (0, 0)) (by (with_reducible repeat (first | refine blk_drewN ?_ _ | refine blk_drew ?_ | refine blk_alloc ?_ _)); refine blk_far ?_ NB308_315.out _; (with_reducible repeat (first | refine blk_drewN ?_ _ | refine blk_drew ?_ | refine blk_alloc ?_ _)); refine blk_far ?_ NB308_315.out _; (with_reducible repeat (first | refine blk_drewN ?_ _ | refine blk_drew ?_ | refine blk_alloc ?_ _)); exact BK308.out) hb); have n7_ := Aside0.mk (blk_below (g := gb309) (o := .cells #[.slice Ao220 t304.length co220, .bool t307] 24 (0, 0)) (by (with_reducible repeat (first | refine blk_drewN ?_ _ | refine blk_drew ?_ | refine blk_alloc ?_ _)); refine blk_far ?_ NB309_315.out _; (with_reducible repeat (first | refine blk_drewN ?_ _ | refine blk_drew ?_ | refine blk_alloc ?_ _)); refine blk_far ?_ NB309_315.out _; (with_reducible repeat (first | refine blk_drewN ?_ _ | refine blk_drew ?_ | refine blk_alloc ?_ _)); exact BK309.out) hb); have n8_ := Aside0.mk (blk_below (g := gb315) (o := .cells #[.slice Ao232 t310.length co232, .bool t313] 24 (0, 0)) (by (with_reducible repeat (first | refine blk_drewN ?_ _ | refine blk_drew ?_ | refine blk_alloc ?_ _)); refine blk_put (cs := #[.slice Ao232 t310.length co232, .bool false]) ?_ 1 _ rfl; (with_reducible repeat (first | refine blk_drewN ?_ _ | refine blk_drew ?_ | refine blk_alloc ?_ _)); refine blk_put (cs := #[.slice none 0 0, .bool false]) ?_ 0 _ rfl; (with_reducible repeat (first | refine blk_drewN ?_ _ | refine blk_drew ?_ | refine blk_alloc ?_ _)); exact BK315.out) hb); have n9_ := Aside0.mk (below_step hb_a hb); clear HO302; clear HO306; clear HO312; clear BK295; clear BK296; clear BK308; clear BK309; clear BK315; clear HB; have HO302 := n0_; have HO306 := n1_; have HO312 := n2_; have HO318 := n3_; have BK295 := n4_; have BK296 := n5_; have BK308 := n6_; have BK309 := n7_; have BK315 := n8_; have HB := n9_; clear n0_ n1_ n2_ n3_ n4_ n5_ n6_ n7_ n8_ n9_; (try clear hb); (try clear hb2); (try clear hk); (try clear hi); (try clear ho0)) | ((with_reducible refine gate_dst (N := 9) rfl ?_); refine box_event ?hg (N := 9) ?hd (cs := #[.slice none 0 0, .bool false]) (t := 24) ?hr ?_; (case hd => rfl); (case hg => rfl); (case hr => first | (go_simp; done) | (go_simp; rfl)); intro gb321 hg w110 hbox hb; have n0_ := Aside0.mk (Kd.R_below (by (with_reducible repeat (first | apply Kd.R_alloc | apply Kd.R_drewN | apply Kd.R_drew)); exact HO302.out) hb); have n1_ := Aside0.mk (Kd.R_below (by (with_reducible repeat (first | apply Kd.R_alloc | apply Kd.R_drewN | apply Kd.R_drew)); exact HO306.out) hb); have n2_ := Aside0.mk (Kd.R_below (by (with_reducible repeat (first | apply Kd.R_alloc | apply Kd.R_drewN | apply Kd.R_drew)); exact HO312.out) hb); have n3_ := Aside0.mk (Kd.R_below (by (with_reducible repeat (first | apply Kd.R_alloc | apply Kd.R_drewN | apply Kd.R_drew)); exact HO318.out) hb); have n4_ := Aside0.mk (blk_below (g := gb295) (o := .cells #[.slice A0_0 l0_0.length c0_0, .bool a0_1] 24 (0, 0)) bk_a hb); have n5_ := Aside0.mk (blk_below (g := gb296) (o := .cells #[.slice A1_0 l1_0.length c1_0, .bool a1_1] 24 (0, 0)) bk_a hb); have n6_ := Aside0.mk (blk_below (g := gb308) (o := .cells #[.slice Ao217 t300.length co217, .bool t303] 24 (0, 0)) bk_a hb); have n7_ := Aside0.mk (blk_below (g := gb309) (o := .cells #[.slice Ao220 t304.length co220, .bool t307] 24 (0, 0)) bk_a hb); have n8_ := Aside0.mk (blk_below (g := gb315) (o := .cells #[.slice Ao232 t310.length co232, .bool t313] 24 (0, 0)) bk_a hb); have n9_ := Aside0.mk (below_step hb_a hb); have n10_ := Aside0.mk (hbox); have n11_ := Aside0.mk ((by rw [hg]; exact (below_size hb_a) : w.heap.size ≤ gb321)); have n12_ := Aside0.mk ((by rw [hg]; exact (below_size hb_a) : w.heap.size ≤ gb321)); have n13_ := Aside0.mk ((by rw [hg]; exact Nat.ne_of_lt (blk_lt (g := gb295) (o := .cells #[.slice A0_0 l0_0.length c0_0, .bool a0_1] 24 (0, 0)) bk_a) : gb295 ≠ gb321)); have n14_ := Aside0.mk ((by rw [hg]; exact Nat.ne_of_gt (blk_lt (g := gb295) (o := .cells #[.slice A0_0 l0_0.length c0_0, .bool a0_1] 24 (0, 0)) bk_a) : gb321 ≠ gb295)); have n15_ := Aside0.mk ((by rw [hg]; exact Nat.ne_of_lt (blk_lt (g := gb296) (o := .cells #[.slice A1_0 l1_0.length c1_0, .bool a1_1] 24 (0, 0)) bk_a) : gb296 ≠ gb321)); have n16_ := Aside0.mk ((by rw [hg]; exact Nat.ne_of_gt (blk_lt (g := gb296) (o := .cells #[.slice A1_0 l1_0.length c1_0, .bool a1_1] 24 (0, 0)) bk_a) : gb321 ≠ gb296)); have n17_ := Aside0.mk ((by rw [hg]; exact Nat.ne_of_lt (blk_lt (g := gb308) (o := .cells #[.slice Ao217 t300.length co217, .bool t303] 24 (0, 0)) bk_a) : gb308 ≠ gb321)); have n18_ := Aside0.mk ((by rw [hg]; exact Nat.ne_of_gt (blk_lt (g := gb308) (o := .cells #[.slice Ao217 t300.length co217, .bool t303] 24 (0, 0)) bk_a) : gb321 ≠ gb308)); have n19_ := Aside0.mk ((by rw [hg]; exact Nat.ne_of_lt (blk_lt (g := gb309) (o := .cells #[.slice Ao220 t304.length co220, .bool t307] 24 (0, 0)) bk_a) : gb309 ≠ gb321)); have n20_ := Aside0.mk ((by rw [hg]; exact Nat.ne_of_gt (blk_lt (g := gb309) (o := .cells #[.slice Ao220 t304.length co220, .bool t307] 24 (0, 0)) bk_a) : gb321 ≠ gb309)); have n21_ := Aside0.mk ((by rw [hg]; exact Nat.ne_of_lt (blk_lt (g := gb315) (o := .cells #[.slice Ao232 t310.length co232, .bool t313] 24 (0, 0)) bk_a) : gb315 ≠ gb321)); have n22_ := Aside0.mk ((by rw [hg]; exact Nat.ne_of_gt (blk_lt (g := gb315) (o := .cells #[.slice Ao232 t310.length co232, .bool t313] 24 (0, 0)) bk_a) : gb321 ≠ gb315)); clear HO302; clear HO306; clear HO312; clear HO318; clear BK295; clear BK296; clear BK308; clear BK309; clear BK315; clear HB; have HO302 := n0_; have HO306 := n1_; have HO312 := n2_; have HO318 := n3_; have BK295 := n4_; have BK296 := n5_; have BK308 := n6_; have BK309 := n7_; have BK315 := n8_; have HB := n9_; have BK321 := n10_; have GW321 := n11_; have GE321 := n12_; have NB295_321 := n13_; have NB321_295 := n14_; have NB296_321 := n15_; have NB321_296 := n16_; have NB308_321 := n17_; have NB321_308 := n18_; have NB309_321 := n19_; have NB321_309 := n20_; have NB315_321 := n21_; have NB321_315 := n22_; clear n0_ n1_ n2_ n3_ n4_ n5_ n6_ n7_ n8_ n9_ n10_ n11_ n12_ n13_ n14_ n15_ n16_ n17_ n18_ n19_ n20_ n21_ n22_; clear hb hbox hg; obtain ⟨Ao111, co111, eo111⟩ := Kd.R_slice HO318.out; subst eo111; have hnb112 := NB321_295.out; have hnc112 := NB295_321.out; have hnb113 := NB321_296.out; have hnc113 := NB296_321.out; have hnb114 := NB321_308.out; have hnc114 := NB308_321.out; have hnb115 := NB321_309.out; have hnc115 := NB309_321.out; have hnb116 := NB321_315.out; have hnc116 := NB315_321.out; have hcz117_0 : w110.cell? ⟨gb321, 0, none⟩ = some (.slice none 0 0) := (blk_cell BK321.out 0).trans rfl; have hcz117_1 : w110.cell? ⟨gb321, 1, none⟩ = some (.bool false) := (blk_cell BK321.out 1).trans rfl; have hfz117_0 := blk_frozen BK321.out 0; have hfz117_1 := blk_frozen BK321.out 1; have hcz118_0 : w110.cell? ⟨gb315, 0, none⟩ = some (.slice Ao232 t310.length co232) := (blk_cell BK315.out 0).trans rfl; have hcz118_1 : w110.cell? ⟨gb315, 1, none⟩ = some (.bool t313) := (blk_cell BK315.out 1).trans rfl; have hfz118_0 := blk_frozen BK315.out 0; have hfz118_1 := blk_frozen BK315.out 1) | (go_at_call 16; (with_reducible refine (stockyardref03_Same.calls kj2 _ _ t310 t313 _ _ t316 t319 true _ ?side1 ?side2 ?side3 ?side4 A25.out).mono ?_); (case side1 => refine (Kd.R_reads' (e := 9) (base := w.heap.size) (ok := fun k_ => (((True ∧ some k_ ≠ (.slice Ao217 t300.length co217 : Value).ownBlock) ∧ some k_ ≠ (.slice Ao220 t304.length co220 : Value).ownBlock) ∧ some k_ ≠ (.slice Ao111 t316.length co111 : Value).ownBlock)) (n := t310.length) (c := co232) ?_).2.2; exact (by (with_reducible repeat (first | apply Kd.R_alloc | apply Kd.R_drewN | apply Kd.R_drew)); exact (Kd.R_mono (Kd.R_far (p := ⟨gb321, 1, none⟩) (Kd.R_far (p := ⟨gb321, 0, none⟩) (Kd.R_types HO312.out BK321.out (by decide)) (fun _ hk => hk.2) (.slice Ao111 t316.length co111)) (fun _ hk => hk.2) (.bool t319)) (fun _ h_ => h_.1)))); (case side2 => exact (Kd.R_reads' HO312.out).2.1); (case side3 => refine (Kd.R_reads' (e := 9) (base := w.heap.size) (ok := fun k_ => (((True ∧ some k_ ≠ (.slice Ao217 t300.length co217 : Value).ownBlock) ∧ some k_ ≠ (.slice Ao220 t304.length co220 : Value).ownBlock) ∧ some k_ ≠ (.slice Ao232 t310.length co232 : Value).ownBlock)) (n := t316.length) (c := co111) ?_).2.2; exact (by (with_reducible repeat (first | apply Kd.R_alloc | apply Kd.R_drewN | apply Kd.R_drew)); exact (Kd.R_mono (Kd.R_far (p := ⟨gb321, 1, none⟩) (Kd.R_far (p := ⟨gb321, 0, none⟩) (Kd.R_types HO318.out BK321.out (by decide)) (fun _ hk => hk.2) (.slice Ao111 t316.length co111)) (fun _ hk => hk.2) (.bool t319)) (fun _ h_ => h_.1)))); (case side4 => exact (Kd.R_reads' HO318.out).2.1); rintro e w119 ⟨rfl, hb⟩; have n0_ := Aside0.mk (Kd.R_below (by (with_reducible repeat (first | apply Kd.R_alloc | apply Kd.R_drewN | apply Kd.R_drew)); exact (Kd.R_mono (Kd.R_far (p := ⟨gb321, 1, none⟩) (Kd.R_far (p := ⟨gb321, 0, none⟩) (Kd.R_types HO302.out BK321.out (by decide)) (fun _ hk => hk.2) (.slice Ao111 t316.length co111)) (fun _ hk => hk.2) (.bool t319)) (fun _ h_ => h_.1))) hb); have n1_ := Aside0.mk (Kd.R_below (by (with_reducible repeat (first | apply Kd.R_alloc | apply Kd.R_drewN | apply Kd.R_drew)); exact (Kd.R_mono (Kd.R_far (p := ⟨gb321, 1, none⟩) (Kd.R_far (p := ⟨gb321, 0, none⟩) (Kd.R_types HO306.out BK321.out (by decide)) (fun _ hk => hk.2) (.slice Ao111 t316.length co111)) (fun _ hk => hk.2) (.bool t319)) (fun _ h_ => h_.1))) hb); have n2_ := Aside0.mk (Kd.R_below (by (with_reducible repeat (first | apply Kd.R_alloc | apply Kd.R_drewN | apply Kd.R_drew)); exact (Kd.R_mono (Kd.R_far (p := ⟨gb321, 1, none⟩) (Kd.R_far (p := ⟨gb321, 0, none⟩) (Kd.R_types HO312.out BK321.out (by decide)) (fun _ hk => hk.2) (.slice Ao111 t316.length co111)) (fun _ hk => hk.2) (.bool t319)) (fun _ h_ => h_.1))) hb); have n3_ := Aside0.mk (Kd.R_below (by (with_reducible repeat (first | apply Kd.R_alloc | apply Kd.R_drewN | apply Kd.R_drew)); exact (Kd.R_mono (Kd.R_far (p := ⟨gb321, 1, none⟩) (Kd.R_far (p := ⟨gb321, 0, none⟩) (Kd.R_types HO318.out BK321.out (by decide)) (fun _ hk => hk.2) (.slice Ao111 t316.length co111)) (fun _ hk => hk.2) (.bool t319)) (fun _ h_ => h_.1))) hb); have n4_ := Aside0.mk (blk_below (g := gb295) (o := .cells #[.slice A0_0 l0_0.length c0_0, .bool a0_1] 24 (0, 0)) (by (with_reducible repeat (first | refine blk_drewN ?_ _ | refine blk_drew ?_ | refine blk_alloc ?_ _)); refine blk_far ?_ NB295_321.out _; (with_reducible repeat (first | refine blk_drewN ?_ _ | refine blk_drew ?_ | refine blk_alloc ?_ _)); refine blk_far ?_ NB295_321.out _; (with_reducible repeat (first | refine blk_drewN ?_ _ | refine blk_drew ?_ | refine blk_alloc ?_ _)); exact BK295.out) hb); have n5_ := Aside0.mk (blk_below (g := gb296) (o := .cells #[.slice A1_0 l1_0.length c1_0, .bool a1_1] 24 (0, 0)) (by (with_reducible repeat (first | refine blk_drewN ?_ _ | refine blk_drew ?_ | refine blk_alloc ?_ _)); refine blk_far ?_ NB296_321.out _; (with_reducible repeat (first | refine blk_drewN ?_ _ | refine blk_drew ?_ | refine blk_alloc ?_ _)); refine blk_far ?_ NB296_321.out _; (with_reducible repeat (first | refine blk_drewN ?_ _ | refine blk_drew ?_ | refine blk_alloc ?_ _)); exact BK296.out) hb); have n6_ := Aside0.mk (blk_below (g := gb308) (o := .cells #[.slice Ao217 t300.length co217, .bool t303] 24 (0, 0)) (by (with_reducible repeat (first | refine blk_drewN ?_ _ | refine blk_drew ?_ | refine blk_alloc ?_ _)); refine blk_far ?_ NB308_321.out _; (with_reducible repeat (first | refine blk_drewN ?_ _ | refine blk_drew ?_ | refine blk_alloc ?_ _)); refine blk_far ?_ NB308_321.out _; (with_reducible repeat (first | refine blk_drewN ?_ _ | refine blk_drew ?_ | refine blk_alloc ?_ _)); exact BK308.out) hb); have n7_ := Aside0.mk (blk_below (g := gb309) (o := .cells #[.slice Ao220 t304.length co220, .bool t307] 24 (0, 0)) (by (with_reducible repeat (first | refine blk_drewN ?_ _ | refine blk_drew ?_ | refine blk_alloc ?_ _)); refine blk_far ?_ NB309_321.out _; (with_reducible repeat (first | refine blk_drewN ?_ _ | refine blk_drew ?_ | refine blk_alloc ?_ _)); refine blk_far ?_ NB309_321.out _; (with_reducible repeat (first | refine blk_drewN ?_ _ | refine blk_drew ?_ | refine blk_alloc ?_ _)); exact BK309.out) hb); have n8_ := Aside0.mk (blk_below (g := gb315) (o := .cells #[.slice Ao232 t310.length co232, .bool t313] 24 (0, 0)) (by (with_reducible repeat (first | refine blk_drewN ?_ _ | refine blk_drew ?_ | refine blk_alloc ?_ _)); refine blk_far ?_ NB315_321.out _; (with_reducible repeat (first | refine blk_drewN ?_ _ | refine blk_drew ?_ | refine blk_alloc ?_ _)); refine blk_far ?_ NB315_321.out _; (with_reducible repeat (first | refine blk_drewN ?_ _ | refine blk_drew ?_ | refine blk_alloc ?_ _)); exact BK315.out) hb); have n9_ := Aside0.mk (blk_below (g := gb321) (o := .cells #[.slice Ao111 t316.length co111, .bool t319] 24 (0, 0)) (by (with_reducible repeat (first | refine blk_drewN ?_ _ | refine blk_drew ?_ | refine blk_alloc ?_ _)); refine blk_put (cs := #[.slice Ao111 t316.length co111, .bool false]) ?_ 1 _ rfl; (with_reducible repeat (first | refine blk_drewN ?_ _ | refine blk_drew ?_ | refine blk_alloc ?_ _)); refine blk_put (cs := #[.slice none 0 0, .bool false]) ?_ 0 _ rfl; (with_reducible repeat (first | refine blk_drewN ?_ _ | refine blk_drew ?_ | refine blk_alloc ?_ _)); exact BK321.out) hb); have n10_ := Aside0.mk (below_step hb_a hb); clear HO302; clear HO306; clear HO312; clear HO318; clear BK295; clear BK296; clear BK308; clear BK309; clear BK315; clear BK321; clear HB; have HO302 := n0_; have HO306 := n1_; have HO312 := n2_; have HO318 := n3_; have BK295 := n4_; have BK296 := n5_; have BK308 := n6_; have BK309 := n7_; have BK315 := n8_; have BK321 := n9_; have HB := n10_; clear n0_ n1_ n2_ n3_ n4_ n5_ n6_ n7_ n8_ n9_ n10_; (try clear hb); (try clear hb2); (try clear hk); (try clear hi); have hcz120_0 : w119.cell? ⟨gb295, 0, none⟩ = some (.slice A0_0 l0_0.length c0_0) := (blk_cell BK295.out 0).trans rfl; have hcz120_1 : w119.cell? ⟨gb295, 1, none⟩ = some (.bool a0_1) := (blk_cell BK295.out 1).trans rfl; have hfz120_0 := blk_frozen BK295.out 0; have hfz120_1 := blk_frozen BK295.out 1; have hnb121 := NB308_309.out; have hnc121 := NB309_308.out; have hcz122_0 : w119.cell? ⟨gb308, 0, none⟩ = some (.slice Ao217 t300.length co217) := (blk_cell BK308.out 0).trans rfl; have hcz122_1 : w119.cell? ⟨gb308, 1, none⟩ = some (.bool t303) := (blk_cell BK308.out 1).trans rfl; have hfz122_0 := blk_frozen BK308.out 0; have hfz122_1 := blk_frozen BK308.out 1) | (go_at_call 16; (with_reducible refine (stockyardref03_Same.calls kj2 _ _ l0_0 a0_1 _ _ t300 t303 true _ ?side1 ?side2 ?side3 ?side4 A27.out).mono ?_); (case side1 => repeat (first | exact (Kd.C_below HR0_0.out HB.out) | (with_reducible refine Kd.C_alloc ?_ _) | (with_reducible refine Kd.C_drewN ?_ _) | (with_reducible refine Kd.C_drew ?_))); (case side2 => exact HC0_0.out); (case side3 => repeat (first | exact (Kd.R_reads' HO302.out).2.2 | (with_reducible refine Kd.C_alloc ?_ _) | (with_reducible refine Kd.C_drewN ?_ _) | (with_reducible refine Kd.C_drew ?_))); (case side4 => exact (Kd.R_reads' HO302.out).2.1); rintro e w123 ⟨rfl, hb⟩; have n0_ := Aside0.mk (Kd.R_below (by (with_reducible repeat (first | apply Kd.R_alloc | apply Kd.R_drewN | apply Kd.R_drew)); exact HO302.out) hb); have n1_ := Aside0.mk (Kd.R_below (by (with_reducible repeat (first | apply Kd.R_alloc | apply Kd.R_drewN | apply Kd.R_drew)); exact HO306.out) hb); have n2_ := Aside0.mk (Kd.R_below (by (with_reducible repeat (first | apply Kd.R_alloc | apply Kd.R_drewN | apply Kd.R_drew)); exact HO312.out) hb); have n3_ := Aside0.mk (Kd.R_below (by (with_reducible repeat (first | apply Kd.R_alloc | apply Kd.R_drewN | apply Kd.R_drew)); exact HO318.out) hb); have n4_ := Aside0.mk (blk_below (g := gb295) (o := .cells #[.slice A0_0 l0_0.length c0_0, .bool a0_1] 24 (0, 0)) bk_a hb); have n5_ := Aside0.mk (blk_below (g := gb296) (o := .cells #[.slice A1_0 l1_0.length c1_0, .bool a1_1] 24 (0, 0)) bk_a hb); have n6_ := Aside0.mk (blk_below (g := gb308) (o := .cells #[.slice Ao217 t300.length co217, .bool t303] 24 (0, 0)) bk_a hb); have n7_ := Aside0.mk (blk_below (g := gb309) (o := .cells #[.slice Ao220 t304.length co220, .bool t307] 24 (0, 0)) bk_a hb); have n8_ := Aside0.mk (blk_below (g := gb315) (o := .cells #[.slice Ao232 t310.length co232, .bool t313] 24 (0, 0)) bk_a hb); have n9_ := Aside0.mk (blk_below (g := gb321) (o := .cells #[.slice Ao111 t316.length co111, .bool t319] 24 (0, 0)) bk_a hb); have n10_ := Aside0.mk (below_step hb_a hb); clear HO302; clear HO306; clear HO312; clear HO318; clear BK295; clear BK296; clear BK308; clear BK309; clear BK315; clear BK321; clear HB; have HO302 := n0_; have HO306 := n1_; have HO312 := n2_; have HO318 := n3_; have BK295 := n4_; have BK296 := n5_; have BK308 := n6_; have BK309 := n7_; have BK315 := n8_; have BK321 := n9_; have HB := n10_; clear n0_ n1_ n2_ n3_ n4_ n5_ n6_ n7_ n8_ n9_ n10_; (try clear hb); (try clear hb2); (try clear hk); (try clear hi); have hcz124_0 : w123.cell? ⟨gb296, 0, none⟩ = some (.slice A1_0 l1_0.length c1_0) := (blk_cell BK296.out 0).trans rfl; have hcz124_1 : w123.cell? ⟨gb296, 1, none⟩ = some (.bool a1_1) := (blk_cell BK296.out 1).trans rfl; have hfz124_0 := blk_frozen BK296.out 0; have hfz124_1 := blk_frozen BK296.out 1; have hcz125_0 : w123.cell? ⟨gb309, 0, none⟩ = some (.slice Ao220 t304.length co220) := (blk_cell BK309.out 0).trans rfl; have hcz125_1 : w123.cell? ⟨gb309, 1, none⟩ = some (.bool t307) := (blk_cell BK309.out 1).trans rfl; have hfz125_0 := blk_frozen BK309.out 0; have hfz125_1 := blk_frozen BK309.out 1) | (go_at_call 16; (with_reducible refine (stockyardref03_Same.calls kj2 _ _ l1_0 a1_1 _ _ t304 t307 false _ ?side1 ?side2 ?side3 ?side4 A29.out).mono ?_); (case side1 => repeat (first | exact (Kd.C_below HR1_0.out HB.out) | (with_reducible refine Kd.C_alloc ?_ _) | (with_reducible refine Kd.C_drewN ?_ _) | (with_reducible refine Kd.C_drew ?_))); (case side2 => exact HC1_0.out); (case side3 => repeat (first | exact (Kd.R_reads' HO306.out).2.2 | (with_reducible refine Kd.C_alloc ?_ _) | (with_reducible refine Kd.C_drewN ?_ _) | (with_reducible refine Kd.C_drew ?_))); (case side4 => exact (Kd.R_reads' HO306.out).2.1); rintro e w126 ⟨rfl, hb⟩; have n0_ := Aside0.mk (Kd.R_below (by (with_reducible repeat (first | apply Kd.R_alloc | apply Kd.R_drewN | apply Kd.R_drew)); exact HO302.out) hb); have n1_ := Aside0.mk (Kd.R_below (by (with_reducible repeat (first | apply Kd.R_alloc | apply Kd.R_drewN | apply Kd.R_drew)); exact HO306.out) hb); have n2_ := Aside0.mk (Kd.R_below (by (with_reducible repeat (first | apply Kd.R_alloc | apply Kd.R_drewN | apply Kd.R_drew)); exact HO312.out) hb); have n3_ := Aside0.mk (Kd.R_below (by (with_reducible repeat (first | apply Kd.R_alloc | apply Kd.R_drewN | apply Kd.R_drew)); exact HO318.out) hb); have n4_ := Aside0.mk (blk_below (g := gb295) (o := .cells #[.slice A0_0 l0_0.length c0_0, .bool a0_1] 24 (0, 0)) bk_a hb); have n5_ := Aside0.mk (blk_below (g := gb296) (o := .cells #[.slice A1_0 l1_0.length c1_0, .bool a1_1] 24 (0, 0)) bk_a hb); have n6_ := Aside0.mk (blk_below (g := gb308) (o := .cells #[.slice Ao217 t300.length co217, .bool t303] 24 (0, 0)) bk_a hb); have n7_ := Aside0.mk (blk_below (g := gb309) (o := .cells #[.slice Ao220 t304.length co220, .bool t307] 24 (0, 0)) bk_a hb); have n8_ := Aside0.mk (blk_below (g := gb315) (o := .cells #[.slice Ao232 t310.length co232, .bool t313] 24 (0, 0)) bk_a hb); have n9_ := Aside0.mk (blk_below (g := gb321) (o := .cells #[.slice Ao111 t316.length co111, .bool t319] 24 (0, 0)) bk_a hb); have n10_ := Aside0.mk (below_step hb_a hb); clear HO302; clear HO306; clear HO312; clear HO318; clear BK295; clear BK296; clear BK308; clear BK309; clear BK315; clear BK321; clear HB; have HO302 := n0_; have HO306 := n1_; have HO312 := n2_; have HO318 := n3_; have BK295 := n4_; have BK296 := n5_; have BK308 := n6_; have BK309 := n7_; have BK315 := n8_; have BK321 := n9_; have HB := n10_; clear n0_ n1_ n2_ n3_ n4_ n5_ n6_ n7_ n8_ n9_ n10_; (try clear hb); (try clear hb2); (try clear hk); (try clear hi)))
                go_ret
                exact ⟨by first | rfl | (simp [errW_none, errW_some] <;> rfl) | (simp [*, errW_none, errW_some] <;> rfl), hb_a⟩
            · replace c28 := Bool.eq_false_iff.mpr c28
              subst c28
              have H1 : (some false) = some r := by rw [if_neg (show ¬ (false = true) by decide)] at H; exact H
              clear H
              have H := H1
              clear H1
              obtain rfl := Option.some.inj H
              try go_wp2_with (first | ((with_reducible refine gate_callee (f := 15) rfl ?_); refine goesL_ (some 33) rfl rfl Tryd.func15 (by kernel_rfl) rfl #[.agg #[.slice A0_0 l0_0.length c0_0, .bool a0_1], .agg #[.slice A1_0 l1_0.length c1_0, .bool a1_1]] rfl (by (try simp only [List.map_toArray, List.map_cons, List.map_nil]); first | done | rfl | (simp only [List.length_drop, List.length_take]; rfl)) ?_; (with_reducible refine (stockyardref03_Meet.calls kj2 _ _ l0_0 a0_1 _ _ l1_0 a1_1 t316 t319 t320 _ ?side1 ?side2 ?side3 ?side4 A23.out).mono ?_); (case side1 => exact Kd.C_below HR0_0.out hb_a); (case side2 => exact HC0_0.out); (case side3 => exact Kd.C_below HR1_0.out hb_a); (case side4 => exact HC1_0.out); rintro e w156 ⟨v317, rfl, ho0, hb⟩; refine ⟨_, rfl, ?_⟩; have n0_ := Aside0.mk (Kd.R_elder' (by (with_reducible repeat (first | apply Kd.R_alloc | apply Kd.R_drewN | apply Kd.R_drew)); exact (Kd.R_mono (Kd.R_far (p := ⟨gb315, 1, none⟩) (Kd.R_far (p := ⟨gb315, 0, none⟩) (Kd.R_types HO302.out BK315.out (by decide)) (fun _ hk => hk.2) (.slice Ao232 t310.length co232)) (fun _ hk => hk.2) (.bool t313)) (fun _ h_ => h_.1))) (Kd.R_base ho0) hb); have n1_ := Aside0.mk (Kd.R_elder' (by (with_reducible repeat (first | apply Kd.R_alloc | apply Kd.R_drewN | apply Kd.R_drew)); exact (Kd.R_mono (Kd.R_far (p := ⟨gb315, 1, none⟩) (Kd.R_far (p := ⟨gb315, 0, none⟩) (Kd.R_types HO306.out BK315.out (by decide)) (fun _ hk => hk.2) (.slice Ao232 t310.length co232)) (fun _ hk => hk.2) (.bool t313)) (fun _ h_ => h_.1))) (Kd.R_base ho0) hb); have n2_ := Aside0.mk (Kd.R_elder' (by (with_reducible repeat (first | apply Kd.R_alloc | apply Kd.R_drewN | apply Kd.R_drew)); exact (Kd.R_mono (Kd.R_far (p := ⟨gb315, 1, none⟩) (Kd.R_far (p := ⟨gb315, 0, none⟩) (Kd.R_types HO312.out BK315.out (by decide)) (fun _ hk => hk.2) (.slice Ao232 t310.length co232)) (fun _ hk => hk.2) (.bool t313)) (fun _ h_ => h_.1))) (Kd.R_base ho0) hb); have n3_ := Aside0.mk (Kd.R_lower (Kd.R_new' (Kd.R_new' (Kd.R_new' ho0 (Kd.R_lt (by (with_reducible repeat (first | apply Kd.R_alloc | apply Kd.R_drewN | apply Kd.R_drew)); exact (Kd.R_mono (Kd.R_far (p := ⟨gb315, 1, none⟩) (Kd.R_far (p := ⟨gb315, 0, none⟩) (Kd.R_types HO302.out BK315.out (by decide)) (fun _ hk => hk.2) (.slice Ao232 t310.length co232)) (fun _ hk => hk.2) (.bool t313)) (fun _ h_ => h_.1))))) (Kd.R_lt (by (with_reducible repeat (first | apply Kd.R_alloc | apply Kd.R_drewN | apply Kd.R_drew)); exact (Kd.R_mono (Kd.R_far (p := ⟨gb315, 1, none⟩) (Kd.R_far (p := ⟨gb315, 0, none⟩) (Kd.R_types HO306.out BK315.out (by decide)) (fun _ hk => hk.2) (.slice Ao232 t310.length co232)) (fun _ hk => hk.2) (.bool t313)) (fun _ h_ => h_.1))))) (Kd.R_lt (by (with_reducible repeat (first | apply Kd.R_alloc | apply Kd.R_drewN | apply Kd.R_drew)); exact (Kd.R_mono (Kd.R_far (p := ⟨gb315, 1, none⟩) (Kd.R_far (p := ⟨gb315, 0, none⟩) (Kd.R_types HO312.out BK315.out (by decide)) (fun _ hk => hk.2) (.slice Ao232 t310.length co232)) (fun _ hk => hk.2) (.bool t313)) (fun _ h_ => h_.1))))) (below_size hb_a)); have n4_ := Aside0.mk (blk_below (g := gb295) (o := .cells #[.slice A0_0 l0_0.length c0_0, .bool a0_1] 24 (0, 0)) (by (with_reducible repeat (first | refine blk_drewN ?_ _ | refine blk_drew ?_ | refine blk_alloc ?_ _)); refine blk_far ?_ NB295_315.out _; (with_reducible repeat (first | refine blk_drewN ?_ _ | refine blk_drew ?_ | refine blk_alloc ?_ _)); refine blk_far ?_ NB295_315.out _; (with_reducible repeat (first | refine blk_drewN ?_ _ | refine blk_drew ?_ | refine blk_alloc ?_ _)); exact BK295.out) hb); have n5_ := Aside0.mk (blk_below (g := gb296) (o := .cells #[.slice A1_0 l1_0.length c1_0, .bool a1_1] 24 (0, 0)) (by (with_reducible repeat (first | refine blk_drewN ?_ _ | refine blk_drew ?_ | refine blk_alloc ?_ _)); refine blk_far ?_ NB296_315.out _; (with_reducible repeat (first | refine blk_drewN ?_ _ | refine blk_drew ?_ | refine blk_alloc ?_ _)); refine blk_far ?_ NB296_315.out _; (with_reducible repeat (first | refine blk_drewN ?_ _ | refine blk_drew ?_ | refine blk_alloc ?_ _)); exact BK296.out) hb); have n6_ := Aside0.mk (blk_below (g := gb308) (o := .cells #[.slice Ao217 t300.length co217, .bool t303] 24 (0, 0)) (by (with_reducible repeat (first | refine blk_drewN ?_ _ | refine blk_drew ?_ | refine blk_alloc ?_ _)); refine blk_far ?_ NB308_315.out _; (with_reducible repeat (first | refine blk_drewN ?_ _ | refine blk_drew ?_ | refine blk_alloc ?_ _)); refine blk_far ?_ NB308_315.out _; (with_reducible repeat (first | refine blk_drewN ?_ _ | refine blk_drew ?_ | refine blk_alloc ?_ _)); exact BK308.out) hb); have n7_ := Aside0.mk (blk_below (g := gb309) (o := .cells #[.slice Ao220 t304.length co220, .bool t307] 24 (0, 0)) (by (with_reducible repeat (first | refine blk_drewN ?_ _ | refine blk_drew ?_ | refine blk_alloc ?_ _)); refine blk_far ?_ NB309_315.out _; (with_reducible repeat (first | refine blk_drewN ?_ _ | refine blk_drew ?_ | refine blk_alloc ?_ _)); refine blk_far ?_ NB309_315.out _; (with_reducible repeat (first | refine blk_drewN ?_ _ | refine blk_drew ?_ | refine blk_alloc ?_ _)); exact BK309.out) hb); have n8_ := Aside0.mk (blk_below (g := gb315) (o := .cells #[.slice Ao232 t310.length co232, .bool t313] 24 (0, 0)) (by (with_reducible repeat (first | refine blk_drewN ?_ _ | refine blk_drew ?_ | refine blk_alloc ?_ _)); refine blk_put (cs := #[.slice Ao232 t310.length co232, .bool false]) ?_ 1 _ rfl; (with_reducible repeat (first | refine blk_drewN ?_ _ | refine blk_drew ?_ | refine blk_alloc ?_ _)); refine blk_put (cs := #[.slice none 0 0, .bool false]) ?_ 0 _ rfl; (with_reducible repeat (first | refine blk_drewN ?_ _ | refine blk_drew ?_ | refine blk_alloc ?_ _)); exact BK315.out) hb); have n9_ := Aside0.mk (below_step hb_a hb); clear HO302; clear HO306; clear HO312; clear BK295; clear BK296; clear BK308; clear BK309; clear BK315; clear HB; have HO302 := n0_; have HO306 := n1_; have HO312 := n2_; have HO318 := n3_; have BK295 := n4_; have BK296 := n5_; have BK308 := n6_; have BK309 := n7_; have BK315 := n8_; have HB := n9_; clear n0_ n1_ n2_ n3_ n4_ n5_ n6_ n7_ n8_ n9_; (try clear hb); (try clear hb2); (try clear hk); (try clear hi); (try clear ho0)) | ((with_reducible refine gate_dst (N := 9) rfl ?_); refine box_event ?hg (N := 9) ?hd (cs := #[.slice none 0 0, .bool false]) (t := 24) ?hr ?_; (case hd => rfl); (case hg => rfl); (case hr => first | (go_simp; done) | (go_simp; rfl)); intro gb321 hg w157 hbox hb; have n0_ := Aside0.mk (Kd.R_below (by (with_reducible repeat (first | apply Kd.R_alloc | apply Kd.R_drewN | apply Kd.R_drew)); exact HO302.out) hb); have n1_ := Aside0.mk (Kd.R_below (by (with_reducible repeat (first | apply Kd.R_alloc | apply Kd.R_drewN | apply Kd.R_drew)); exact HO306.out) hb); have n2_ := Aside0.mk (Kd.R_below (by (with_reducible repeat (first | apply Kd.R_alloc | apply Kd.R_drewN | apply Kd.R_drew)); exact HO312.out) hb); have n3_ := Aside0.mk (Kd.R_below (by (with_reducible repeat (first | apply Kd.R_alloc | apply Kd.R_drewN | apply Kd.R_drew)); exact HO318.out) hb); have n4_ := Aside0.mk (blk_below (g := gb295) (o := .cells #[.slice A0_0 l0_0.length c0_0, .bool a0_1] 24 (0, 0)) bk_a hb); have n5_ := Aside0.mk (blk_below (g := gb296) (o := .cells #[.slice A1_0 l1_0.length c1_0, .bool a1_1] 24 (0, 0)) bk_a hb); have n6_ := Aside0.mk (blk_below (g := gb308) (o := .cells #[.slice Ao217 t300.length co217, .bool t303] 24 (0, 0)) bk_a hb); have n7_ := Aside0.mk (blk_below (g := gb309) (o := .cells #[.slice Ao220 t304.length co220, .bool t307] 24 (0, 0)) bk_a hb); have n8_ := Aside0.mk (blk_below (g := gb315) (o := .cells #[.slice Ao232 t310.length co232, .bool t313] 24 (0, 0)) bk_a hb); have n9_ := Aside0.mk (below_step hb_a hb); have n10_ := Aside0.mk (hbox); have n11_ := Aside0.mk ((by rw [hg]; exact (below_size hb_a) : w.heap.size ≤ gb321)); have n12_ := Aside0.mk ((by rw [hg]; exact (below_size hb_a) : w.heap.size ≤ gb321)); have n13_ := Aside0.mk ((by rw [hg]; exact Nat.ne_of_lt (blk_lt (g := gb295) (o := .cells #[.slice A0_0 l0_0.length c0_0, .bool a0_1] 24 (0, 0)) bk_a) : gb295 ≠ gb321)); have n14_ := Aside0.mk ((by rw [hg]; exact Nat.ne_of_gt (blk_lt (g := gb295) (o := .cells #[.slice A0_0 l0_0.length c0_0, .bool a0_1] 24 (0, 0)) bk_a) : gb321 ≠ gb295)); have n15_ := Aside0.mk ((by rw [hg]; exact Nat.ne_of_lt (blk_lt (g := gb296) (o := .cells #[.slice A1_0 l1_0.length c1_0, .bool a1_1] 24 (0, 0)) bk_a) : gb296 ≠ gb321)); have n16_ := Aside0.mk ((by rw [hg]; exact Nat.ne_of_gt (blk_lt (g := gb296) (o := .cells #[.slice A1_0 l1_0.length c1_0, .bool a1_1] 24 (0, 0)) bk_a) : gb321 ≠ gb296)); have n17_ := Aside0.mk ((by rw [hg]; exact Nat.ne_of_lt (blk_lt (g := gb308) (o := .cells #[.slice Ao217 t300.length co217, .bool t303] 24 (0, 0)) bk_a) : gb308 ≠ gb321)); have n18_ := Aside0.mk ((by rw [hg]; exact Nat.ne_of_gt (blk_lt (g := gb308) (o := .cells #[.slice Ao217 t300.length co217, .bool t303] 24 (0, 0)) bk_a) : gb321 ≠ gb308)); have n19_ := Aside0.mk ((by rw [hg]; exact Nat.ne_of_lt (blk_lt (g := gb309) (o := .cells #[.slice Ao220 t304.length co220, .bool t307] 24 (0, 0)) bk_a) : gb309 ≠ gb321)); have n20_ := Aside0.mk ((by rw [hg]; exact Nat.ne_of_gt (blk_lt (g := gb309) (o := .cells #[.slice Ao220 t304.length co220, .bool t307] 24 (0, 0)) bk_a) : gb321 ≠ gb309)); have n21_ := Aside0.mk ((by rw [hg]; exact Nat.ne_of_lt (blk_lt (g := gb315) (o := .cells #[.slice Ao232 t310.length co232, .bool t313] 24 (0, 0)) bk_a) : gb315 ≠ gb321)); have n22_ := Aside0.mk ((by rw [hg]; exact Nat.ne_of_gt (blk_lt (g := gb315) (o := .cells #[.slice Ao232 t310.length co232, .bool t313] 24 (0, 0)) bk_a) : gb321 ≠ gb315)); clear HO302; clear HO306; clear HO312; clear HO318; clear BK295; clear BK296; clear BK308; clear BK309; clear BK315; clear HB; have HO302 := n0_; have HO306 := n1_; have HO312 := n2_; have HO318 := n3_; have BK295 := n4_; have BK296 := n5_; have BK308 := n6_; have BK309 := n7_; have BK315 := n8_; have HB := n9_; have BK321 := n10_; have GW321 := n11_; have GE321 := n12_; have NB295_321 := n13_; have NB321_295 := n14_; have NB296_321 := n15_; have NB321_296 := n16_; have NB308_321 := n17_; have NB321_308 := n18_; have NB309_321 := n19_; have NB321_309 := n20_; have NB315_321 := n21_; have NB321_315 := n22_; clear n0_ n1_ n2_ n3_ n4_ n5_ n6_ n7_ n8_ n9_ n10_ n11_ n12_ n13_ n14_ n15_ n16_ n17_ n18_ n19_ n20_ n21_ n22_; clear hb hbox hg; obtain ⟨Ao158, co158, eo158⟩ := Kd.R_slice HO318.out; subst eo158; have hnb159 := NB321_295.out; have hnc159 := NB295_321.out; have hnb160 := NB321_296.out; have hnc160 := NB296_321.out; have hnb161 := NB321_308.out; have hnc161 := NB308_321.out; have hnb162 := NB321_309.out; have hnc162 := NB309_321.out; have hnb163 := NB321_315.out; have hnc163 := NB315_321.out; have hcz164_0 : w157.cell? ⟨gb321, 0, none⟩ = some (.slice none 0 0) := (blk_cell BK321.out 0).trans rfl; have hcz164_1 : w157.cell? ⟨gb321, 1, none⟩ = some (.bool false) := (blk_cell BK321.out 1).trans rfl; have hfz164_0 := blk_frozen BK321.out 0; have hfz164_1 := blk_frozen BK321.out 1; have hcz165_0 : w157.cell? ⟨gb315, 0, none⟩ = some (.slice Ao232 t310.length co232) := (blk_cell BK315.out 0).trans rfl; have hcz165_1 : w157.cell? ⟨gb315, 1, none⟩ = some (.bool t313) := (blk_cell BK315.out 1).trans rfl; have hfz165_0 := blk_frozen BK315.out 0; have hfz165_1 := blk_frozen BK315.out 1) | (go_at_call 16; (with_reducible refine (stockyardref03_Same.calls kj2 _ _ t310 t313 _ _ t316 t319 true _ ?side1 ?side2 ?side3 ?side4 A25.out).mono ?_); (case side1 => refine (Kd.R_reads' (e := 9) (base := w.heap.size) (ok := fun k_ => (((True ∧ some k_ ≠ (.slice Ao217 t300.length co217 : Value).ownBlock) ∧ some k_ ≠ (.slice Ao220 t304.length co220 : Value).ownBlock) ∧ some k_ ≠ (.slice Ao158 t316.length co158 : Value).ownBlock)) (n := t310.length) (c := co232) ?_).2.2; exact (by (with_reducible repeat (first | apply Kd.R_alloc | apply Kd.R_drewN | apply Kd.R_drew)); exact (Kd.R_mono (Kd.R_far (p := ⟨gb321, 1, none⟩) (Kd.R_far (p := ⟨gb321, 0, none⟩) (Kd.R_types HO312.out BK321.out (by decide)) (fun _ hk => hk.2) (.slice Ao158 t316.length co158)) (fun _ hk => hk.2) (.bool t319)) (fun _ h_ => h_.1)))); (case side2 => exact (Kd.R_reads' HO312.out).2.1); (case side3 => refine (Kd.R_reads' (e := 9) (base := w.heap.size) (ok := fun k_ => (((True ∧ some k_ ≠ (.slice Ao217 t300.length co217 : Value).ownBlock) ∧ some k_ ≠ (.slice Ao220 t304.length co220 : Value).ownBlock) ∧ some k_ ≠ (.slice Ao232 t310.length co232 : Value).ownBlock)) (n := t316.length) (c := co158) ?_).2.2; exact (by (with_reducible repeat (first | apply Kd.R_alloc | apply Kd.R_drewN | apply Kd.R_drew)); exact (Kd.R_mono (Kd.R_far (p := ⟨gb321, 1, none⟩) (Kd.R_far (p := ⟨gb321, 0, none⟩) (Kd.R_types HO318.out BK321.out (by decide)) (fun _ hk => hk.2) (.slice Ao158 t316.length co158)) (fun _ hk => hk.2) (.bool t319)) (fun _ h_ => h_.1)))); (case side4 => exact (Kd.R_reads' HO318.out).2.1); rintro e w166 ⟨rfl, hb⟩; have n0_ := Aside0.mk (Kd.R_below (by (with_reducible repeat (first | apply Kd.R_alloc | apply Kd.R_drewN | apply Kd.R_drew)); exact (Kd.R_mono (Kd.R_far (p := ⟨gb321, 1, none⟩) (Kd.R_far (p := ⟨gb321, 0, none⟩) (Kd.R_types HO302.out BK321.out (by decide)) (fun _ hk => hk.2) (.slice Ao158 t316.length co158)) (fun _ hk => hk.2) (.bool t319)) (fun _ h_ => h_.1))) hb); have n1_ := Aside0.mk (Kd.R_below (by (with_reducible repeat (first | apply Kd.R_alloc | apply Kd.R_drewN | apply Kd.R_drew)); exact (Kd.R_mono (Kd.R_far (p := ⟨gb321, 1, none⟩) (Kd.R_far (p := ⟨gb321, 0, none⟩) (Kd.R_types HO306.out BK321.out (by decide)) (fun _ hk => hk.2) (.slice Ao158 t316.length co158)) (fun _ hk => hk.2) (.bool t319)) (fun _ h_ => h_.1))) hb); have n2_ := Aside0.mk (Kd.R_below (by (with_reducible repeat (first | apply Kd.R_alloc | apply Kd.R_drewN | apply Kd.R_drew)); exact (Kd.R_mono (Kd.R_far (p := ⟨gb321, 1, none⟩) (Kd.R_far (p := ⟨gb321, 0, none⟩) (Kd.R_types HO312.out BK321.out (by decide)) (fun _ hk => hk.2) (.slice Ao158 t316.length co158)) (fun _ hk => hk.2) (.bool t319)) (fun _ h_ => h_.1))) hb); have n3_ := Aside0.mk (Kd.R_below (by (with_reducible repeat (first | apply Kd.R_alloc | apply Kd.R_drewN | apply Kd.R_drew)); exact (Kd.R_mono (Kd.R_far (p := ⟨gb321, 1, none⟩) (Kd.R_far (p := ⟨gb321, 0, none⟩) (Kd.R_types HO318.out BK321.out (by decide)) (fun _ hk => hk.2) (.slice Ao158 t316.length co158)) (fun _ hk => hk.2) (.bool t319)) (fun _ h_ => h_.1))) hb); have n4_ := Aside0.mk (blk_below (g := gb295) (o := .cells #[.slice A0_0 l0_0.length c0_0, .bool a0_1] 24 (0, 0)) (by (with_reducible repeat (first | refine blk_drewN ?_ _ | refine blk_drew ?_ | refine blk_alloc ?_ _)); refine blk_far ?_ NB295_321.out _; (with_reducible repeat (first | refine blk_drewN ?_ _ | refine blk_drew ?_ | refine blk_alloc ?_ _)); refine blk_far ?_ NB295_321.out _; (with_reducible repeat (first | refine blk_drewN ?_ _ | refine blk_drew ?_ | refine blk_alloc ?_ _)); exact BK295.out) hb); have n5_ := Aside0.mk (blk_below (g := gb296) (o := .cells #[.slice A1_0 l1_0.length c1_0, .bool a1_1] 24 (0, 0)) (by (with_reducible repeat (first | refine blk_drewN ?_ _ | refine blk_drew ?_ | refine blk_alloc ?_ _)); refine blk_far ?_ NB296_321.out _; (with_reducible repeat (first | refine blk_drewN ?_ _ | refine blk_drew ?_ | refine blk_alloc ?_ _)); refine blk_far ?_ NB296_321.out _; (with_reducible repeat (first | refine blk_drewN ?_ _ | refine blk_drew ?_ | refine blk_alloc ?_ _)); exact BK296.out) hb); have n6_ := Aside0.mk (blk_below (g := gb308) (o := .cells #[.slice Ao217 t300.length co217, .bool t303] 24 (0, 0)) (by (with_reducible repeat (first | refine blk_drewN ?_ _ | refine blk_drew ?_ | refine blk_alloc ?_ _)); refine blk_far ?_ NB308_321.out _; (with_reducible repeat (first | refine blk_drewN ?_ _ | refine blk_drew ?_ | refine blk_alloc ?_ _)); refine blk_far ?_ NB308_321.out _; (with_reducible repeat (first | refine blk_drewN ?_ _ | refine blk_drew ?_ | refine blk_alloc ?_ _)); exact BK308.out) hb); have n7_ := Aside0.mk (blk_below (g := gb309) (o := .cells #[.slice Ao220 t304.length co220, .bool t307] 24 (0, 0)) (by (with_reducible repeat (first | refine blk_drewN ?_ _ | refine blk_drew ?_ | refine blk_alloc ?_ _)); refine blk_far ?_ NB309_321.out _; (with_reducible repeat (first | refine blk_drewN ?_ _ | refine blk_drew ?_ | refine blk_alloc ?_ _)); refine blk_far ?_ NB309_321.out _; (with_reducible repeat (first | refine blk_drewN ?_ _ | refine blk_drew ?_ | refine blk_alloc ?_ _)); exact BK309.out) hb); have n8_ := Aside0.mk (blk_below (g := gb315) (o := .cells #[.slice Ao232 t310.length co232, .bool t313] 24 (0, 0)) (by (with_reducible repeat (first | refine blk_drewN ?_ _ | refine blk_drew ?_ | refine blk_alloc ?_ _)); refine blk_far ?_ NB315_321.out _; (with_reducible repeat (first | refine blk_drewN ?_ _ | refine blk_drew ?_ | refine blk_alloc ?_ _)); refine blk_far ?_ NB315_321.out _; (with_reducible repeat (first | refine blk_drewN ?_ _ | refine blk_drew ?_ | refine blk_alloc ?_ _)); exact BK315.out) hb); have n9_ := Aside0.mk (blk_below (g := gb321) (o := .cells #[.slice Ao158 t316.length co158, .bool t319] 24 (0, 0)) (by (with_reducible repeat (first | refine blk_drewN ?_ _ | refine blk_drew ?_ | refine blk_alloc ?_ _)); refine blk_put (cs := #[.slice Ao158 t316.length co158, .bool false]) ?_ 1 _ rfl; (with_reducible repeat (first | refine blk_drewN ?_ _ | refine blk_drew ?_ | refine blk_alloc ?_ _)); refine blk_put (cs := #[.slice none 0 0, .bool false]) ?_ 0 _ rfl; (with_reducible repeat (first | refine blk_drewN ?_ _ | refine blk_drew ?_ | refine blk_alloc ?_ _)); exact BK321.out) hb); have n10_ := Aside0.mk (below_step hb_a hb); clear HO302; clear HO306; clear HO312; clear HO318; clear BK295; clear BK296; clear BK308; clear BK309; clear BK315; clear BK321; clear HB; have HO302 := n0_; have HO306 := n1_; have HO312 := n2_; have HO318 := n3_; have BK295 := n4_; have BK296 := n5_; have BK308 := n6_; have BK309 := n7_; have BK315 := n8_; have BK321 := n9_; have HB := n10_; clear n0_ n1_ n2_ n3_ n4_ n5_ n6_ n7_ n8_ n9_ n10_; (try clear hb); (try clear hb2); (try clear hk); (try clear hi); have hcz167_0 : w166.cell? ⟨gb295, 0, none⟩ = some (.slice A0_0 l0_0.length c0_0) := (blk_cell BK295.out 0).trans rfl; have hcz167_1 : w166.cell? ⟨gb295, 1, none⟩ = some (.bool a0_1) := (blk_cell BK295.out 1).trans rfl; have hfz167_0 := blk_frozen BK295.out 0; have hfz167_1 := blk_frozen BK295.out 1; have hnb168 := NB308_309.out; have hnc168 := NB309_308.out; have hcz169_0 : w166.cell? ⟨gb308, 0, none⟩ = some (.slice Ao217 t300.length co217) := (blk_cell BK308.out 0).trans rfl; have hcz169_1 : w166.cell? ⟨gb308, 1, none⟩ = some (.bool t303) := (blk_cell BK308.out 1).trans rfl; have hfz169_0 := blk_frozen BK308.out 0; have hfz169_1 := blk_frozen BK308.out 1) | (go_at_call 16; (with_reducible refine (stockyardref03_Same.calls kj2 _ _ l0_0 a0_1 _ _ t300 t303 false _ ?side1 ?side2 ?side3 ?side4 A27.out).mono ?_); (case side1 => repeat (first | exact (Kd.C_below HR0_0.out HB.out) | (with_reducible refine Kd.C_alloc ?_ _) | (with_reducible refine Kd.C_drewN ?_ _) | (with_reducible refine Kd.C_drew ?_))); (case side2 => exact HC0_0.out); (case side3 => repeat (first | exact (Kd.R_reads' HO302.out).2.2 | (with_reducible refine Kd.C_alloc ?_ _) | (with_reducible refine Kd.C_drewN ?_ _) | (with_reducible refine Kd.C_drew ?_))); (case side4 => exact (Kd.R_reads' HO302.out).2.1); rintro e w170 ⟨rfl, hb⟩; have n0_ := Aside0.mk (Kd.R_below (by (with_reducible repeat (first | apply Kd.R_alloc | apply Kd.R_drewN | apply Kd.R_drew)); exact HO302.out) hb); have n1_ := Aside0.mk (Kd.R_below (by (with_reducible repeat (first | apply Kd.R_alloc | apply Kd.R_drewN | apply Kd.R_drew)); exact HO306.out) hb); have n2_ := Aside0.mk (Kd.R_below (by (with_reducible repeat (first | apply Kd.R_alloc | apply Kd.R_drewN | apply Kd.R_drew)); exact HO312.out) hb); have n3_ := Aside0.mk (Kd.R_below (by (with_reducible repeat (first | apply Kd.R_alloc | apply Kd.R_drewN | apply Kd.R_drew)); exact HO318.out) hb); have n4_ := Aside0.mk (blk_below (g := gb295) (o := .cells #[.slice A0_0 l0_0.length c0_0, .bool a0_1] 24 (0, 0)) bk_a hb); have n5_ := Aside0.mk (blk_below (g := gb296) (o := .cells #[.slice A1_0 l1_0.length c1_0, .bool a1_1] 24 (0, 0)) bk_a hb); have n6_ := Aside0.mk (blk_below (g := gb308) (o := .cells #[.slice Ao217 t300.length co217, .bool t303] 24 (0, 0)) bk_a hb); have n7_ := Aside0.mk (blk_below (g := gb309) (o := .cells #[.slice Ao220 t304.length co220, .bool t307] 24 (0, 0)) bk_a hb); have n8_ := Aside0.mk (blk_below (g := gb315) (o := .cells #[.slice Ao232 t310.length co232, .bool t313] 24 (0, 0)) bk_a hb); have n9_ := Aside0.mk (blk_below (g := gb321) (o := .cells #[.slice Ao158 t316.length co158, .bool t319] 24 (0, 0)) bk_a hb); have n10_ := Aside0.mk (below_step hb_a hb); clear HO302; clear HO306; clear HO312; clear HO318; clear BK295; clear BK296; clear BK308; clear BK309; clear BK315; clear BK321; clear HB; have HO302 := n0_; have HO306 := n1_; have HO312 := n2_; have HO318 := n3_; have BK295 := n4_; have BK296 := n5_; have BK308 := n6_; have BK309 := n7_; have BK315 := n8_; have BK321 := n9_; have HB := n10_; clear n0_ n1_ n2_ n3_ n4_ n5_ n6_ n7_ n8_ n9_ n10_; (try clear hb); (try clear hb2); (try clear hk); (try clear hi)))
              go_ret
              exact ⟨by first | rfl | (simp [errW_none, errW_some] <;> rfl) | (simp [*, errW_none, errW_some] <;> rfl), hb_a⟩
          · replace c26 := Bool.eq_false_iff.mpr c26
            subst c26
            have H1 : (some false) = some r := by rw [if_neg (show ¬ (false = true) by decide)] at H; exact H
            clear H
            have H := H1
            clear H1
            obtain rfl := Option.some.inj H
            try go_wp2_with (first | ((with_reducible refine gate_callee (f := 15) rfl ?_); refine goesL_ (some 33) rfl rfl Tryd.func15 (by kernel_rfl) rfl #[.agg #[.slice A0_0 l0_0.length c0_0, .bool a0_1], .agg #[.slice A1_0 l1_0.length c1_0, .bool a1_1]] rfl (by (try simp only [List.map_toArray, List.map_cons, List.map_nil]); first | done | rfl | (simp only [List.length_drop, List.length_take]; rfl)) ?_; (with_reducible refine (stockyardref03_Meet.calls kj2 _ _ l0_0 a0_1 _ _ l1_0 a1_1 t316 t319 t320 _ ?side1 ?side2 ?side3 ?side4 A23.out).mono ?_); (case side1 => exact Kd.C_below HR0_0.out hb_a); (case side2 => exact HC0_0.out); (case side3 => exact Kd.C_below HR1_0.out hb_a); (case side4 => exact HC1_0.out); rintro e w200 ⟨v317, rfl, ho0, hb⟩; refine ⟨_, rfl, ?_⟩; have n0_ := Aside0.mk (Kd.R_elder' (by (with_reducible repeat (first | apply Kd.R_alloc | apply Kd.R_drewN | apply Kd.R_drew)); exact (Kd.R_mono (Kd.R_far (p := ⟨gb315, 1, none⟩) (Kd.R_far (p := ⟨gb315, 0, none⟩) (Kd.R_types HO302.out BK315.out (by decide)) (fun _ hk => hk.2) (.slice Ao232 t310.length co232)) (fun _ hk => hk.2) (.bool t313)) (fun _ h_ => h_.1))) (Kd.R_base ho0) hb); have n1_ := Aside0.mk (Kd.R_elder' (by (with_reducible repeat (first | apply Kd.R_alloc | apply Kd.R_drewN | apply Kd.R_drew)); exact (Kd.R_mono (Kd.R_far (p := ⟨gb315, 1, none⟩) (Kd.R_far (p := ⟨gb315, 0, none⟩) (Kd.R_types HO306.out BK315.out (by decide)) (fun _ hk => hk.2) (.slice Ao232 t310.length co232)) (fun _ hk => hk.2) (.bool t313)) (fun _ h_ => h_.1))) (Kd.R_base ho0) hb); have n2_ := Aside0.mk (Kd.R_elder' (by (with_reducible repeat (first | apply Kd.R_alloc | apply Kd.R_drewN | apply Kd.R_drew)); exact (Kd.R_mono (Kd.R_far (p := ⟨gb315, 1, none⟩) (Kd.R_far (p := ⟨gb315, 0, none⟩) (Kd.R_types HO312.out BK315.out (by decide)) (fun _ hk => hk.2) (.slice Ao232 t310.length co232)) (fun _ hk => hk.2) (.bool t313)) (fun _ h_ => h_.1))) (Kd.R_base ho0) hb); have n3_ := Aside0.mk (Kd.R_lower (Kd.R_new' (Kd.R_new' (Kd.R_new' ho0 (Kd.R_lt (by (with_reducible repeat (first | apply Kd.R_alloc | apply Kd.R_drewN | apply Kd.R_drew)); exact (Kd.R_mono (Kd.R_far (p := ⟨gb315, 1, none⟩) (Kd.R_far (p := ⟨gb315, 0, none⟩) (Kd.R_types HO302.out BK315.out (by decide)) (fun _ hk => hk.2) (.slice Ao232 t310.length co232)) (fun _ hk => hk.2) (.bool t313)) (fun _ h_ => h_.1))))) (Kd.R_lt (by (with_reducible repeat (first | apply Kd.R_alloc | apply Kd.R_drewN | apply Kd.R_drew)); exact (Kd.R_mono (Kd.R_far (p := ⟨gb315, 1, none⟩) (Kd.R_far (p := ⟨gb315, 0, none⟩) (Kd.R_types HO306.out BK315.out (by decide)) (fun _ hk => hk.2) (.slice Ao232 t310.length co232)) (fun _ hk => hk.2) (.bool t313)) (fun _ h_ => h_.1))))) (Kd.R_lt (by (with_reducible repeat (first | apply Kd.R_alloc | apply Kd.R_drewN | apply Kd.R_drew)); exact (Kd.R_mono (Kd.R_far (p := ⟨gb315, 1, none⟩) (Kd.R_far (p := ⟨gb315, 0, none⟩) (Kd.R_types HO312.out BK315.out (by decide)) (fun _ hk => hk.2) (.slice Ao232 t310.length co232)) (fun _ hk => hk.2) (.bool t313)) (fun _ h_ => h_.1))))) (below_size hb_a)); have n4_ := Aside0.mk (blk_below (g := gb295) (o := .cells #[.slice A0_0 l0_0.length c0_0, .bool a0_1] 24 (0, 0)) (by (with_reducible repeat (first | refine blk_drewN ?_ _ | refine blk_drew ?_ | refine blk_alloc ?_ _)); refine blk_far ?_ NB295_315.out _; (with_reducible repeat (first | refine blk_drewN ?_ _ | refine blk_drew ?_ | refine blk_alloc ?_ _)); refine blk_far ?_ NB295_315.out _; (with_reducible repeat (first | refine blk_drewN ?_ _ | refine blk_drew ?_ | refine blk_alloc ?_ _)); exact BK295.out) hb); have n5_ := Aside0.mk (blk_below (g := gb296) (o := .cells #[.slice A1_0 l1_0.length c1_0, .bool a1_1] 24 (0, 0)) (by (with_reducible repeat (first | refine blk_drewN ?_ _ | refine blk_drew ?_ | refine blk_alloc ?_ _)); refine blk_far ?_ NB296_315.out _; (with_reducible repeat (first | refine blk_drewN ?_ _ | refine blk_drew ?_ | refine blk_alloc ?_ _)); refine blk_far ?_ NB296_315.out _; (with_reducible repeat (first | refine blk_drewN ?_ _ | refine blk_drew ?_ | refine blk_alloc ?_ _)); exact BK296.out) hb); have n6_ := Aside0.mk (blk_below (g := gb308) (o := .cells #[.slice Ao217 t300.length co217, .bool t303] 24 (0, 0)) (by (with_reducible repeat (first | refine blk_drewN ?_ _ | refine blk_drew ?_ | refine blk_alloc ?_ _)); refine blk_far ?_ NB308_315.out _; (with_reducible repeat (first | refine blk_drewN ?_ _ | refine blk_drew ?_ | refine blk_alloc ?_ _)); refine blk_far ?_ NB308_315.out _; (with_reducible repeat (first | refine blk_drewN ?_ _ | refine blk_drew ?_ | refine blk_alloc ?_ _)); exact BK308.out) hb); have n7_ := Aside0.mk (blk_below (g := gb309) (o := .cells #[.slice Ao220 t304.length co220, .bool t307] 24 (0, 0)) (by (with_reducible repeat (first | refine blk_drewN ?_ _ | refine blk_drew ?_ | refine blk_alloc ?_ _)); refine blk_far ?_ NB309_315.out _; (with_reducible repeat (first | refine blk_drewN ?_ _ | refine blk_drew ?_ | refine blk_alloc ?_ _)); refine blk_far ?_ NB309_315.out _; (with_reducible repeat (first | refine blk_drewN ?_ _ | refine blk_drew ?_ | refine blk_alloc ?_ _)); exact BK309.out) hb); have n8_ := Aside0.mk (blk_below (g := gb315) (o := .cells #[.slice Ao232 t310.length co232, .bool t313] 24 (0, 0)) (by (with_reducible repeat (first | refine blk_drewN ?_ _ | refine blk_drew ?_ | refine blk_alloc ?_ _)); refine blk_put (cs := #[.slice Ao232 t310.length co232, .bool false]) ?_ 1 _ rfl; (with_reducible repeat (first | refine blk_drewN ?_ _ | refine blk_drew ?_ | refine blk_alloc ?_ _)); refine blk_put (cs := #[.slice none 0 0, .bool false]) ?_ 0 _ rfl; (with_reducible repeat (first | refine blk_drewN ?_ _ | refine blk_drew ?_ | refine blk_alloc ?_ _)); exact BK315.out) hb); have n9_ := Aside0.mk (below_step hb_a hb); clear HO302; clear HO306; clear HO312; clear BK295; clear BK296; clear BK308; clear BK309; clear BK315; clear HB; have HO302 := n0_; have HO306 := n1_; have HO312 := n2_; have HO318 := n3_; have BK295 := n4_; have BK296 := n5_; have BK308 := n6_; have BK309 := n7_; have BK315 := n8_; have HB := n9_; clear n0_ n1_ n2_ n3_ n4_ n5_ n6_ n7_ n8_ n9_; (try clear hb); (try clear hb2); (try clear hk); (try clear hi); (try clear ho0)) | ((with_reducible refine gate_dst (N := 9) rfl ?_); refine box_event ?hg (N := 9) ?hd (cs := #[.slice none 0 0, .bool false]) (t := 24) ?hr ?_; (case hd => rfl); (case hg => rfl); (case hr => first | (go_simp; done) | (go_simp; rfl)); intro gb321 hg w201 hbox hb; have n0_ := Aside0.mk (Kd.R_below (by (with_reducible repeat (first | apply Kd.R_alloc | apply Kd.R_drewN | apply Kd.R_drew)); exact HO302.out) hb); have n1_ := Aside0.mk (Kd.R_below (by (with_reducible repeat (first | apply Kd.R_alloc | apply Kd.R_drewN | apply Kd.R_drew)); exact HO306.out) hb); have n2_ := Aside0.mk (Kd.R_below (by (with_reducible repeat (first | apply Kd.R_alloc | apply Kd.R_drewN | apply Kd.R_drew)); exact HO312.out) hb); have n3_ := Aside0.mk (Kd.R_below (by (with_reducible repeat (first | apply Kd.R_alloc | apply Kd.R_drewN | apply Kd.R_drew)); exact HO318.out) hb); have n4_ := Aside0.mk (blk_below (g := gb295) (o := .cells #[.slice A0_0 l0_0.length c0_0, .bool a0_1] 24 (0, 0)) bk_a hb); have n5_ := Aside0.mk (blk_below (g := gb296) (o := .cells #[.slice A1_0 l1_0.length c1_0, .bool a1_1] 24 (0, 0)) bk_a hb); have n6_ := Aside0.mk (blk_below (g := gb308) (o := .cells #[.slice Ao217 t300.length co217, .bool t303] 24 (0, 0)) bk_a hb); have n7_ := Aside0.mk (blk_below (g := gb309) (o := .cells #[.slice Ao220 t304.length co220, .bool t307] 24 (0, 0)) bk_a hb); have n8_ := Aside0.mk (blk_below (g := gb315) (o := .cells #[.slice Ao232 t310.length co232, .bool t313] 24 (0, 0)) bk_a hb); have n9_ := Aside0.mk (below_step hb_a hb); have n10_ := Aside0.mk (hbox); have n11_ := Aside0.mk ((by rw [hg]; exact (below_size hb_a) : w.heap.size ≤ gb321)); have n12_ := Aside0.mk ((by rw [hg]; exact (below_size hb_a) : w.heap.size ≤ gb321)); have n13_ := Aside0.mk ((by rw [hg]; exact Nat.ne_of_lt (blk_lt (g := gb295) (o := .cells #[.slice A0_0 l0_0.length c0_0, .bool a0_1] 24 (0, 0)) bk_a) : gb295 ≠ gb321)); have n14_ := Aside0.mk ((by rw [hg]; exact Nat.ne_of_gt (blk_lt (g := gb295) (o := .cells #[.slice A0_0 l0_0.length c0_0, .bool a0_1] 24 (0, 0)) bk_a) : gb321 ≠ gb295)); have n15_ := Aside0.mk ((by rw [hg]; exact Nat.ne_of_lt (blk_lt (g := gb296) (o := .cells #[.slice A1_0 l1_0.length c1_0, .bool a1_1] 24 (0, 0)) bk_a) : gb296 ≠ gb321)); have n16_ := Aside0.mk ((by rw [hg]; exact Nat.ne_of_gt (blk_lt (g := gb296) (o := .cells #[.slice A1_0 l1_0.length c1_0, .bool a1_1] 24 (0, 0)) bk_a) : gb321 ≠ gb296)); have n17_ := Aside0.mk ((by rw [hg]; exact Nat.ne_of_lt (blk_lt (g := gb308) (o := .cells #[.slice Ao217 t300.length co217, .bool t303] 24 (0, 0)) bk_a) : gb308 ≠ gb321)); have n18_ := Aside0.mk ((by rw [hg]; exact Nat.ne_of_gt (blk_lt (g := gb308) (o := .cells #[.slice Ao217 t300.length co217, .bool t303] 24 (0, 0)) bk_a) : gb321 ≠ gb308)); have n19_ := Aside0.mk ((by rw [hg]; exact Nat.ne_of_lt (blk_lt (g := gb309) (o := .cells #[.slice Ao220 t304.length co220, .bool t307] 24 (0, 0)) bk_a) : gb309 ≠ gb321)); have n20_ := Aside0.mk ((by rw [hg]; exact Nat.ne_of_gt (blk_lt (g := gb309) (o := .cells #[.slice Ao220 t304.length co220, .bool t307] 24 (0, 0)) bk_a) : gb321 ≠ gb309)); have n21_ := Aside0.mk ((by rw [hg]; exact Nat.ne_of_lt (blk_lt (g := gb315) (o := .cells #[.slice Ao232 t310.length co232, .bool t313] 24 (0, 0)) bk_a) : gb315 ≠ gb321)); have n22_ := Aside0.mk ((by rw [hg]; exact Nat.ne_of_gt (blk_lt (g := gb315) (o := .cells #[.slice Ao232 t310.length co232, .bool t313] 24 (0, 0)) bk_a) : gb321 ≠ gb315)); clear HO302; clear HO306; clear HO312; clear HO318; clear BK295; clear BK296; clear BK308; clear BK309; clear BK315; clear HB; have HO302 := n0_; have HO306 := n1_; have HO312 := n2_; have HO318 := n3_; have BK295 := n4_; have BK296 := n5_; have BK308 := n6_; have BK309 := n7_; have BK315 := n8_; have HB := n9_; have BK321 := n10_; have GW321 := n11_; have GE321 := n12_; have NB295_321 := n13_; have NB321_295 := n14_; have NB296_321 := n15_; have NB321_296 := n16_; have NB308_321 := n17_; have NB321_308 := n18_; have NB309_321 := n19_; have NB321_309 := n20_; have NB315_321 := n21_; have NB321_315 := n22_; clear n0_ n1_ n2_ n3_ n4_ n5_ n6_ n7_ n8_ n9_ n10_ n11_ n12_ n13_ n14_ n15_ n16_ n17_ n18_ n19_ n20_ n21_ n22_; clear hb hbox hg; obtain ⟨Ao202, co202, eo202⟩ := Kd.R_slice HO318.out; subst eo202; have hnb203 := NB321_295.out; have hnc203 := NB295_321.out; have hnb204 := NB321_296.out; have hnc204 := NB296_321.out; have hnb205 := NB321_308.out; have hnc205 := NB308_321.out; have hnb206 := NB321_309.out; have hnc206 := NB309_321.out; have hnb207 := NB321_315.out; have hnc207 := NB315_321.out; have hcz208_0 : w201.cell? ⟨gb321, 0, none⟩ = some (.slice none 0 0) := (blk_cell BK321.out 0).trans rfl; have hcz208_1 : w201.cell? ⟨gb321, 1, none⟩ = some (.bool false) := (blk_cell BK321.out 1).trans rfl; have hfz208_0 := blk_frozen BK321.out 0; have hfz208_1 := blk_frozen BK321.out 1; have hcz209_0 : w201.cell? ⟨gb315, 0, none⟩ = some (.slice Ao232 t310.length co232) := (blk_cell BK315.out 0).trans rfl; have hcz209_1 : w201.cell? ⟨gb315, 1, none⟩ = some (.bool t313) := (blk_cell BK315.out 1).trans rfl; have hfz209_0 := blk_frozen BK315.out 0; have hfz209_1 := blk_frozen BK315.out 1) | (go_at_call 16; (with_reducible refine (stockyardref03_Same.calls kj2 _ _ t310 t313 _ _ t316 t319 false _ ?side1 ?side2 ?side3 ?side4 A25.out).mono ?_); (case side1 => refine (Kd.R_reads' (e := 9) (base := w.heap.size) (ok := fun k_ => (((True ∧ some k_ ≠ (.slice Ao217 t300.length co217 : Value).ownBlock) ∧ some k_ ≠ (.slice Ao220 t304.length co220 : Value).ownBlock) ∧ some k_ ≠ (.slice Ao202 t316.length co202 : Value).ownBlock)) (n := t310.length) (c := co232) ?_).2.2; exact (by (with_reducible repeat (first | apply Kd.R_alloc | apply Kd.R_drewN | apply Kd.R_drew)); exact (Kd.R_mono (Kd.R_far (p := ⟨gb321, 1, none⟩) (Kd.R_far (p := ⟨gb321, 0, none⟩) (Kd.R_types HO312.out BK321.out (by decide)) (fun _ hk => hk.2) (.slice Ao202 t316.length co202)) (fun _ hk => hk.2) (.bool t319)) (fun _ h_ => h_.1)))); (case side2 => exact (Kd.R_reads' HO312.out).2.1); (case side3 => refine (Kd.R_reads' (e := 9) (base := w.heap.size) (ok := fun k_ => (((True ∧ some k_ ≠ (.slice Ao217 t300.length co217 : Value).ownBlock) ∧ some k_ ≠ (.slice Ao220 t304.length co220 : Value).ownBlock) ∧ some k_ ≠ (.slice Ao232 t310.length co232 : Value).ownBlock)) (n := t316.length) (c := co202) ?_).2.2; exact (by (with_reducible repeat (first | apply Kd.R_alloc | apply Kd.R_drewN | apply Kd.R_drew)); exact (Kd.R_mono (Kd.R_far (p := ⟨gb321, 1, none⟩) (Kd.R_far (p := ⟨gb321, 0, none⟩) (Kd.R_types HO318.out BK321.out (by decide)) (fun _ hk => hk.2) (.slice Ao202 t316.length co202)) (fun _ hk => hk.2) (.bool t319)) (fun _ h_ => h_.1)))); (case side4 => exact (Kd.R_reads' HO318.out).2.1); rintro e w210 ⟨rfl, hb⟩; have n0_ := Aside0.mk (Kd.R_below (by (with_reducible repeat (first | apply Kd.R_alloc | apply Kd.R_drewN | apply Kd.R_drew)); exact (Kd.R_mono (Kd.R_far (p := ⟨gb321, 1, none⟩) (Kd.R_far (p := ⟨gb321, 0, none⟩) (Kd.R_types HO302.out BK321.out (by decide)) (fun _ hk => hk.2) (.slice Ao202 t316.length co202)) (fun _ hk => hk.2) (.bool t319)) (fun _ h_ => h_.1))) hb); have n1_ := Aside0.mk (Kd.R_below (by (with_reducible repeat (first | apply Kd.R_alloc | apply Kd.R_drewN | apply Kd.R_drew)); exact (Kd.R_mono (Kd.R_far (p := ⟨gb321, 1, none⟩) (Kd.R_far (p := ⟨gb321, 0, none⟩) (Kd.R_types HO306.out BK321.out (by decide)) (fun _ hk => hk.2) (.slice Ao202 t316.length co202)) (fun _ hk => hk.2) (.bool t319)) (fun _ h_ => h_.1))) hb); have n2_ := Aside0.mk (Kd.R_below (by (with_reducible repeat (first | apply Kd.R_alloc | apply Kd.R_drewN | apply Kd.R_drew)); exact (Kd.R_mono (Kd.R_far (p := ⟨gb321, 1, none⟩) (Kd.R_far (p := ⟨gb321, 0, none⟩) (Kd.R_types HO312.out BK321.out (by decide)) (fun _ hk => hk.2) (.slice Ao202 t316.length co202)) (fun _ hk => hk.2) (.bool t319)) (fun _ h_ => h_.1))) hb); have n3_ := Aside0.mk (Kd.R_below (by (with_reducible repeat (first | apply Kd.R_alloc | apply Kd.R_drewN | apply Kd.R_drew)); exact (Kd.R_mono (Kd.R_far (p := ⟨gb321, 1, none⟩) (Kd.R_far (p := ⟨gb321, 0, none⟩) (Kd.R_types HO318.out BK321.out (by decide)) (fun _ hk => hk.2) (.slice Ao202 t316.length co202)) (fun _ hk => hk.2) (.bool t319)) (fun _ h_ => h_.1))) hb); have n4_ := Aside0.mk (blk_below (g := gb295) (o := .cells #[.slice A0_0 l0_0.length c0_0, .bool a0_1] 24 (0, 0)) (by (with_reducible repeat (first | refine blk_drewN ?_ _ | refine blk_drew ?_ | refine blk_alloc ?_ _)); refine blk_far ?_ NB295_321.out _; (with_reducible repeat (first | refine blk_drewN ?_ _ | refine blk_drew ?_ | refine blk_alloc ?_ _)); refine blk_far ?_ NB295_321.out _; (with_reducible repeat (first | refine blk_drewN ?_ _ | refine blk_drew ?_ | refine blk_alloc ?_ _)); exact BK295.out) hb); have n5_ := Aside0.mk (blk_below (g := gb296) (o := .cells #[.slice A1_0 l1_0.length c1_0, .bool a1_1] 24 (0, 0)) (by (with_reducible repeat (first | refine blk_drewN ?_ _ | refine blk_drew ?_ | refine blk_alloc ?_ _)); refine blk_far ?_ NB296_321.out _; (with_reducible repeat (first | refine blk_drewN ?_ _ | refine blk_drew ?_ | refine blk_alloc ?_ _)); refine blk_far ?_ NB296_321.out _; (with_reducible repeat (first | refine blk_drewN ?_ _ | refine blk_drew ?_ | refine blk_alloc ?_ _)); exact BK296.out) hb); have n6_ := Aside0.mk (blk_below (g := gb308) (o := .cells #[.slice Ao217 t300.length co217, .bool t303] 24 (0, 0)) (by (with_reducible repeat (first | refine blk_drewN ?_ _ | refine blk_drew ?_ | refine blk_alloc ?_ _)); refine blk_far ?_ NB308_321.out _; (with_reducible repeat (first | refine blk_drewN ?_ _ | refine blk_drew ?_ | refine blk_alloc ?_ _)); refine blk_far ?_ NB308_321.out _; (with_reducible repeat (first | refine blk_drewN ?_ _ | refine blk_drew ?_ | refine blk_alloc ?_ _)); exact BK308.out) hb); have n7_ := Aside0.mk (blk_below (g := gb309) (o := .cells #[.slice Ao220 t304.length co220, .bool t307] 24 (0, 0)) (by (with_reducible repeat (first | refine blk_drewN ?_ _ | refine blk_drew ?_ | refine blk_alloc ?_ _)); refine blk_far ?_ NB309_321.out _; (with_reducible repeat (first | refine blk_drewN ?_ _ | refine blk_drew ?_ | refine blk_alloc ?_ _)); refine blk_far ?_ NB309_321.out _; (with_reducible repeat (first | refine blk_drewN ?_ _ | refine blk_drew ?_ | refine blk_alloc ?_ _)); exact BK309.out) hb); have n8_ := Aside0.mk (blk_below (g := gb315) (o := .cells #[.slice Ao232 t310.length co232, .bool t313] 24 (0, 0)) (by (with_reducible repeat (first | refine blk_drewN ?_ _ | refine blk_drew ?_ | refine blk_alloc ?_ _)); refine blk_far ?_ NB315_321.out _; (with_reducible repeat (first | refine blk_drewN ?_ _ | refine blk_drew ?_ | refine blk_alloc ?_ _)); refine blk_far ?_ NB315_321.out _; (with_reducible repeat (first | refine blk_drewN ?_ _ | refine blk_drew ?_ | refine blk_alloc ?_ _)); exact BK315.out) hb); have n9_ := Aside0.mk (blk_below (g := gb321) (o := .cells #[.slice Ao202 t316.length co202, .bool t319] 24 (0, 0)) (by (with_reducible repeat (first | refine blk_drewN ?_ _ | refine blk_drew ?_ | refine blk_alloc ?_ _)); refine blk_put (cs := #[.slice Ao202 t316.length co202, .bool false]) ?_ 1 _ rfl; (with_reducible repeat (first | refine blk_drewN ?_ _ | refine blk_drew ?_ | refine blk_alloc ?_ _)); refine blk_put (cs := #[.slice none 0 0, .bool false]) ?_ 0 _ rfl; (with_reducible repeat (first | refine blk_drewN ?_ _ | refine blk_drew ?_ | refine blk_alloc ?_ _)); exact BK321.out) hb); have n10_ := Aside0.mk (below_step hb_a hb); clear HO302; clear HO306; clear HO312; clear HO318; clear BK295; clear BK296; clear BK308; clear BK309; clear BK315; clear BK321; clear HB; have HO302 := n0_; have HO306 := n1_; have HO312 := n2_; have HO318 := n3_; have BK295 := n4_; have BK296 := n5_; have BK308 := n6_; have BK309 := n7_; have BK315 := n8_; have BK321 := n9_; have HB := n10_; clear n0_ n1_ n2_ n3_ n4_ n5_ n6_ n7_ n8_ n9_ n10_; (try clear hb); (try clear hb2); (try clear hk); (try clear hi)))
            go_ret
            exact ⟨by first | rfl | (simp [errW_none, errW_some] <;> rfl) | (simp [*, errW_none, errW_some] <;> rfl), hb_a⟩
        · rw [if_neg c24] at H
          have c24b0 : (t314 == t320) = false := by simpa using c24
          (try (have c24b1 : decide (t314 = t320) = false := by simpa using c24))
          (try (have c24b2 : (t314 == t320) = false := by simpa using c24))
          (try (have c24b3 : ¬ (t314 = t320) := by simpa using c24))
          clear c24
          obtain rfl := Option.some.inj H
          try go_wp2_with (first | ((with_reducible refine gate_callee (f := 15) rfl ?_); refine goesL_ (some 33) rfl rfl Tryd.func15 (by kernel_rfl) rfl #[.agg #[.slice A0_0 l0_0.length c0_0, .bool a0_1], .agg #[.slice A1_0 l1_0.length c1_0, .bool a1_1]] rfl (by (try simp only [List.map_toArray, List.map_cons, List.map_nil]); first | done | rfl | (simp only [List.length_drop, List.length_take]; rfl)) ?_; (with_reducible refine (stockyardref03_Meet.calls kj2 _ _ l0_0 a0_1 _ _ l1_0 a1_1 t316 t319 t320 _ ?side1 ?side2 ?side3 ?side4 A23.out).mono ?_); (case side1 => exact Kd.C_below HR0_0.out hb_a); (case side2 => exact HC0_0.out); (case side3 => exact Kd.C_below HR1_0.out hb_a); (case side4 => exact HC1_0.out); rintro e w240 ⟨v317, rfl, ho0, hb⟩; refine ⟨_, rfl, ?_⟩; have n0_ := Aside0.mk (Kd.R_elder' (by (with_reducible repeat (first | apply Kd.R_alloc | apply Kd.R_drewN | apply Kd.R_drew)); exact (Kd.R_mono (Kd.R_far (p := ⟨gb315, 1, none⟩) (Kd.R_far (p := ⟨gb315, 0, none⟩) (Kd.R_types HO302.out BK315.out (by decide)) (fun _ hk => hk.2) (.slice Ao232 t310.length co232)) (fun _ hk => hk.2) (.bool t313)) (fun _ h_ => h_.1))) (Kd.R_base ho0) hb); have n1_ := Aside0.mk (Kd.R_elder' (by (with_reducible repeat (first | apply Kd.R_alloc | apply Kd.R_drewN | apply Kd.R_drew)); exact (Kd.R_mono (Kd.R_far (p := ⟨gb315, 1, none⟩) (Kd.R_far (p := ⟨gb315, 0, none⟩) (Kd.R_types HO306.out BK315.out (by decide)) (fun _ hk => hk.2) (.slice Ao232 t310.length co232)) (fun _ hk => hk.2) (.bool t313)) (fun _ h_ => h_.1))) (Kd.R_base ho0) hb); have n2_ := Aside0.mk (Kd.R_elder' (by (with_reducible repeat (first | apply Kd.R_alloc | apply Kd.R_drewN | apply Kd.R_drew)); exact (Kd.R_mono (Kd.R_far (p := ⟨gb315, 1, none⟩) (Kd.R_far (p := ⟨gb315, 0, none⟩) (Kd.R_types HO312.out BK315.out (by decide)) (fun _ hk => hk.2) (.slice Ao232 t310.length co232)) (fun _ hk => hk.2) (.bool t313)) (fun _ h_ => h_.1))) (Kd.R_base ho0) hb); have n3_ := Aside0.mk (Kd.R_lower (Kd.R_new' (Kd.R_new' (Kd.R_new' ho0 (Kd.R_lt (by (with_reducible repeat (first | apply Kd.R_alloc | apply Kd.R_drewN | apply Kd.R_drew)); exact (Kd.R_mono (Kd.R_far (p := ⟨gb315, 1, none⟩) (Kd.R_far (p := ⟨gb315, 0, none⟩) (Kd.R_types HO302.out BK315.out (by decide)) (fun _ hk => hk.2) (.slice Ao232 t310.length co232)) (fun _ hk => hk.2) (.bool t313)) (fun _ h_ => h_.1))))) (Kd.R_lt (by (with_reducible repeat (first | apply Kd.R_alloc | apply Kd.R_drewN | apply Kd.R_drew)); exact (Kd.R_mono (Kd.R_far (p := ⟨gb315, 1, none⟩) (Kd.R_far (p := ⟨gb315, 0, none⟩) (Kd.R_types HO306.out BK315.out (by decide)) (fun _ hk => hk.2) (.slice Ao232 t310.length co232)) (fun _ hk => hk.2) (.bool t313)) (fun _ h_ => h_.1))))) (Kd.R_lt (by (with_reducible repeat (first | apply Kd.R_alloc | apply Kd.R_drewN | apply Kd.R_drew)); exact (Kd.R_mono (Kd.R_far (p := ⟨gb315, 1, none⟩) (Kd.R_far (p := ⟨gb315, 0, none⟩) (Kd.R_types HO312.out BK315.out (by decide)) (fun _ hk => hk.2) (.slice Ao232 t310.length co232)) (fun _ hk => hk.2) (.bool t313)) (fun _ h_ => h_.1))))) (below_size hb_a)); have n4_ := Aside0.mk (blk_below (g := gb295) (o := .cells #[.slice A0_0 l0_0.length c0_0, .bool a0_1] 24 (0, 0)) (by (with_reducible repeat (first | refine blk_drewN ?_ _ | refine blk_drew ?_ | refine blk_alloc ?_ _)); refine blk_far ?_ NB295_315.out _; (with_reducible repeat (first | refine blk_drewN ?_ _ | refine blk_drew ?_ | refine blk_alloc ?_ _)); refine blk_far ?_ NB295_315.out _; (with_reducible repeat (first | refine blk_drewN ?_ _ | refine blk_drew ?_ | refine blk_alloc ?_ _)); exact BK295.out) hb); have n5_ := Aside0.mk (blk_below (g := gb296) (o := .cells #[.slice A1_0 l1_0.length c1_0, .bool a1_1] 24 (0, 0)) (by (with_reducible repeat (first | refine blk_drewN ?_ _ | refine blk_drew ?_ | refine blk_alloc ?_ _)); refine blk_far ?_ NB296_315.out _; (with_reducible repeat (first | refine blk_drewN ?_ _ | refine blk_drew ?_ | refine blk_alloc ?_ _)); refine blk_far ?_ NB296_315.out _; (with_reducible repeat (first | refine blk_drewN ?_ _ | refine blk_drew ?_ | refine blk_alloc ?_ _)); exact BK296.out) hb); have n6_ := Aside0.mk (blk_below (g := gb308) (o := .cells #[.slice Ao217 t300.length co217, .bool t303] 24 (0, 0)) (by (with_reducible repeat (first | refine blk_drewN ?_ _ | refine blk_drew ?_ | refine blk_alloc ?_ _)); refine blk_far ?_ NB308_315.out _; (with_reducible repeat (first | refine blk_drewN ?_ _ | refine blk_drew ?_ | refine blk_alloc ?_ _)); refine blk_far ?_ NB308_315.out _; (with_reducible repeat (first | refine blk_drewN ?_ _ | refine blk_drew ?_ | refine blk_alloc ?_ _)); exact BK308.out) hb); have n7_ := Aside0.mk (blk_below (g := gb309) (o := .cells #[.slice Ao220 t304.length co220, .bool t307] 24 (0, 0)) (by (with_reducible repeat (first | refine blk_drewN ?_ _ | refine blk_drew ?_ | refine blk_alloc ?_ _)); refine blk_far ?_ NB309_315.out _; (with_reducible repeat (first | refine blk_drewN ?_ _ | refine blk_drew ?_ | refine blk_alloc ?_ _)); refine blk_far ?_ NB309_315.out _; (with_reducible repeat (first | refine blk_drewN ?_ _ | refine blk_drew ?_ | refine blk_alloc ?_ _)); exact BK309.out) hb); have n8_ := Aside0.mk (blk_below (g := gb315) (o := .cells #[.slice Ao232 t310.length co232, .bool t313] 24 (0, 0)) (by (with_reducible repeat (first | refine blk_drewN ?_ _ | refine blk_drew ?_ | refine blk_alloc ?_ _)); refine blk_put (cs := #[.slice Ao232 t310.length co232, .bool false]) ?_ 1 _ rfl; (with_reducible repeat (first | refine blk_drewN ?_ _ | refine blk_drew ?_ | refine blk_alloc ?_ _)); refine blk_put (cs := #[.slice none 0 0, .bool false]) ?_ 0 _ rfl; (with_reducible repeat (first | refine blk_drewN ?_ _ | refine blk_drew ?_ | refine blk_alloc ?_ _)); exact BK315.out) hb); have n9_ := Aside0.mk (below_step hb_a hb); clear HO302; clear HO306; clear HO312; clear BK295; clear BK296; clear BK308; clear BK309; clear BK315; clear HB; have HO302 := n0_; have HO306 := n1_; have HO312 := n2_; have HO318 := n3_; have BK295 := n4_; have BK296 := n5_; have BK308 := n6_; have BK309 := n7_; have BK315 := n8_; have HB := n9_; clear n0_ n1_ n2_ n3_ n4_ n5_ n6_ n7_ n8_ n9_; (try clear hb); (try clear hb2); (try clear hk); (try clear hi); (try clear ho0)) | ((with_reducible refine gate_dst (N := 9) rfl ?_); refine box_event ?hg (N := 9) ?hd (cs := #[.slice none 0 0, .bool false]) (t := 24) ?hr ?_; (case hd => rfl); (case hg => rfl); (case hr => first | (go_simp; done) | (go_simp; rfl)); intro gb321 hg w241 hbox hb; have n0_ := Aside0.mk (Kd.R_below (by (with_reducible repeat (first | apply Kd.R_alloc | apply Kd.R_drewN | apply Kd.R_drew)); exact HO302.out) hb); have n1_ := Aside0.mk (Kd.R_below (by (with_reducible repeat (first | apply Kd.R_alloc | apply Kd.R_drewN | apply Kd.R_drew)); exact HO306.out) hb); have n2_ := Aside0.mk (Kd.R_below (by (with_reducible repeat (first | apply Kd.R_alloc | apply Kd.R_drewN | apply Kd.R_drew)); exact HO312.out) hb); have n3_ := Aside0.mk (Kd.R_below (by (with_reducible repeat (first | apply Kd.R_alloc | apply Kd.R_drewN | apply Kd.R_drew)); exact HO318.out) hb); have n4_ := Aside0.mk (blk_below (g := gb295) (o := .cells #[.slice A0_0 l0_0.length c0_0, .bool a0_1] 24 (0, 0)) bk_a hb); have n5_ := Aside0.mk (blk_below (g := gb296) (o := .cells #[.slice A1_0 l1_0.length c1_0, .bool a1_1] 24 (0, 0)) bk_a hb); have n6_ := Aside0.mk (blk_below (g := gb308) (o := .cells #[.slice Ao217 t300.length co217, .bool t303] 24 (0, 0)) bk_a hb); have n7_ := Aside0.mk (blk_below (g := gb309) (o := .cells #[.slice Ao220 t304.length co220, .bool t307] 24 (0, 0)) bk_a hb); have n8_ := Aside0.mk (blk_below (g := gb315) (o := .cells #[.slice Ao232 t310.length co232, .bool t313] 24 (0, 0)) bk_a hb); have n9_ := Aside0.mk (below_step hb_a hb); have n10_ := Aside0.mk (hbox); have n11_ := Aside0.mk ((by rw [hg]; exact (below_size hb_a) : w.heap.size ≤ gb321)); have n12_ := Aside0.mk ((by rw [hg]; exact (below_size hb_a) : w.heap.size ≤ gb321)); have n13_ := Aside0.mk ((by rw [hg]; exact Nat.ne_of_lt (blk_lt (g := gb295) (o := .cells #[.slice A0_0 l0_0.length c0_0, .bool a0_1] 24 (0, 0)) bk_a) : gb295 ≠ gb321)); have n14_ := Aside0.mk ((by rw [hg]; exact Nat.ne_of_gt (blk_lt (g := gb295) (o := .cells #[.slice A0_0 l0_0.length c0_0, .bool a0_1] 24 (0, 0)) bk_a) : gb321 ≠ gb295)); have n15_ := Aside0.mk ((by rw [hg]; exact Nat.ne_of_lt (blk_lt (g := gb296) (o := .cells #[.slice A1_0 l1_0.length c1_0, .bool a1_1] 24 (0, 0)) bk_a) : gb296 ≠ gb321)); have n16_ := Aside0.mk ((by rw [hg]; exact Nat.ne_of_gt (blk_lt (g := gb296) (o := .cells #[.slice A1_0 l1_0.length c1_0, .bool a1_1] 24 (0, 0)) bk_a) : gb321 ≠ gb296)); have n17_ := Aside0.mk ((by rw [hg]; exact Nat.ne_of_lt (blk_lt (g := gb308) (o := .cells #[.slice Ao217 t300.length co217, .bool t303] 24 (0, 0)) bk_a) : gb308 ≠ gb321)); have n18_ := Aside0.mk ((by rw [hg]; exact Nat.ne_of_gt (blk_lt (g := gb308) (o := .cells #[.slice Ao217 t300.length co217, .bool t303] 24 (0, 0)) bk_a) : gb321 ≠ gb308)); have n19_ := Aside0.mk ((by rw [hg]; exact Nat.ne_of_lt (blk_lt (g := gb309) (o := .cells #[.slice Ao220 t304.length co220, .bool t307] 24 (0, 0)) bk_a) : gb309 ≠ gb321)); have n20_ := Aside0.mk ((by rw [hg]; exact Nat.ne_of_gt (blk_lt (g := gb309) (o := .cells #[.slice Ao220 t304.length co220, .bool t307] 24 (0, 0)) bk_a) : gb321 ≠ gb309)); have n21_ := Aside0.mk ((by rw [hg]; exact Nat.ne_of_lt (blk_lt (g := gb315) (o := .cells #[.slice Ao232 t310.length co232, .bool t313] 24 (0, 0)) bk_a) : gb315 ≠ gb321)); have n22_ := Aside0.mk ((by rw [hg]; exact Nat.ne_of_gt (blk_lt (g := gb315) (o := .cells #[.slice Ao232 t310.length co232, .bool t313] 24 (0, 0)) bk_a) : gb321 ≠ gb315)); clear HO302; clear HO306; clear HO312; clear HO318; clear BK295; clear BK296; clear BK308; clear BK309; clear BK315; clear HB; have HO302 := n0_; have HO306 := n1_; have HO312 := n2_; have HO318 := n3_; have BK295 := n4_; have BK296 := n5_; have BK308 := n6_; have BK309 := n7_; have BK315 := n8_; have HB := n9_; have BK321 := n10_; have GW321 := n11_; have GE321 := n12_; have NB295_321 := n13_; have NB321_295 := n14_; have NB296_321 := n15_; have NB321_296 := n16_; have NB308_321 := n17_; have NB321_308 := n18_; have NB309_321 := n19_; have NB321_309 := n20_; have NB315_321 := n21_; have NB321_315 := n22_; clear n0_ n1_ n2_ n3_ n4_ n5_ n6_ n7_ n8_ n9_ n10_ n11_ n12_ n13_ n14_ n15_ n16_ n17_ n18_ n19_ n20_ n21_ n22_; clear hb hbox hg; obtain ⟨Ao242, co242, eo242⟩ := Kd.R_slice HO318.out; subst eo242; have hnb243 := NB321_295.out; have hnc243 := NB295_321.out; have hnb244 := NB321_296.out; have hnc244 := NB296_321.out; have hnb245 := NB321_308.out; have hnc245 := NB308_321.out; have hnb246 := NB321_309.out; have hnc246 := NB309_321.out; have hnb247 := NB321_315.out; have hnc247 := NB315_321.out; have hcz248_0 : w241.cell? ⟨gb321, 0, none⟩ = some (.slice none 0 0) := (blk_cell BK321.out 0).trans rfl; have hcz248_1 : w241.cell? ⟨gb321, 1, none⟩ = some (.bool false) := (blk_cell BK321.out 1).trans rfl; have hfz248_0 := blk_frozen BK321.out 0; have hfz248_1 := blk_frozen BK321.out 1))
          go_ret
          exact ⟨by first | rfl | (simp [errW_none, errW_some] <;> rfl) | (simp [*, errW_none, errW_some] <;> rfl), hb_a⟩

end Go.Proofs.YtcpnmcbgcgkieaaDoor.P

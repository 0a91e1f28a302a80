-- Written by a program of this session (wip/gen.py) over the kit's print: each Go function as a plain Lean function, and the proof that the Go code comes to it. Nothing here is trusted: Lean checks it.
import Derived.Test.YtcpnmcbgcgkieaaDoorPx0
import Derived.Test.YtcpnmcbgcgkieaaDoorPx1
import Derived.Test.YtcpnmcbgcgkieaaDoorPx2
import Derived.Test.YtcpnmcbgcgkieaaDoorPx3
import Derived.Test.YtcpnmcbgcgkieaaDoorPx7
import Derived.Test.YtcpnmcbgcgkieaaDoorPx19
namespace Go.Proofs.YtcpnmcbgcgkieaaDoor.P
open Go.RowKit Go.Proofs.YtcpnmcbgcgkieaaDoorW.PrintWords Go.Proofs.YtcpnmcbgcgkieaaDoorW.PrintLast Go.Proofs.YtcpnmcbgcgkieaaDoorW.PrintMore
attribute [local go_sem] str_gtr str_leq str_geq max2_int min2_int max_two min_two max_three min_three max_four min_four   -- for this text's walks alone
set_option linter.unusedVariables false
set_option linter.unusedSimpArgs false

/-! ### stockyardlaw03_PatternOutside: function 8 -/
mutual
def stockyardlaw03_PatternOutside.j0 : Nat → Bool → List ByteArray → Bool → List ByteArray → Bool → Option (Bool)
  | 0, _, _, _, _, _ => none
  | k + 1, x31, x513000, x513001, x514000, x514001 => if x31 = true then ((stockyardlaw03_awake.f k).bind fun t518 => (some t518)) else (if x513001 = true then (stockyardlaw03_PatternOutside.j1 k 1 13 x513000 x513001 x514000 x514001) else (stockyardlaw03_PatternOutside.j1 k 0 0 x513000 x513001 x514000 x514001))
def stockyardlaw03_PatternOutside.j1 : Nat → Int → Int → List ByteArray → Bool → List ByteArray → Bool → Option (Bool)
  | 0, _, _, _, _, _, _ => none
  | k + 1, x5, x6, x513000, x513001, x514000, x514001 => stockyardlaw03_PatternOutside.l0 k x6 true x5 x513000 x513001 x514000 x514001
def stockyardlaw03_PatternOutside.l0 : Nat → Int → Bool → Int → List ByteArray → Bool → List ByteArray → Bool → Option (Bool)
  | 0, _, _, _, _, _, _, _ => none
  | k + 1, x6, x7, x8, x513000, x513001, x514000, x514001 => if x8 ≤ x6 then ((stockyardlaw03_witness.f k x513000 x513001 x514000 x514001 x8).bind fun t521 => ((pattern_Match.f k x513000 x513001 t521).bind fun bt522 => (if bt522.2 = true then ((pattern_Match.f k x514000 x514001 t521).bind fun bt526 => (if x7 = true then (stockyardlaw03_PatternOutside.l0 k x6 bt526.2 (wrap64 (x8 + 1)) x513000 x513001 x514000 x514001) else (stockyardlaw03_PatternOutside.l0 k x6 false (wrap64 (x8 + 1)) x513000 x513001 x514000 x514001))) else (some false)))) else ((pattern_Within.f k x513000 x513001 x514000 x514001).bind fun t519 => (if (t519 == x7) = true then ((stockyardlaw03_awake.f k).bind fun t520 => (some t520)) else (some false)))
end
def stockyardlaw03_PatternOutside.f (k : Nat) (l0_0 : List ByteArray) (a0_1 : Bool) (l1_0 : List ByteArray) (a1_1 : Bool) : Option (Bool) := (stockyardlaw03_small.f k l0_0 a0_1).bind fun t514 => (if t514 = true then ((stockyardlaw03_small.f k l1_0 a1_1).bind fun t515 => (if t515 = true then ((pattern_Check.f k l0_0 a0_1).bind fun t516 => (if t516 = 0 then ((pattern_Check.f k l1_0 a1_1).bind fun t517 => (stockyardlaw03_PatternOutside.j0 k (t517 != 0) l0_0 a0_1 l1_0 a1_1)) else (stockyardlaw03_PatternOutside.j0 k true l0_0 a0_1 l1_0 a1_1))) else (stockyardlaw03_PatternOutside.j0 k true l0_0 a0_1 l1_0 a1_1))) else (stockyardlaw03_PatternOutside.j0 k true l0_0 a0_1 l1_0 a1_1))
theorem stockyardlaw03_PatternOutside.mono_l : ∀ k, (∀ y0 y1 y2 y3 y4, LeO (stockyardlaw03_PatternOutside.j0 k y0 y1 y2 y3 y4) (stockyardlaw03_PatternOutside.j0 (k + 1) y0 y1 y2 y3 y4)) ∧ (∀ y0 y1 y2 y3 y4 y5, LeO (stockyardlaw03_PatternOutside.j1 k y0 y1 y2 y3 y4 y5) (stockyardlaw03_PatternOutside.j1 (k + 1) y0 y1 y2 y3 y4 y5)) ∧ (∀ y0 y1 y2 y3 y4 y5 y6, LeO (stockyardlaw03_PatternOutside.l0 k y0 y1 y2 y3 y4 y5 y6) (stockyardlaw03_PatternOutside.l0 (k + 1) y0 y1 y2 y3 y4 y5 y6))
  | 0 => ⟨fun _ _ _ _ _ r h => by simp [stockyardlaw03_PatternOutside.j0] at h, fun _ _ _ _ _ _ r h => by simp [stockyardlaw03_PatternOutside.j1] at h, fun _ _ _ _ _ _ _ r h => by simp [stockyardlaw03_PatternOutside.l0] at h⟩
  | k + 1 => by
    obtain ⟨ih0, ih1, ih2⟩ := stockyardlaw03_PatternOutside.mono_l k
    refine ⟨?_, ?_, ?_⟩
    · intro y0 y1 y2 y3 y4
      unfold stockyardlaw03_PatternOutside.j0
      repeat' first
      | (with_reducible exact ih0 _ _ _ _ _)
      | (with_reducible exact ih1 _ _ _ _ _ _)
      | (with_reducible exact ih2 _ _ _ _ _ _ _)
      | (with_reducible exact pattern_Check.mono _ _ _)
      | (with_reducible exact pattern_Match.mono _ _ _ _)
      | (with_reducible exact pattern_Within.mono _ _ _ _ _)
      | (with_reducible exact stockyardlaw03_awake.mono _)
      | (with_reducible exact stockyardlaw03_small.mono _ _ _)
      | (with_reducible exact stockyardlaw03_witness.mono _ _ _ _ _ _)
      | (with_reducible exact LeO.refl _)
      | (with_reducible exact LeO.none _)
      | (with_reducible refine LeO.ite ?_ ?_)
      | (with_reducible refine LeO.bind ?_ (fun _ => ?_))
      | exact ih0 _ _ _ _ _
      | exact ih1 _ _ _ _ _ _
      | exact ih2 _ _ _ _ _ _ _
      | exact pattern_Check.mono _ _ _
      | exact pattern_Match.mono _ _ _ _
      | exact pattern_Within.mono _ _ _ _ _
      | exact stockyardlaw03_awake.mono _
      | exact stockyardlaw03_small.mono _ _ _
      | exact stockyardlaw03_witness.mono _ _ _ _ _ _
      | exact LeO.none _
      | refine LeO.ite ?_ ?_
      | refine LeO.bind ?_ (fun _ => ?_)
    · intro y0 y1 y2 y3 y4 y5
      unfold stockyardlaw03_PatternOutside.j1
      repeat' first
      | (with_reducible exact ih0 _ _ _ _ _)
      | (with_reducible exact ih1 _ _ _ _ _ _)
      | (with_reducible exact ih2 _ _ _ _ _ _ _)
      | (with_reducible exact pattern_Check.mono _ _ _)
      | (with_reducible exact pattern_Match.mono _ _ _ _)
      | (with_reducible exact pattern_Within.mono _ _ _ _ _)
      | (with_reducible exact stockyardlaw03_awake.mono _)
      | (with_reducible exact stockyardlaw03_small.mono _ _ _)
      | (with_reducible exact stockyardlaw03_witness.mono _ _ _ _ _ _)
      | (with_reducible exact LeO.refl _)
      | (with_reducible exact LeO.none _)
      | (with_reducible refine LeO.ite ?_ ?_)
      | (with_reducible refine LeO.bind ?_ (fun _ => ?_))
      | exact ih0 _ _ _ _ _
      | exact ih1 _ _ _ _ _ _
      | exact ih2 _ _ _ _ _ _ _
      | exact pattern_Check.mono _ _ _
      | exact pattern_Match.mono _ _ _ _
      | exact pattern_Within.mono _ _ _ _ _
      | exact stockyardlaw03_awake.mono _
      | exact stockyardlaw03_small.mono _ _ _
      | exact stockyardlaw03_witness.mono _ _ _ _ _ _
      | exact LeO.none _
      | refine LeO.ite ?_ ?_
      | refine LeO.bind ?_ (fun _ => ?_)
    · intro y0 y1 y2 y3 y4 y5 y6
      unfold stockyardlaw03_PatternOutside.l0
      repeat' first
      | (with_reducible exact ih0 _ _ _ _ _)
      | (with_reducible exact ih1 _ _ _ _ _ _)
      | (with_reducible exact ih2 _ _ _ _ _ _ _)
      | (with_reducible exact pattern_Check.mono _ _ _)
      | (with_reducible exact pattern_Match.mono _ _ _ _)
      | (with_reducible exact pattern_Within.mono _ _ _ _ _)
      | (with_reducible exact stockyardlaw03_awake.mono _)
      | (with_reducible exact stockyardlaw03_small.mono _ _ _)
      | (with_reducible exact stockyardlaw03_witness.mono _ _ _ _ _ _)
      | (with_reducible exact LeO.refl _)
      | (with_reducible exact LeO.none _)
      | (with_reducible refine LeO.ite ?_ ?_)
      | (with_reducible refine LeO.bind ?_ (fun _ => ?_))
      | exact ih0 _ _ _ _ _
      | exact ih1 _ _ _ _ _ _
      | exact ih2 _ _ _ _ _ _ _
      | exact pattern_Check.mono _ _ _
      | exact pattern_Match.mono _ _ _ _
      | exact pattern_Within.mono _ _ _ _ _
      | exact stockyardlaw03_awake.mono _
      | exact stockyardlaw03_small.mono _ _ _
      | exact stockyardlaw03_witness.mono _ _ _ _ _ _
      | exact LeO.none _
      | refine LeO.ite ?_ ?_
      | refine LeO.bind ?_ (fun _ => ?_)
theorem stockyardlaw03_PatternOutside.mono : ∀ a0 a1 a2 a3 k, LeO (stockyardlaw03_PatternOutside.f k a0 a1 a2 a3) (stockyardlaw03_PatternOutside.f (k + 1) a0 a1 a2 a3) := by
  intro a0 a1 a2 a3 k
  obtain ⟨ih0, ih1, ih2⟩ := stockyardlaw03_PatternOutside.mono_l k
  unfold stockyardlaw03_PatternOutside.f
  repeat' first
      | (with_reducible exact ih0 _ _ _ _ _)
      | (with_reducible exact ih1 _ _ _ _ _ _)
      | (with_reducible exact ih2 _ _ _ _ _ _ _)
      | (with_reducible exact pattern_Check.mono _ _ _)
      | (with_reducible exact pattern_Match.mono _ _ _ _)
      | (with_reducible exact pattern_Within.mono _ _ _ _ _)
      | (with_reducible exact stockyardlaw03_awake.mono _)
      | (with_reducible exact stockyardlaw03_small.mono _ _ _)
      | (with_reducible exact stockyardlaw03_witness.mono _ _ _ _ _ _)
      | (with_reducible exact LeO.refl _)
      | (with_reducible exact LeO.none _)
      | (with_reducible refine LeO.ite ?_ ?_)
      | (with_reducible refine LeO.bind ?_ (fun _ => ?_))
      | exact ih0 _ _ _ _ _
      | exact ih1 _ _ _ _ _ _
      | exact ih2 _ _ _ _ _ _ _
      | exact pattern_Check.mono _ _ _
      | exact pattern_Match.mono _ _ _ _
      | exact pattern_Within.mono _ _ _ _ _
      | exact stockyardlaw03_awake.mono _
      | exact stockyardlaw03_small.mono _ _ _
      | exact stockyardlaw03_witness.mono _ _ _ _ _ _
      | exact LeO.none _
      | refine LeO.ite ?_ ?_
      | refine LeO.bind ?_ (fun _ => ?_)
set_option maxHeartbeats 8000000 in
set_option maxRecDepth 100000 in
theorem stockyardlaw03_PatternOutside.calls (k : Nat) (A0_0 : Option Addr) (c0_0 : Nat) (l0_0 : List ByteArray) (a0_1 : Bool) (A1_0 : Option Addr) (c1_0 : Nat) (l1_0 : List ByteArray) (a1_1 : Bool) (r : Bool) (w : World) (hr0_0 : Kd.C Kd.string w A0_0 l0_0.length l0_0) (hc0_0 : l0_0.length ≤ c0_0) (hr1_0 : Kd.C Kd.string w A1_0 l1_0.length l1_0) (hc1_0 : l1_0.length ≤ c1_0) (h : stockyardlaw03_PatternOutside.f k l0_0 a0_1 l1_0 a1_1 = some r) :
    Calls Tryd.prog 8 #[.agg #[.slice A0_0 l0_0.length c0_0, .bool a0_1], .agg #[.slice A1_0 l1_0.length c1_0, .bool a1_1]] w fun e w' => e = .returned (.bool r) ∧ Below w.heap.size w w' := by
  have hu24 := Tryd.underlying24
  have HR0_0 := Aside0.mk hr0_0
  have HC0_0 := Aside0.mk hc0_0
  clear hr0_0 hc0_0
  have HR1_0 := Aside0.mk hr1_0
  have HC1_0 := Aside0.mk hc1_0
  clear hr1_0 hc1_0
  have HB := Aside0.mk (Below.refl w.heap.size w)
  have H : ((stockyardlaw03_small.f k l0_0 a0_1).bind fun t514 => (if t514 = true then ((stockyardlaw03_small.f k l1_0 a1_1).bind fun t515 => (if t515 = true then ((pattern_Check.f k l0_0 a0_1).bind fun t516 => (if t516 = 0 then ((pattern_Check.f k l1_0 a1_1).bind fun t517 => (stockyardlaw03_PatternOutside.j0 k (t517 != 0) l0_0 a0_1 l1_0 a1_1)) else (stockyardlaw03_PatternOutside.j0 k true l0_0 a0_1 l1_0 a1_1))) else (stockyardlaw03_PatternOutside.j0 k true l0_0 a0_1 l1_0 a1_1))) else (stockyardlaw03_PatternOutside.j0 k true l0_0 a0_1 l1_0 a1_1))) = some r := h
  clear h
  have HC3 := Aside0.mk H
  clear H
  go_enter Tryd.func8, Tryd.ntmps8
  go_upto_region 1 with (first | ((with_reducible refine gate_dst (N := 2) rfl ?_); refine box_event ?hg (N := 2) ?hd (cs := #[.slice A0_0 l0_0.length c0_0, .bool a0_1]) (t := 24) ?hr ?_; (case hd => rfl); (case hg => rfl); (case hr => first | (go_simp; done) | (go_simp; rfl)); intro gb512 hg w4 hbox hb; have n0_ := Aside0.mk (below_step (by repeat (first | (with_reducible first | exact HB.out | apply below_alloc | apply pw_below_drewN | apply below_drew1) | exact HB.out)) hb); have n1_ := Aside0.mk (hbox); have n2_ := Aside0.mk ((by rw [hg]; exact (below_size (by repeat (first | (with_reducible first | exact HB.out | apply below_alloc | apply pw_below_drewN | apply below_drew1) | exact HB.out))) : w.heap.size ≤ gb512)); have n3_ := Aside0.mk ((by rw [hg]; exact (below_size (by repeat (first | (with_reducible first | exact HB.out | apply below_alloc | apply pw_below_drewN | apply below_drew1) | exact HB.out))) : w.heap.size ≤ gb512)); clear HB; have HB := n0_; have BK512 := n1_; have GW512 := n2_; have GE512 := n3_; clear n0_ n1_ n2_ n3_; clear hb hbox hg) | ((with_reducible refine gate_dst (N := 3) rfl ?_); refine box_event ?hg (N := 3) ?hd (cs := #[.slice A1_0 l1_0.length c1_0, .bool a1_1]) (t := 24) ?hr ?_; (case hd => rfl); (case hg => rfl); (case hr => first | (go_simp; done) | (go_simp; rfl)); intro gb513 hg w5 hbox hb; have n0_ := Aside0.mk (blk_below (g := gb512) (o := .cells #[.slice A0_0 l0_0.length c0_0, .bool a0_1] 24 (0, 0)) (by (with_reducible repeat (first | refine blk_drewN ?_ _ | refine blk_drew ?_ | refine blk_alloc ?_ _)); exact BK512.out) hb); have n1_ := Aside0.mk (below_step (by repeat (first | (with_reducible first | exact HB.out | apply below_alloc | apply pw_below_drewN | apply below_drew1 | refine below_set ?_ GE512.out) | exact HB.out)) hb); have n2_ := Aside0.mk (hbox); have n3_ := Aside0.mk ((by rw [hg]; exact (below_size (by repeat (first | (with_reducible first | exact HB.out | apply below_alloc | apply pw_below_drewN | apply below_drew1 | refine below_set ?_ GE512.out) | exact HB.out))) : w.heap.size ≤ gb513)); have n4_ := Aside0.mk ((by rw [hg]; exact (below_size (by repeat (first | (with_reducible first | exact HB.out | apply below_alloc | apply pw_below_drewN | apply below_drew1 | refine below_set ?_ GE512.out) | exact HB.out))) : w.heap.size ≤ gb513)); have n5_ := Aside0.mk ((by rw [hg]; exact Nat.ne_of_lt (blk_lt (g := gb512) (o := .cells #[.slice A0_0 l0_0.length c0_0, .bool a0_1] 24 (0, 0)) (by (with_reducible repeat (first | refine blk_drewN ?_ _ | refine blk_drew ?_ | refine blk_alloc ?_ _)); exact BK512.out)) : gb512 ≠ gb513)); have n6_ := Aside0.mk ((by rw [hg]; exact Nat.ne_of_gt (blk_lt (g := gb512) (o := .cells #[.slice A0_0 l0_0.length c0_0, .bool a0_1] 24 (0, 0)) (by (with_reducible repeat (first | refine blk_drewN ?_ _ | refine blk_drew ?_ | refine blk_alloc ?_ _)); exact BK512.out)) : gb513 ≠ gb512)); clear BK512; clear HB; have BK512 := n0_; have HB := n1_; have BK513 := n2_; have GW513 := n3_; have GE513 := n4_; have NB512_513 := n5_; have NB513_512 := n6_; clear n0_ n1_ n2_ n3_ n4_ n5_ n6_; clear hb hbox hg))
  (try simp only [Act.put, List.setIfInBounds_toArray, List.set_cons_zero, List.set_cons_succ])
  go_cut [31] (fun v31 wc => ∃ (kq : Nat) (x31_2 : Bool), v31 = .bool x31_2 ∧ Aside0 (stockyardlaw03_PatternOutside.j0 kq x31_2 l0_0 a0_1 l1_0 a1_1 = some r) ∧ Aside0 (kq ≤ k) ∧ Aside0 (wc.heap[gb512]? = some (.cells #[(.slice A0_0 l0_0.length c0_0), .bool a0_1] 24 (0, 0))) ∧ Aside0 (wc.heap[gb513]? = some (.cells #[(.slice A1_0 l1_0.length c1_0), .bool a1_1] 24 (0, 0))) ∧ Aside0 (Below w.heap.size w wc))
  case first =>
    have H := HC3.out
    clear HC3
    replace H := Option.bind_eq_some_iff.mp H
    obtain ⟨t514, A60, H⟩ := H
    replace H : (if t514 = true then ((stockyardlaw03_small.f k l1_0 a1_1).bind fun t515 => (if t515 = true then ((pattern_Check.f k l0_0 a0_1).bind fun t516 => (if t516 = 0 then ((pattern_Check.f k l1_0 a1_1).bind fun t517 => (stockyardlaw03_PatternOutside.j0 k (t517 != 0) l0_0 a0_1 l1_0 a1_1)) else (stockyardlaw03_PatternOutside.j0 k true l0_0 a0_1 l1_0 a1_1))) else (stockyardlaw03_PatternOutside.j0 k true l0_0 a0_1 l1_0 a1_1))) else (stockyardlaw03_PatternOutside.j0 k true l0_0 a0_1 l1_0 a1_1)) = some r := H
    have A6 := Aside0.mk A60
    clear A60
    by_cases c7 : t514 = true
    · subst c7
      have H1 : ((stockyardlaw03_small.f k l1_0 a1_1).bind fun t515 => (if t515 = true then ((pattern_Check.f k l0_0 a0_1).bind fun t516 => (if t516 = 0 then ((pattern_Check.f k l1_0 a1_1).bind fun t517 => (stockyardlaw03_PatternOutside.j0 k (t517 != 0) l0_0 a0_1 l1_0 a1_1)) else (stockyardlaw03_PatternOutside.j0 k true l0_0 a0_1 l1_0 a1_1))) else (stockyardlaw03_PatternOutside.j0 k true l0_0 a0_1 l1_0 a1_1))) = some r := by rw [if_pos rfl] at H; exact H
      clear H
      have H := H1
      clear H1
      replace H := Option.bind_eq_some_iff.mp H
      obtain ⟨t515, A80, H⟩ := H
      replace H : (if t515 = true then ((pattern_Check.f k l0_0 a0_1).bind fun t516 => (if t516 = 0 then ((pattern_Check.f k l1_0 a1_1).bind fun t517 => (stockyardlaw03_PatternOutside.j0 k (t517 != 0) l0_0 a0_1 l1_0 a1_1)) else (stockyardlaw03_PatternOutside.j0 k true l0_0 a0_1 l1_0 a1_1))) else (stockyardlaw03_PatternOutside.j0 k true l0_0 a0_1 l1_0 a1_1)) = some r := H
      have A8 := Aside0.mk A80
      clear A80
      by_cases c9 : t515 = true
      · subst c9
        have H1 : ((pattern_Check.f k l0_0 a0_1).bind fun t516 => (if t516 = 0 then ((pattern_Check.f k l1_0 a1_1).bind fun t517 => (stockyardlaw03_PatternOutside.j0 k (t517 != 0) l0_0 a0_1 l1_0 a1_1)) else (stockyardlaw03_PatternOutside.j0 k true l0_0 a0_1 l1_0 a1_1))) = some r := by rw [if_pos rfl] at H; exact H
        clear H
        have H := H1
        clear H1
        replace H := Option.bind_eq_some_iff.mp H
        obtain ⟨t516, A100, H⟩ := H
        replace H : (if t516 = 0 then ((pattern_Check.f k l1_0 a1_1).bind fun t517 => (stockyardlaw03_PatternOutside.j0 k (t517 != 0) l0_0 a0_1 l1_0 a1_1)) else (stockyardlaw03_PatternOutside.j0 k true l0_0 a0_1 l1_0 a1_1)) = some r := H
        have A10 := Aside0.mk A100
        clear A100
        by_cases c11 : t516 = 0
        · rw [if_pos c11] at H
          have c11b0 : (t516 == 0) = true := beq_iff_eq.mpr c11
          have c11b1 : (t516 != 0) = false := bne_eq_false_iff_eq.mpr c11
          clear c11
          (first | rw [c11b0] | (simp only [i64_w, i32_w]; rw [c11b0]) | skip)
          replace H := Option.bind_eq_some_iff.mp H
          obtain ⟨t517, A120, H⟩ := H
          replace H : (stockyardlaw03_PatternOutside.j0 k (t517 != 0) l0_0 a0_1 l1_0 a1_1) = some r := H
          have A12 := Aside0.mk A120
          clear A120
          have H' := Aside0.mk H
          clear H
          have hnb13 := NB512_513.out
          have hnc13 := NB513_512.out
          have hcz14_0 : w5.cell? ⟨gb512, 0, none⟩ = some (.slice A0_0 l0_0.length c0_0) := (blk_cell BK512.out 0).trans rfl
          have hcz14_1 : w5.cell? ⟨gb512, 1, none⟩ = some (.bool a0_1) := (blk_cell BK512.out 1).trans rfl
          have hfz14_0 := blk_frozen BK512.out 0
          have hfz14_1 := blk_frozen BK512.out 1
          go_wp2_with (first | ((with_reducible refine gate_callee (f := 11) rfl ?_); refine goesL_ (some 15) rfl rfl Tryd.func11 (by kernel_rfl) rfl #[.agg #[.slice A0_0 l0_0.length c0_0, .bool a0_1]] rfl (by (try simp only [List.map_toArray, List.map_cons, List.map_nil]); first | done | rfl | (simp only [List.length_drop, List.length_take]; rfl)) ?_; (with_reducible refine (stockyardlaw03_small.calls k _ _ l0_0 a0_1 true _ ?side1 ?side2 A6.out).mono ?_); (case side1 => repeat (first | exact (Kd.C_below HR0_0.out HB.out) | (with_reducible refine Kd.C_alloc ?_ _) | (with_reducible refine Kd.C_drewN ?_ _) | (with_reducible refine Kd.C_drew ?_))); (case side2 => exact HC0_0.out); rintro e w15 ⟨rfl, hb⟩; refine ⟨_, rfl, ?_⟩; have n0_ := Aside0.mk (blk_below (g := gb512) (o := .cells #[.slice A0_0 l0_0.length c0_0, .bool a0_1] 24 (0, 0)) (by (with_reducible repeat (first | refine blk_drewN ?_ _ | refine blk_drew ?_ | refine blk_alloc ?_ _)); exact BK512.out) hb); have n1_ := Aside0.mk (blk_below (g := gb513) (o := .cells #[.slice A1_0 l1_0.length c1_0, .bool a1_1] 24 (0, 0)) (by (with_reducible repeat (first | refine blk_drewN ?_ _ | refine blk_drew ?_ | refine blk_alloc ?_ _)); exact BK513.out) hb); have n2_ := Aside0.mk (below_step (by repeat (first | (with_reducible first | exact HB.out | apply below_alloc | apply pw_below_drewN | apply below_drew1 | refine below_set ?_ GE512.out | refine below_set ?_ GE513.out) | exact HB.out)) hb); clear BK512; clear BK513; clear HB; have BK512 := n0_; have BK513 := n1_; have HB := n2_; clear n0_ n1_ n2_; (try clear hb); (try clear hb2); (try clear hk); (try clear hi); have hcz16_0 : w15.cell? ⟨gb513, 0, none⟩ = some (.slice A1_0 l1_0.length c1_0) := (blk_cell BK513.out 0).trans rfl; have hcz16_1 : w15.cell? ⟨gb513, 1, none⟩ = some (.bool a1_1) := (blk_cell BK513.out 1).trans rfl; have hfz16_0 := blk_frozen BK513.out 0; have hfz16_1 := blk_frozen BK513.out 1) | (go_at_call 11; (with_reducible refine (stockyardlaw03_small.calls k _ _ l1_0 a1_1 true _ ?side1 ?side2 A8.out).mono ?_); (case side1 => repeat (first | exact (Kd.C_below HR1_0.out HB.out) | (with_reducible refine Kd.C_alloc ?_ _) | (with_reducible refine Kd.C_drewN ?_ _) | (with_reducible refine Kd.C_drew ?_))); (case side2 => exact HC1_0.out); rintro e w17 ⟨rfl, hb⟩; have n0_ := Aside0.mk (blk_below (g := gb512) (o := .cells #[.slice A0_0 l0_0.length c0_0, .bool a0_1] 24 (0, 0)) (by (with_reducible repeat (first | refine blk_drewN ?_ _ | refine blk_drew ?_ | refine blk_alloc ?_ _)); exact BK512.out) hb); have n1_ := Aside0.mk (blk_below (g := gb513) (o := .cells #[.slice A1_0 l1_0.length c1_0, .bool a1_1] 24 (0, 0)) (by (with_reducible repeat (first | refine blk_drewN ?_ _ | refine blk_drew ?_ | refine blk_alloc ?_ _)); exact BK513.out) hb); have n2_ := Aside0.mk (below_step (by repeat (first | (with_reducible first | exact HB.out | apply below_alloc | apply pw_below_drewN | apply below_drew1 | refine below_set ?_ GE512.out | refine below_set ?_ GE513.out) | exact HB.out)) hb); clear BK512; clear BK513; clear HB; have BK512 := n0_; have BK513 := n1_; have HB := n2_; clear n0_ n1_ n2_; (try clear hb); (try clear hb2); (try clear hk); (try clear hi); have hcz18_0 : w17.cell? ⟨gb512, 0, none⟩ = some (.slice A0_0 l0_0.length c0_0) := (blk_cell BK512.out 0).trans rfl; have hcz18_1 : w17.cell? ⟨gb512, 1, none⟩ = some (.bool a0_1) := (blk_cell BK512.out 1).trans rfl; have hfz18_0 := blk_frozen BK512.out 0; have hfz18_1 := blk_frozen BK512.out 1) | (go_at_call 19; (with_reducible refine (pattern_Check.calls k _ _ l0_0 a0_1 t516 _ ?side1 ?side2 A10.out).mono ?_); (case side1 => repeat (first | exact (Kd.C_below HR0_0.out HB.out) | (with_reducible refine Kd.C_alloc ?_ _) | (with_reducible refine Kd.C_drewN ?_ _) | (with_reducible refine Kd.C_drew ?_))); (case side2 => exact HC0_0.out); rintro e w19 ⟨rfl, hb⟩; have n0_ := Aside0.mk (blk_below (g := gb512) (o := .cells #[.slice A0_0 l0_0.length c0_0, .bool a0_1] 24 (0, 0)) (by (with_reducible repeat (first | refine blk_drewN ?_ _ | refine blk_drew ?_ | refine blk_alloc ?_ _)); exact BK512.out) hb); have n1_ := Aside0.mk (blk_below (g := gb513) (o := .cells #[.slice A1_0 l1_0.length c1_0, .bool a1_1] 24 (0, 0)) (by (with_reducible repeat (first | refine blk_drewN ?_ _ | refine blk_drew ?_ | refine blk_alloc ?_ _)); exact BK513.out) hb); have n2_ := Aside0.mk (below_step (by repeat (first | (with_reducible first | exact HB.out | apply below_alloc | apply pw_below_drewN | apply below_drew1 | refine below_set ?_ GE512.out | refine below_set ?_ GE513.out) | exact HB.out)) hb); clear BK512; clear BK513; clear HB; have BK512 := n0_; have BK513 := n1_; have HB := n2_; clear n0_ n1_ n2_; (try clear hb); (try clear hb2); (try clear hk); (try clear hi); have hcz20_0 : w19.cell? ⟨gb513, 0, none⟩ = some (.slice A1_0 l1_0.length c1_0) := (blk_cell BK513.out 0).trans rfl; have hcz20_1 : w19.cell? ⟨gb513, 1, none⟩ = some (.bool a1_1) := (blk_cell BK513.out 1).trans rfl; have hfz20_0 := blk_frozen BK513.out 0; have hfz20_1 := blk_frozen BK513.out 1) | (go_at_call 19; (with_reducible refine (pattern_Check.calls k _ _ l1_0 a1_1 t517 _ ?side1 ?side2 A12.out).mono ?_); (case side1 => repeat (first | exact (Kd.C_below HR1_0.out HB.out) | (with_reducible refine Kd.C_alloc ?_ _) | (with_reducible refine Kd.C_drewN ?_ _) | (with_reducible refine Kd.C_drew ?_))); (case side2 => exact HC1_0.out); rintro e w21 ⟨rfl, hb⟩; have n0_ := Aside0.mk (blk_below (g := gb512) (o := .cells #[.slice A0_0 l0_0.length c0_0, .bool a0_1] 24 (0, 0)) (by (with_reducible repeat (first | refine blk_drewN ?_ _ | refine blk_drew ?_ | refine blk_alloc ?_ _)); exact BK512.out) hb); have n1_ := Aside0.mk (blk_below (g := gb513) (o := .cells #[.slice A1_0 l1_0.length c1_0, .bool a1_1] 24 (0, 0)) (by (with_reducible repeat (first | refine blk_drewN ?_ _ | refine blk_drew ?_ | refine blk_alloc ?_ _)); exact BK513.out) hb); have n2_ := Aside0.mk (below_step (by repeat (first | (with_reducible first | exact HB.out | apply below_alloc | apply pw_below_drewN | apply below_drew1 | refine below_set ?_ GE512.out | refine below_set ?_ GE513.out) | exact HB.out)) hb); clear BK512; clear BK513; clear HB; have BK512 := n0_; have BK513 := n1_; have HB := n2_; clear n0_ n1_ n2_; (try clear hb); (try clear hb2); (try clear hk); (try clear hi)))
          go_meet
          case rel => exact ⟨_, ((t517 != 0)), (by first | rfl | (simp; done) | (simp [*]; done)), H', ⟨by first | omega | exact Nat.le_refl _⟩, ⟨by (with_reducible repeat (first | refine blk_drewN ?_ _ | refine blk_drew ?_ | refine blk_alloc ?_ _)); exact BK512.out⟩, ⟨by (with_reducible repeat (first | refine blk_drewN ?_ _ | refine blk_drew ?_ | refine blk_alloc ?_ _)); exact BK513.out⟩, ⟨by repeat (first | (with_reducible first | exact HB.out | apply below_alloc | apply pw_below_drewN | apply below_drew1 | refine below_set ?_ GE512.out | refine below_set ?_ GE513.out) | exact HB.out)⟩⟩
        · rw [if_neg c11] at H
          have c11b0 : (t516 == 0) = false := beq_eq_false_iff_ne.mpr c11
          have c11b1 : (t516 != 0) = true := bne_iff_ne.mpr c11
          (first | rw [c11b0] | (simp only [i64_w, i32_w]; rw [c11b0]) | skip)
          have H' := Aside0.mk H
          clear H
          have hnb22 := NB512_513.out
          have hnc22 := NB513_512.out
          have hcz23_0 : w5.cell? ⟨gb512, 0, none⟩ = some (.slice A0_0 l0_0.length c0_0) := (blk_cell BK512.out 0).trans rfl
          have hcz23_1 : w5.cell? ⟨gb512, 1, none⟩ = some (.bool a0_1) := (blk_cell BK512.out 1).trans rfl
          have hfz23_0 := blk_frozen BK512.out 0
          have hfz23_1 := blk_frozen BK512.out 1
          go_wp2_with (first | ((with_reducible refine gate_callee (f := 11) rfl ?_); refine goesL_ (some 15) rfl rfl Tryd.func11 (by kernel_rfl) rfl #[.agg #[.slice A0_0 l0_0.length c0_0, .bool a0_1]] rfl (by (try simp only [List.map_toArray, List.map_cons, List.map_nil]); first | done | rfl | (simp only [List.length_drop, List.length_take]; rfl)) ?_; (with_reducible refine (stockyardlaw03_small.calls k _ _ l0_0 a0_1 true _ ?side1 ?side2 A6.out).mono ?_); (case side1 => repeat (first | exact (Kd.C_below HR0_0.out HB.out) | (with_reducible refine Kd.C_alloc ?_ _) | (with_reducible refine Kd.C_drewN ?_ _) | (with_reducible refine Kd.C_drew ?_))); (case side2 => exact HC0_0.out); rintro e w24 ⟨rfl, hb⟩; refine ⟨_, rfl, ?_⟩; have n0_ := Aside0.mk (blk_below (g := gb512) (o := .cells #[.slice A0_0 l0_0.length c0_0, .bool a0_1] 24 (0, 0)) (by (with_reducible repeat (first | refine blk_drewN ?_ _ | refine blk_drew ?_ | refine blk_alloc ?_ _)); exact BK512.out) hb); have n1_ := Aside0.mk (blk_below (g := gb513) (o := .cells #[.slice A1_0 l1_0.length c1_0, .bool a1_1] 24 (0, 0)) (by (with_reducible repeat (first | refine blk_drewN ?_ _ | refine blk_drew ?_ | refine blk_alloc ?_ _)); exact BK513.out) hb); have n2_ := Aside0.mk (below_step (by repeat (first | (with_reducible first | exact HB.out | apply below_alloc | apply pw_below_drewN | apply below_drew1 | refine below_set ?_ GE512.out | refine below_set ?_ GE513.out) | exact HB.out)) hb); clear BK512; clear BK513; clear HB; have BK512 := n0_; have BK513 := n1_; have HB := n2_; clear n0_ n1_ n2_; (try clear hb); (try clear hb2); (try clear hk); (try clear hi); have hcz25_0 : w24.cell? ⟨gb513, 0, none⟩ = some (.slice A1_0 l1_0.length c1_0) := (blk_cell BK513.out 0).trans rfl; have hcz25_1 : w24.cell? ⟨gb513, 1, none⟩ = some (.bool a1_1) := (blk_cell BK513.out 1).trans rfl; have hfz25_0 := blk_frozen BK513.out 0; have hfz25_1 := blk_frozen BK513.out 1) | (go_at_call 11; (with_reducible refine (stockyardlaw03_small.calls k _ _ l1_0 a1_1 true _ ?side1 ?side2 A8.out).mono ?_); (case side1 => repeat (first | exact (Kd.C_below HR1_0.out HB.out) | (with_reducible refine Kd.C_alloc ?_ _) | (with_reducible refine Kd.C_drewN ?_ _) | (with_reducible refine Kd.C_drew ?_))); (case side2 => exact HC1_0.out); rintro e w26 ⟨rfl, hb⟩; have n0_ := Aside0.mk (blk_below (g := gb512) (o := .cells #[.slice A0_0 l0_0.length c0_0, .bool a0_1] 24 (0, 0)) (by (with_reducible repeat (first | refine blk_drewN ?_ _ | refine blk_drew ?_ | refine blk_alloc ?_ _)); exact BK512.out) hb); have n1_ := Aside0.mk (blk_below (g := gb513) (o := .cells #[.slice A1_0 l1_0.length c1_0, .bool a1_1] 24 (0, 0)) (by (with_reducible repeat (first | refine blk_drewN ?_ _ | refine blk_drew ?_ | refine blk_alloc ?_ _)); exact BK513.out) hb); have n2_ := Aside0.mk (below_step (by repeat (first | (with_reducible first | exact HB.out | apply below_alloc | apply pw_below_drewN | apply below_drew1 | refine below_set ?_ GE512.out | refine below_set ?_ GE513.out) | exact HB.out)) hb); clear BK512; clear BK513; clear HB; have BK512 := n0_; have BK513 := n1_; have HB := n2_; clear n0_ n1_ n2_; (try clear hb); (try clear hb2); (try clear hk); (try clear hi); have hcz27_0 : w26.cell? ⟨gb512, 0, none⟩ = some (.slice A0_0 l0_0.length c0_0) := (blk_cell BK512.out 0).trans rfl; have hcz27_1 : w26.cell? ⟨gb512, 1, none⟩ = some (.bool a0_1) := (blk_cell BK512.out 1).trans rfl; have hfz27_0 := blk_frozen BK512.out 0; have hfz27_1 := blk_frozen BK512.out 1) | (go_at_call 19; (with_reducible refine (pattern_Check.calls k _ _ l0_0 a0_1 t516 _ ?side1 ?side2 A10.out).mono ?_); (case side1 => repeat (first | exact (Kd.C_below HR0_0.out HB.out) | (with_reducible refine Kd.C_alloc ?_ _) | (with_reducible refine Kd.C_drewN ?_ _) | (with_reducible refine Kd.C_drew ?_))); (case side2 => exact HC0_0.out); rintro e w28 ⟨rfl, hb⟩; have n0_ := Aside0.mk (blk_below (g := gb512) (o := .cells #[.slice A0_0 l0_0.length c0_0, .bool a0_1] 24 (0, 0)) (by (with_reducible repeat (first | refine blk_drewN ?_ _ | refine blk_drew ?_ | refine blk_alloc ?_ _)); exact BK512.out) hb); have n1_ := Aside0.mk (blk_below (g := gb513) (o := .cells #[.slice A1_0 l1_0.length c1_0, .bool a1_1] 24 (0, 0)) (by (with_reducible repeat (first | refine blk_drewN ?_ _ | refine blk_drew ?_ | refine blk_alloc ?_ _)); exact BK513.out) hb); have n2_ := Aside0.mk (below_step (by repeat (first | (with_reducible first | exact HB.out | apply below_alloc | apply pw_below_drewN | apply below_drew1 | refine below_set ?_ GE512.out | refine below_set ?_ GE513.out) | exact HB.out)) hb); clear BK512; clear BK513; clear HB; have BK512 := n0_; have BK513 := n1_; have HB := n2_; clear n0_ n1_ n2_; (try clear hb); (try clear hb2); (try clear hk); (try clear hi)))
          go_meet
          case rel => exact ⟨_, (true), (by first | rfl | (simp; done) | (simp [*]; done)), H', ⟨by first | omega | exact Nat.le_refl _⟩, ⟨by (with_reducible repeat (first | refine blk_drewN ?_ _ | refine blk_drew ?_ | refine blk_alloc ?_ _)); exact BK512.out⟩, ⟨by (with_reducible repeat (first | refine blk_drewN ?_ _ | refine blk_drew ?_ | refine blk_alloc ?_ _)); exact BK513.out⟩, ⟨by repeat (first | (with_reducible first | exact HB.out | apply below_alloc | apply pw_below_drewN | apply below_drew1 | refine below_set ?_ GE512.out | refine below_set ?_ GE513.out) | exact HB.out)⟩⟩
      · replace c9 := Bool.eq_false_iff.mpr c9
        subst c9
        have H1 : (stockyardlaw03_PatternOutside.j0 k true l0_0 a0_1 l1_0 a1_1) = some r := by rw [if_neg (show ¬ (false = true) by decide)] at H; exact H
        clear H
        have H := H1
        clear H1
        have H' := Aside0.mk H
        clear H
        have hnb29 := NB512_513.out
        have hnc29 := NB513_512.out
        have hcz30_0 : w5.cell? ⟨gb512, 0, none⟩ = some (.slice A0_0 l0_0.length c0_0) := (blk_cell BK512.out 0).trans rfl
        have hcz30_1 : w5.cell? ⟨gb512, 1, none⟩ = some (.bool a0_1) := (blk_cell BK512.out 1).trans rfl
        have hfz30_0 := blk_frozen BK512.out 0
        have hfz30_1 := blk_frozen BK512.out 1
        go_wp2_with (first | ((with_reducible refine gate_callee (f := 11) rfl ?_); refine goesL_ (some 15) rfl rfl Tryd.func11 (by kernel_rfl) rfl #[.agg #[.slice A0_0 l0_0.length c0_0, .bool a0_1]] rfl (by (try simp only [List.map_toArray, List.map_cons, List.map_nil]); first | done | rfl | (simp only [List.length_drop, List.length_take]; rfl)) ?_; (with_reducible refine (stockyardlaw03_small.calls k _ _ l0_0 a0_1 true _ ?side1 ?side2 A6.out).mono ?_); (case side1 => repeat (first | exact (Kd.C_below HR0_0.out HB.out) | (with_reducible refine Kd.C_alloc ?_ _) | (with_reducible refine Kd.C_drewN ?_ _) | (with_reducible refine Kd.C_drew ?_))); (case side2 => exact HC0_0.out); rintro e w31 ⟨rfl, hb⟩; refine ⟨_, rfl, ?_⟩; have n0_ := Aside0.mk (blk_below (g := gb512) (o := .cells #[.slice A0_0 l0_0.length c0_0, .bool a0_1] 24 (0, 0)) (by (with_reducible repeat (first | refine blk_drewN ?_ _ | refine blk_drew ?_ | refine blk_alloc ?_ _)); exact BK512.out) hb); have n1_ := Aside0.mk (blk_below (g := gb513) (o := .cells #[.slice A1_0 l1_0.length c1_0, .bool a1_1] 24 (0, 0)) (by (with_reducible repeat (first | refine blk_drewN ?_ _ | refine blk_drew ?_ | refine blk_alloc ?_ _)); exact BK513.out) hb); have n2_ := Aside0.mk (below_step (by repeat (first | (with_reducible first | exact HB.out | apply below_alloc | apply pw_below_drewN | apply below_drew1 | refine below_set ?_ GE512.out | refine below_set ?_ GE513.out) | exact HB.out)) hb); clear BK512; clear BK513; clear HB; have BK512 := n0_; have BK513 := n1_; have HB := n2_; clear n0_ n1_ n2_; (try clear hb); (try clear hb2); (try clear hk); (try clear hi); have hcz32_0 : w31.cell? ⟨gb513, 0, none⟩ = some (.slice A1_0 l1_0.length c1_0) := (blk_cell BK513.out 0).trans rfl; have hcz32_1 : w31.cell? ⟨gb513, 1, none⟩ = some (.bool a1_1) := (blk_cell BK513.out 1).trans rfl; have hfz32_0 := blk_frozen BK513.out 0; have hfz32_1 := blk_frozen BK513.out 1) | (go_at_call 11; (with_reducible refine (stockyardlaw03_small.calls k _ _ l1_0 a1_1 false _ ?side1 ?side2 A8.out).mono ?_); (case side1 => repeat (first | exact (Kd.C_below HR1_0.out HB.out) | (with_reducible refine Kd.C_alloc ?_ _) | (with_reducible refine Kd.C_drewN ?_ _) | (with_reducible refine Kd.C_drew ?_))); (case side2 => exact HC1_0.out); rintro e w33 ⟨rfl, hb⟩; have n0_ := Aside0.mk (blk_below (g := gb512) (o := .cells #[.slice A0_0 l0_0.length c0_0, .bool a0_1] 24 (0, 0)) (by (with_reducible repeat (first | refine blk_drewN ?_ _ | refine blk_drew ?_ | refine blk_alloc ?_ _)); exact BK512.out) hb); have n1_ := Aside0.mk (blk_below (g := gb513) (o := .cells #[.slice A1_0 l1_0.length c1_0, .bool a1_1] 24 (0, 0)) (by (with_reducible repeat (first | refine blk_drewN ?_ _ | refine blk_drew ?_ | refine blk_alloc ?_ _)); exact BK513.out) hb); have n2_ := Aside0.mk (below_step (by repeat (first | (with_reducible first | exact HB.out | apply below_alloc | apply pw_below_drewN | apply below_drew1 | refine below_set ?_ GE512.out | refine below_set ?_ GE513.out) | exact HB.out)) hb); clear BK512; clear BK513; clear HB; have BK512 := n0_; have BK513 := n1_; have HB := n2_; clear n0_ n1_ n2_; (try clear hb); (try clear hb2); (try clear hk); (try clear hi)))
        go_meet
        case rel => exact ⟨_, (true), (by first | rfl | (simp; done) | (simp [*]; done)), H', ⟨by first | omega | exact Nat.le_refl _⟩, ⟨by (with_reducible repeat (first | refine blk_drewN ?_ _ | refine blk_drew ?_ | refine blk_alloc ?_ _)); exact BK512.out⟩, ⟨by (with_reducible repeat (first | refine blk_drewN ?_ _ | refine blk_drew ?_ | refine blk_alloc ?_ _)); exact BK513.out⟩, ⟨by repeat (first | (with_reducible first | exact HB.out | apply below_alloc | apply pw_below_drewN | apply below_drew1 | refine below_set ?_ GE512.out | refine below_set ?_ GE513.out) | exact HB.out)⟩⟩
    · replace c7 := Bool.eq_false_iff.mpr c7
      subst c7
      have H1 : (stockyardlaw03_PatternOutside.j0 k true l0_0 a0_1 l1_0 a1_1) = some r := by rw [if_neg (show ¬ (false = true) by decide)] at H; exact H
      clear H
      have H := H1
      clear H1
      have H' := Aside0.mk H
      clear H
      have hnb34 := NB512_513.out
      have hnc34 := NB513_512.out
      have hcz35_0 : w5.cell? ⟨gb512, 0, none⟩ = some (.slice A0_0 l0_0.length c0_0) := (blk_cell BK512.out 0).trans rfl
      have hcz35_1 : w5.cell? ⟨gb512, 1, none⟩ = some (.bool a0_1) := (blk_cell BK512.out 1).trans rfl
      have hfz35_0 := blk_frozen BK512.out 0
      have hfz35_1 := blk_frozen BK512.out 1
      go_wp2_with (first | ((with_reducible refine gate_callee (f := 11) rfl ?_); refine goesL_ (some 15) rfl rfl Tryd.func11 (by kernel_rfl) rfl #[.agg #[.slice A0_0 l0_0.length c0_0, .bool a0_1]] rfl (by (try simp only [List.map_toArray, List.map_cons, List.map_nil]); first | done | rfl | (simp only [List.length_drop, List.length_take]; rfl)) ?_; (with_reducible refine (stockyardlaw03_small.calls k _ _ l0_0 a0_1 false _ ?side1 ?side2 A6.out).mono ?_); (case side1 => repeat (first | exact (Kd.C_below HR0_0.out HB.out) | (with_reducible refine Kd.C_alloc ?_ _) | (with_reducible refine Kd.C_drewN ?_ _) | (with_reducible refine Kd.C_drew ?_))); (case side2 => exact HC0_0.out); rintro e w36 ⟨rfl, hb⟩; refine ⟨_, rfl, ?_⟩; have n0_ := Aside0.mk (blk_below (g := gb512) (o := .cells #[.slice A0_0 l0_0.length c0_0, .bool a0_1] 24 (0, 0)) (by (with_reducible repeat (first | refine blk_drewN ?_ _ | refine blk_drew ?_ | refine blk_alloc ?_ _)); exact BK512.out) hb); have n1_ := Aside0.mk (blk_below (g := gb513) (o := .cells #[.slice A1_0 l1_0.length c1_0, .bool a1_1] 24 (0, 0)) (by (with_reducible repeat (first | refine blk_drewN ?_ _ | refine blk_drew ?_ | refine blk_alloc ?_ _)); exact BK513.out) hb); have n2_ := Aside0.mk (below_step (by repeat (first | (with_reducible first | exact HB.out | apply below_alloc | apply pw_below_drewN | apply below_drew1 | refine below_set ?_ GE512.out | refine below_set ?_ GE513.out) | exact HB.out)) hb); clear BK512; clear BK513; clear HB; have BK512 := n0_; have BK513 := n1_; have HB := n2_; clear n0_ n1_ n2_; (try clear hb); (try clear hb2); (try clear hk); (try clear hi)))
      go_meet
      case rel => exact ⟨_, (true), (by first | rfl | (simp; done) | (simp [*]; done)), H', ⟨by first | omega | exact Nat.le_refl _⟩, ⟨by (with_reducible repeat (first | refine blk_drewN ?_ _ | refine blk_drew ?_ | refine blk_alloc ?_ _)); exact BK512.out⟩, ⟨by (with_reducible repeat (first | refine blk_drewN ?_ _ | refine blk_drew ?_ | refine blk_alloc ?_ _)); exact BK513.out⟩, ⟨by repeat (first | (with_reducible first | exact HB.out | apply below_alloc | apply pw_below_drewN | apply below_drew1 | refine below_set ?_ GE512.out | refine below_set ?_ GE513.out) | exact HB.out)⟩⟩
  case rest =>
    clear HC3
    try clear c1
    try clear c2
    try clear p2
    try clear c3
    try clear c7
    try clear c8
    try clear c9
    try clear c11
    try clear c11b0
    try clear c11b1
    try clear c13
    try clear c22
    try clear c29
    try clear c34
    try clear hcz14_0
    try clear hcz14_1
    try clear hcz16_0
    try clear hcz16_1
    try clear hcz18_0
    try clear hcz18_1
    try clear hcz20_0
    try clear hcz20_1
    try clear hcz23_0
    try clear hcz23_1
    try clear hcz25_0
    try clear hcz25_1
    try clear hcz27_0
    try clear hcz27_1
    try clear hcz30_0
    try clear hcz30_1
    try clear hcz32_0
    try clear hcz32_1
    try clear hcz35_0
    try clear hcz35_1
    try clear hfz14_0
    try clear hfz14_1
    try clear hfz16_0
    try clear hfz16_1
    try clear hfz18_0
    try clear hfz18_1
    try clear hfz20_0
    try clear hfz20_1
    try clear hfz23_0
    try clear hfz23_1
    try clear hfz25_0
    try clear hfz25_1
    try clear hfz27_0
    try clear hfz27_1
    try clear hfz30_0
    try clear hfz30_1
    try clear hfz32_0
    try clear hfz32_1
    try clear hfz35_0
    try clear hfz35_1
    obtain ⟨kq, x31_2, rfl, HA, HJ2, BK512, BK513, HB⟩ := hcut
    cases kq with
    | zero => exact absurd HA.out (by simp [stockyardlaw03_PatternOutside.j0])
    | succ kj2 =>
      have H := HA.out
      clear HA
      simp only [stockyardlaw03_PatternOutside.j0] at H
      by_cases c37 : x31_2 = true
      · subst c37
        have H1 : ((stockyardlaw03_awake.f kj2).bind fun t518 => (some t518)) = some r := by rw [if_pos rfl] at H; exact H
        clear H
        have H := H1
        clear H1
        replace H := Option.bind_eq_some_iff.mp H
        obtain ⟨t518, A380, H⟩ := H
        replace H : (some t518) = some r := H
        have A38 := Aside0.mk A380
        clear A380
        obtain rfl := Option.some.inj H
        go_wp2_with (first | ((with_reducible refine gate_callee (f := 12) rfl ?_); refine goesL_ (some 32) rfl rfl Tryd.func12 (by kernel_rfl) rfl #[] rfl (by (try simp only [List.map_toArray, List.map_cons, List.map_nil]); first | done | rfl | (simp only [List.length_drop, List.length_take]; rfl)) ?_; (with_reducible refine (stockyardlaw03_awake.calls kj2  t518 _ A38.out).mono ?_); rintro e w39 ⟨rfl, hb⟩; refine ⟨_, rfl, ?_⟩; have n0_ := Aside0.mk (blk_below (g := gb512) (o := .cells #[.slice A0_0 l0_0.length c0_0, .bool a0_1] 24 (0, 0)) (by (with_reducible repeat (first | refine blk_drewN ?_ _ | refine blk_drew ?_ | refine blk_alloc ?_ _)); exact BK512.out) hb); have n1_ := Aside0.mk (blk_below (g := gb513) (o := .cells #[.slice A1_0 l1_0.length c1_0, .bool a1_1] 24 (0, 0)) (by (with_reducible repeat (first | refine blk_drewN ?_ _ | refine blk_drew ?_ | refine blk_alloc ?_ _)); exact BK513.out) hb); have n2_ := Aside0.mk (below_step (by repeat (first | (with_reducible first | exact HB.out | apply below_alloc | apply pw_below_drewN | apply below_drew1 | refine below_set ?_ GE512.out | refine below_set ?_ GE513.out) | exact HB.out)) hb); clear BK512; clear BK513; clear HB; have BK512 := n0_; have BK513 := n1_; have HB := n2_; clear n0_ n1_ n2_; (try clear hb); (try clear hb2); (try clear hk); (try clear hi)))
        go_ret
        exact ⟨by first | rfl | (simp [errW_none, errW_some] <;> rfl) | (simp [*, errW_none, errW_some] <;> rfl), by repeat (first | (with_reducible first | exact HB.out | apply below_alloc | apply pw_below_drewN | apply below_drew1 | refine below_set ?_ GE512.out | refine below_set ?_ GE513.out) | exact HB.out)⟩
      · replace c37 := Bool.eq_false_iff.mpr c37
        subst c37
        have H1 : (if a0_1 = true then (stockyardlaw03_PatternOutside.j1 kj2 1 13 l0_0 a0_1 l1_0 a1_1) else (stockyardlaw03_PatternOutside.j1 kj2 0 0 l0_0 a0_1 l1_0 a1_1)) = some r := by rw [if_neg (show ¬ (false = true) by decide)] at H; exact H
        clear H
        have H := H1
        clear H1
        have HC40 := Aside0.mk H
        clear H
        have hnb41 := NB512_513.out
        have hnc41 := NB513_512.out
        have hcz42_0 : wc.cell? ⟨gb512, 0, none⟩ = some (.slice A0_0 l0_0.length c0_0) := (blk_cell BK512.out 0).trans rfl
        have hcz42_1 : wc.cell? ⟨gb512, 1, none⟩ = some (.bool a0_1) := (blk_cell BK512.out 1).trans rfl
        have hfz42_0 := blk_frozen BK512.out 0
        have hfz42_1 := blk_frozen BK512.out 1
        go_upto_if 34 with (fail)
        go_cut [5, 6] (fun v5 v6 wc => ∃ (kq : Nat) (x5_39 : Int) (x6_39 : Int), v5 = .int .i64 x5_39 ∧ v6 = .int .i64 x6_39 ∧ Aside0 (stockyardlaw03_PatternOutside.j1 kq x5_39 x6_39 l0_0 a0_1 l1_0 a1_1 = some r) ∧ Aside0 (kq ≤ kj2) ∧ Aside0 (wc.heap[gb512]? = some (.cells #[(.slice A0_0 l0_0.length c0_0), .bool a0_1] 24 (0, 0))) ∧ Aside0 (wc.heap[gb513]? = some (.cells #[(.slice A1_0 l1_0.length c1_0), .bool a1_1] 24 (0, 0))) ∧ Aside0 (Below w.heap.size w wc))
        case first =>
          have H := HC40.out
          clear HC40
          by_cases c43 : a0_1 = true
          · subst c43
            have H1 : (stockyardlaw03_PatternOutside.j1 kj2 1 13 l0_0 true l1_0 a1_1) = some r := by rw [if_pos rfl] at H; exact H
            clear H
            have H := H1
            clear H1
            have H' := Aside0.mk H
            clear H
            go_wp2
            go_meet
            case rel => exact ⟨_, (1), (13), (by first | rfl | (simp; done) | (simp [*]; done)), (by first | rfl | (simp; done) | (simp [*]; done)), H', ⟨by have := HJ2.out; first | omega | exact Nat.le_refl _⟩, ⟨by (with_reducible repeat (first | refine blk_drewN ?_ _ | refine blk_drew ?_ | refine blk_alloc ?_ _)); exact BK512.out⟩, ⟨by (with_reducible repeat (first | refine blk_drewN ?_ _ | refine blk_drew ?_ | refine blk_alloc ?_ _)); exact BK513.out⟩, ⟨by repeat (first | (with_reducible first | exact HB.out | apply below_alloc | apply pw_below_drewN | apply below_drew1 | refine below_set ?_ GE512.out | refine below_set ?_ GE513.out) | exact HB.out)⟩⟩
          · replace c43 := Bool.eq_false_iff.mpr c43
            subst c43
            have H1 : (stockyardlaw03_PatternOutside.j1 kj2 0 0 l0_0 false l1_0 a1_1) = some r := by rw [if_neg (show ¬ (false = true) by decide)] at H; exact H
            clear H
            have H := H1
            clear H1
            have H' := Aside0.mk H
            clear H
            go_wp2
            go_meet
            case rel => exact ⟨_, (0), (0), (by first | rfl | (simp; done) | (simp [*]; done)), (by first | rfl | (simp; done) | (simp [*]; done)), H', ⟨by have := HJ2.out; first | omega | exact Nat.le_refl _⟩, ⟨by (with_reducible repeat (first | refine blk_drewN ?_ _ | refine blk_drew ?_ | refine blk_alloc ?_ _)); exact BK512.out⟩, ⟨by (with_reducible repeat (first | refine blk_drewN ?_ _ | refine blk_drew ?_ | refine blk_alloc ?_ _)); exact BK513.out⟩, ⟨by repeat (first | (with_reducible first | exact HB.out | apply below_alloc | apply pw_below_drewN | apply below_drew1 | refine below_set ?_ GE512.out | refine below_set ?_ GE513.out) | exact HB.out)⟩⟩
        case rest =>
          clear HC40
          try clear c1
          try clear c2
          try clear p2
          try clear c3
          try clear c4
          try clear c7
          try clear c8
          try clear c9
          try clear c11
          try clear c11b0
          try clear c11b1
          try clear c12
          try clear c13
          try clear c22
          try clear c29
          try clear c34
          try clear c37
          try clear c41
          try clear c43
          try clear hcz14_0
          try clear hcz14_1
          try clear hcz16_0
          try clear hcz16_1
          try clear hcz18_0
          try clear hcz18_1
          try clear hcz20_0
          try clear hcz20_1
          try clear hcz23_0
          try clear hcz23_1
          try clear hcz25_0
          try clear hcz25_1
          try clear hcz27_0
          try clear hcz27_1
          try clear hcz30_0
          try clear hcz30_1
          try clear hcz32_0
          try clear hcz32_1
          try clear hcz35_0
          try clear hcz35_1
          try clear hcz42_0
          try clear hcz42_1
          try clear hfz14_0
          try clear hfz14_1
          try clear hfz16_0
          try clear hfz16_1
          try clear hfz18_0
          try clear hfz18_1
          try clear hfz20_0
          try clear hfz20_1
          try clear hfz23_0
          try clear hfz23_1
          try clear hfz25_0
          try clear hfz25_1
          try clear hfz27_0
          try clear hfz27_1
          try clear hfz30_0
          try clear hfz30_1
          try clear hfz32_0
          try clear hfz32_1
          try clear hfz35_0
          try clear hfz35_1
          try clear hfz42_0
          try clear hfz42_1
          try clear p2
          obtain ⟨kq, x5_39, x6_39, rfl, rfl, HA, HJ39, BK512, BK513, HB⟩ := hcut
          cases kq with
          | zero => exact absurd HA.out (by simp [stockyardlaw03_PatternOutside.j1])
          | succ kj39 =>
            have H := HA.out
            clear HA
            simp only [stockyardlaw03_PatternOutside.j1] at H
            have H' := Aside0.mk H
            clear H
            go_wp2
            go_loopg [7, 8] kj39 (fun kq v7 v8 w' => ∃ (x7_3 : Bool) (x8_3 : Int), v7 = .bool x7_3 ∧ v8 = .int .i64 x8_3 ∧ Aside0 (stockyardlaw03_PatternOutside.l0 kq x6_39 x7_3 x8_3 l0_0 a0_1 l1_0 a1_1 = some r) ∧ Aside0 (kq ≤ kj39) ∧ Aside0 (w'.heap[gb512]? = some (.cells #[(.slice A0_0 l0_0.length c0_0), .bool a0_1] 24 (0, 0))) ∧ Aside0 (w'.heap[gb513]? = some (.cells #[(.slice A1_0 l1_0.length c1_0), .bool a1_1] 24 (0, 0))) ∧ Aside0 (Below w.heap.size w w'))
            case atStart => exact ⟨(true), (x5_39), (by first | rfl | (simp; done) | (simp [*]; done)), (by first | rfl | (simp; done) | (simp [*]; done)), H', ⟨Nat.le_refl _⟩, ⟨by (with_reducible repeat (first | refine blk_drewN ?_ _ | refine blk_drew ?_ | refine blk_alloc ?_ _)); exact BK512.out⟩, ⟨by (with_reducible repeat (first | refine blk_drewN ?_ _ | refine blk_drew ?_ | refine blk_alloc ?_ _)); exact BK513.out⟩, ⟨by repeat (first | (with_reducible first | exact HB.out | apply below_alloc | apply pw_below_drewN | apply below_drew1 | refine below_set ?_ GE512.out | refine below_set ?_ GE513.out) | exact HB.out)⟩⟩
            case round =>
              clear H'
              try clear c1
              try clear c2
              try clear p2
              try clear c3
              try clear c4
              try clear c7
              try clear c8
              try clear c9
              try clear c11
              try clear c11b0
              try clear c11b1
              try clear c12
              try clear c13
              try clear c22
              try clear c29
              try clear c34
              try clear c37
              try clear c41
              try clear c43
              try clear hcz14_0
              try clear hcz14_1
              try clear hcz16_0
              try clear hcz16_1
              try clear hcz18_0
              try clear hcz18_1
              try clear hcz20_0
              try clear hcz20_1
              try clear hcz23_0
              try clear hcz23_1
              try clear hcz25_0
              try clear hcz25_1
              try clear hcz27_0
              try clear hcz27_1
              try clear hcz30_0
              try clear hcz30_1
              try clear hcz32_0
              try clear hcz32_1
              try clear hcz35_0
              try clear hcz35_1
              try clear hcz42_0
              try clear hcz42_1
              try clear hfz14_0
              try clear hfz14_1
              try clear hfz16_0
              try clear hfz16_1
              try clear hfz18_0
              try clear hfz18_1
              try clear hfz20_0
              try clear hfz20_1
              try clear hfz23_0
              try clear hfz23_1
              try clear hfz25_0
              try clear hfz25_1
              try clear hfz27_0
              try clear hfz27_1
              try clear hfz30_0
              try clear hfz30_1
              try clear hfz32_0
              try clear hfz32_1
              try clear hfz35_0
              try clear hfz35_1
              try clear hfz42_0
              try clear hfz42_1
              try clear p2
              obtain ⟨x7_3, x8_3, rfl, rfl, HA, HK3, BK512, BK513, HB⟩ := hrel
              cases gk with
              | zero => exact absurd HA.out (by simp [stockyardlaw03_PatternOutside.l0])
              | succ k3 =>
                have H := HA.out
                clear HA
                simp only [stockyardlaw03_PatternOutside.l0] at H
                by_cases c44 : x8_3 ≤ x6_39
                · rw [if_pos c44] at H
                  have c44b0 : decide (x8_3 ≤ x6_39) = true := decide_eq_true c44
                  clear c44
                  replace H := Option.bind_eq_some_iff.mp H
                  obtain ⟨t521, A450, H⟩ := H
                  replace H : ((pattern_Match.f k3 l0_0 a0_1 t521).bind fun bt522 => (if bt522.2 = true then ((pattern_Match.f k3 l1_0 a1_1 t521).bind fun bt526 => (if x7_3 = true then (stockyardlaw03_PatternOutside.l0 k3 x6_39 bt526.2 (wrap64 (x8_3 + 1)) l0_0 a0_1 l1_0 a1_1) else (stockyardlaw03_PatternOutside.l0 k3 x6_39 false (wrap64 (x8_3 + 1)) l0_0 a0_1 l1_0 a1_1))) else (some false))) = some r := H
                  have A45 := Aside0.mk A450
                  clear A450
                  replace H := Option.bind_eq_some_iff.mp H
                  obtain ⟨⟨t522, t525⟩, A460, H⟩ := H
                  replace H : (if t525 = true then ((pattern_Match.f k3 l1_0 a1_1 t521).bind fun bt526 => (if x7_3 = true then (stockyardlaw03_PatternOutside.l0 k3 x6_39 bt526.2 (wrap64 (x8_3 + 1)) l0_0 a0_1 l1_0 a1_1) else (stockyardlaw03_PatternOutside.l0 k3 x6_39 false (wrap64 (x8_3 + 1)) l0_0 a0_1 l1_0 a1_1))) else (some false)) = some r := H
                  have A46 := Aside0.mk A460
                  clear A460
                  by_cases c47 : t525 = true
                  · subst c47
                    have H1 : ((pattern_Match.f k3 l1_0 a1_1 t521).bind fun bt526 => (if x7_3 = true then (stockyardlaw03_PatternOutside.l0 k3 x6_39 bt526.2 (wrap64 (x8_3 + 1)) l0_0 a0_1 l1_0 a1_1) else (stockyardlaw03_PatternOutside.l0 k3 x6_39 false (wrap64 (x8_3 + 1)) l0_0 a0_1 l1_0 a1_1))) = some r := by rw [if_pos rfl] at H; exact H
                    clear H
                    have H := H1
                    clear H1
                    replace H := Option.bind_eq_some_iff.mp H
                    obtain ⟨⟨t526, t529⟩, A480, H⟩ := H
                    replace H : (if x7_3 = true then (stockyardlaw03_PatternOutside.l0 k3 x6_39 t529 (wrap64 (x8_3 + 1)) l0_0 a0_1 l1_0 a1_1) else (stockyardlaw03_PatternOutside.l0 k3 x6_39 false (wrap64 (x8_3 + 1)) l0_0 a0_1 l1_0 a1_1)) = some r := H
                    have A48 := Aside0.mk A480
                    clear A480
                    by_cases c49 : x7_3 = true
                    · subst c49
                      have H1 : (stockyardlaw03_PatternOutside.l0 k3 x6_39 t529 (wrap64 (x8_3 + 1)) l0_0 a0_1 l1_0 a1_1) = some r := by rw [if_pos rfl] at H; exact H
                      clear H
                      have H := H1
                      clear H1
                      have H' := Aside0.mk H
                      clear H
                      have hnb50 := NB512_513.out
                      have hnc50 := NB513_512.out
                      have hcz51_0 : wr.cell? ⟨gb512, 0, none⟩ = some (.slice A0_0 l0_0.length c0_0) := (blk_cell BK512.out 0).trans rfl
                      have hcz51_1 : wr.cell? ⟨gb512, 1, none⟩ = some (.bool a0_1) := (blk_cell BK512.out 1).trans rfl
                      have hfz51_0 := blk_frozen BK512.out 0
                      have hfz51_1 := blk_frozen BK512.out 1
                      have hcz52_0 : wr.cell? ⟨gb513, 0, none⟩ = some (.slice A1_0 l1_0.length c1_0) := (blk_cell BK513.out 0).trans rfl
                      have hcz52_1 : wr.cell? ⟨gb513, 1, none⟩ = some (.bool a1_1) := (blk_cell BK513.out 1).trans rfl
                      have hfz52_0 := blk_frozen BK513.out 0
                      have hfz52_1 := blk_frozen BK513.out 1
                      go_wp2_with (first | ((with_reducible refine gate_callee (f := 24) rfl ?_); refine goesL_ (some 44) rfl rfl Tryd.func24 (by kernel_rfl) rfl #[.agg #[.slice A0_0 l0_0.length c0_0, .bool a0_1], .agg #[.slice A1_0 l1_0.length c1_0, .bool a1_1], .int .i64 x8_3] rfl (by (try simp only [List.map_toArray, List.map_cons, List.map_nil]); first | done | rfl | (simp only [List.length_drop, List.length_take]; rfl)) ?_; (with_reducible refine (stockyardlaw03_witness.calls k3 _ _ l0_0 a0_1 _ _ l1_0 a1_1 x8_3 t521 _ ?side1 ?side2 ?side3 ?side4 A45.out).mono ?_); (case side1 => repeat (first | exact (Kd.C_below HR0_0.out HB.out) | (with_reducible refine Kd.C_alloc ?_ _) | (with_reducible refine Kd.C_drewN ?_ _) | (with_reducible refine Kd.C_drew ?_))); (case side2 => exact HC0_0.out); (case side3 => repeat (first | exact (Kd.C_below HR1_0.out HB.out) | (with_reducible refine Kd.C_alloc ?_ _) | (with_reducible refine Kd.C_drewN ?_ _) | (with_reducible refine Kd.C_drew ?_))); (case side4 => exact HC1_0.out); rintro e w53 ⟨rfl, hb⟩; refine ⟨_, rfl, ?_⟩; have n0_ := Aside0.mk (blk_below (g := gb512) (o := .cells #[.slice A0_0 l0_0.length c0_0, .bool a0_1] 24 (0, 0)) (by (with_reducible repeat (first | refine blk_drewN ?_ _ | refine blk_drew ?_ | refine blk_alloc ?_ _)); exact BK512.out) hb); have n1_ := Aside0.mk (blk_below (g := gb513) (o := .cells #[.slice A1_0 l1_0.length c1_0, .bool a1_1] 24 (0, 0)) (by (with_reducible repeat (first | refine blk_drewN ?_ _ | refine blk_drew ?_ | refine blk_alloc ?_ _)); exact BK513.out) hb); have n2_ := Aside0.mk (below_step (by repeat (first | (with_reducible first | exact HB.out | apply below_alloc | apply pw_below_drewN | apply below_drew1 | refine below_set ?_ GE512.out | refine below_set ?_ GE513.out) | exact HB.out)) hb); clear BK512; clear BK513; clear HB; have BK512 := n0_; have BK513 := n1_; have HB := n2_; clear n0_ n1_ n2_; (try clear hb); (try clear hb2); (try clear hk); (try clear hi); have hcz54_0 : w53.cell? ⟨gb512, 0, none⟩ = some (.slice A0_0 l0_0.length c0_0) := (blk_cell BK512.out 0).trans rfl; have hcz54_1 : w53.cell? ⟨gb512, 1, none⟩ = some (.bool a0_1) := (blk_cell BK512.out 1).trans rfl; have hfz54_0 := blk_frozen BK512.out 0; have hfz54_1 := blk_frozen BK512.out 1) | ((with_reducible refine gate_callee (f := 17) rfl ?_); refine goesL_ (some 48) rfl rfl Tryd.func17 (by kernel_rfl) rfl #[.agg #[.slice A0_0 l0_0.length c0_0, .bool a0_1], .string t521] rfl (by (try simp only [List.map_toArray, List.map_cons, List.map_nil]); first | done | rfl | (simp only [List.length_drop, List.length_take]; rfl)) ?_; (with_reducible refine (pattern_Match.calls k3 _ _ l0_0 a0_1 t521 t522 true _ ?side1 ?side2 A46.out).mono ?_); (case side1 => repeat (first | exact (Kd.C_below HR0_0.out HB.out) | (with_reducible refine Kd.C_alloc ?_ _) | (with_reducible refine Kd.C_drewN ?_ _) | (with_reducible refine Kd.C_drew ?_))); (case side2 => exact HC0_0.out); rintro e w55 ⟨v523, rfl, ho0, hb⟩; refine ⟨_, rfl, ?_⟩; have n0_ := Aside0.mk (Kd.R_lower ho0 (below_size (by repeat (first | (with_reducible first | exact HB.out | apply below_alloc | apply pw_below_drewN | apply below_drew1 | refine below_set ?_ GE512.out | refine below_set ?_ GE513.out) | exact HB.out)))); have n1_ := Aside0.mk (blk_below (g := gb512) (o := .cells #[.slice A0_0 l0_0.length c0_0, .bool a0_1] 24 (0, 0)) (by (with_reducible repeat (first | refine blk_drewN ?_ _ | refine blk_drew ?_ | refine blk_alloc ?_ _)); exact BK512.out) hb); have n2_ := Aside0.mk (blk_below (g := gb513) (o := .cells #[.slice A1_0 l1_0.length c1_0, .bool a1_1] 24 (0, 0)) (by (with_reducible repeat (first | refine blk_drewN ?_ _ | refine blk_drew ?_ | refine blk_alloc ?_ _)); exact BK513.out) hb); have n3_ := Aside0.mk (below_step (by repeat (first | (with_reducible first | exact HB.out | apply below_alloc | apply pw_below_drewN | apply below_drew1 | refine below_set ?_ GE512.out | refine below_set ?_ GE513.out) | exact HB.out)) hb); clear BK512; clear BK513; clear HB; have HO524 := n0_; have BK512 := n1_; have BK513 := n2_; have HB := n3_; clear n0_ n1_ n2_ n3_; (try clear hb); (try clear hb2); (try clear hk); (try clear hi); (try clear ho0); have hcz56_0 : w55.cell? ⟨gb513, 0, none⟩ = some (.slice A1_0 l1_0.length c1_0) := (blk_cell BK513.out 0).trans rfl; have hcz56_1 : w55.cell? ⟨gb513, 1, none⟩ = some (.bool a1_1) := (blk_cell BK513.out 1).trans rfl; have hfz56_0 := blk_frozen BK513.out 0; have hfz56_1 := blk_frozen BK513.out 1) | ((with_reducible refine gate_callee (f := 17) rfl ?_); refine goesL_ (some 56) rfl rfl Tryd.func17 (by kernel_rfl) rfl #[.agg #[.slice A1_0 l1_0.length c1_0, .bool a1_1], .string t521] rfl (by (try simp only [List.map_toArray, List.map_cons, List.map_nil]); first | done | rfl | (simp only [List.length_drop, List.length_take]; rfl)) ?_; (with_reducible refine (pattern_Match.calls k3 _ _ l1_0 a1_1 t521 t526 t529 _ ?side1 ?side2 A48.out).mono ?_); (case side1 => repeat (first | exact (Kd.C_below HR1_0.out HB.out) | (with_reducible refine Kd.C_alloc ?_ _) | (with_reducible refine Kd.C_drewN ?_ _) | (with_reducible refine Kd.C_drew ?_))); (case side2 => exact HC1_0.out); rintro e w57 ⟨v527, rfl, ho0, hb⟩; refine ⟨_, rfl, ?_⟩; have n0_ := Aside0.mk (Kd.R_elder' (by (with_reducible repeat (first | apply Kd.R_alloc | apply Kd.R_drewN | apply Kd.R_drew)); exact HO524.out) (Kd.R_base ho0) hb); have n1_ := Aside0.mk (Kd.R_lower (Kd.R_new' ho0 (Kd.R_lt (by (with_reducible repeat (first | apply Kd.R_alloc | apply Kd.R_drewN | apply Kd.R_drew)); exact HO524.out))) (below_size (by repeat (first | (with_reducible first | exact HB.out | apply below_alloc | apply pw_below_drewN | apply below_drew1 | refine below_set ?_ GE512.out | refine below_set ?_ GE513.out) | exact HB.out)))); have n2_ := Aside0.mk (blk_below (g := gb512) (o := .cells #[.slice A0_0 l0_0.length c0_0, .bool a0_1] 24 (0, 0)) (by (with_reducible repeat (first | refine blk_drewN ?_ _ | refine blk_drew ?_ | refine blk_alloc ?_ _)); exact BK512.out) hb); have n3_ := Aside0.mk (blk_below (g := gb513) (o := .cells #[.slice A1_0 l1_0.length c1_0, .bool a1_1] 24 (0, 0)) (by (with_reducible repeat (first | refine blk_drewN ?_ _ | refine blk_drew ?_ | refine blk_alloc ?_ _)); exact BK513.out) hb); have n4_ := Aside0.mk (below_step (by repeat (first | (with_reducible first | exact HB.out | apply below_alloc | apply pw_below_drewN | apply below_drew1 | refine below_set ?_ GE512.out | refine below_set ?_ GE513.out) | exact HB.out)) hb); clear HO524; clear BK512; clear BK513; clear HB; have HO524 := n0_; have HO528 := n1_; have BK512 := n2_; have BK513 := n3_; have HB := n4_; clear n0_ n1_ n2_ n3_ n4_; (try clear hb); (try clear hb2); (try clear hk); (try clear hi); (try clear ho0)))
                      go_roundg k3
                      case measure => have := HJ2.out; have := HJ39.out; have := HK3.out; omega
                      case rel => exact ⟨(t529), (wrap64 (x8_3 + 1)), (by first | rfl | (simp; done) | (simp [*]; done)), (by first | rfl | (simp; done) | (simp [*]; done)), H', ⟨by have := HJ2.out; have := HJ39.out; have := HK3.out; omega⟩, ⟨by (with_reducible repeat (first | refine blk_drewN ?_ _ | refine blk_drew ?_ | refine blk_alloc ?_ _)); exact BK512.out⟩, ⟨by (with_reducible repeat (first | refine blk_drewN ?_ _ | refine blk_drew ?_ | refine blk_alloc ?_ _)); exact BK513.out⟩, ⟨by repeat (first | (with_reducible first | exact HB.out | apply below_alloc | apply pw_below_drewN | apply below_drew1 | refine below_set ?_ GE512.out | refine below_set ?_ GE513.out) | exact HB.out)⟩⟩
                    · replace c49 := Bool.eq_false_iff.mpr c49
                      subst c49
                      have H1 : (stockyardlaw03_PatternOutside.l0 k3 x6_39 false (wrap64 (x8_3 + 1)) l0_0 a0_1 l1_0 a1_1) = some r := by rw [if_neg (show ¬ (false = true) by decide)] at H; exact H
                      clear H
                      have H := H1
                      clear H1
                      have H' := Aside0.mk H
                      clear H
                      have hnb58 := NB512_513.out
                      have hnc58 := NB513_512.out
                      have hcz59_0 : wr.cell? ⟨gb512, 0, none⟩ = some (.slice A0_0 l0_0.length c0_0) := (blk_cell BK512.out 0).trans rfl
                      have hcz59_1 : wr.cell? ⟨gb512, 1, none⟩ = some (.bool a0_1) := (blk_cell BK512.out 1).trans rfl
                      have hfz59_0 := blk_frozen BK512.out 0
                      have hfz59_1 := blk_frozen BK512.out 1
                      have hcz60_0 : wr.cell? ⟨gb513, 0, none⟩ = some (.slice A1_0 l1_0.length c1_0) := (blk_cell BK513.out 0).trans rfl
                      have hcz60_1 : wr.cell? ⟨gb513, 1, none⟩ = some (.bool a1_1) := (blk_cell BK513.out 1).trans rfl
                      have hfz60_0 := blk_frozen BK513.out 0
                      have hfz60_1 := blk_frozen BK513.out 1
                      go_wp2_with (first | ((with_reducible refine gate_callee (f := 24) rfl ?_); refine goesL_ (some 44) rfl rfl Tryd.func24 (by kernel_rfl) rfl #[.agg #[.slice A0_0 l0_0.length c0_0, .bool a0_1], .agg #[.slice A1_0 l1_0.length c1_0, .bool a1_1], .int .i64 x8_3] rfl (by (try simp only [List.map_toArray, List.map_cons, List.map_nil]); first | done | rfl | (simp only [List.length_drop, List.length_take]; rfl)) ?_; (with_reducible refine (stockyardlaw03_witness.calls k3 _ _ l0_0 a0_1 _ _ l1_0 a1_1 x8_3 t521 _ ?side1 ?side2 ?side3 ?side4 A45.out).mono ?_); (case side1 => repeat (first | exact (Kd.C_below HR0_0.out HB.out) | (with_reducible refine Kd.C_alloc ?_ _) | (with_reducible refine Kd.C_drewN ?_ _) | (with_reducible refine Kd.C_drew ?_))); (case side2 => exact HC0_0.out); (case side3 => repeat (first | exact (Kd.C_below HR1_0.out HB.out) | (with_reducible refine Kd.C_alloc ?_ _) | (with_reducible refine Kd.C_drewN ?_ _) | (with_reducible refine Kd.C_drew ?_))); (case side4 => exact HC1_0.out); rintro e w61 ⟨rfl, hb⟩; refine ⟨_, rfl, ?_⟩; have n0_ := Aside0.mk (blk_below (g := gb512) (o := .cells #[.slice A0_0 l0_0.length c0_0, .bool a0_1] 24 (0, 0)) (by (with_reducible repeat (first | refine blk_drewN ?_ _ | refine blk_drew ?_ | refine blk_alloc ?_ _)); exact BK512.out) hb); have n1_ := Aside0.mk (blk_below (g := gb513) (o := .cells #[.slice A1_0 l1_0.length c1_0, .bool a1_1] 24 (0, 0)) (by (with_reducible repeat (first | refine blk_drewN ?_ _ | refine blk_drew ?_ | refine blk_alloc ?_ _)); exact BK513.out) hb); have n2_ := Aside0.mk (below_step (by repeat (first | (with_reducible first | exact HB.out | apply below_alloc | apply pw_below_drewN | apply below_drew1 | refine below_set ?_ GE512.out | refine below_set ?_ GE513.out) | exact HB.out)) hb); clear BK512; clear BK513; clear HB; have BK512 := n0_; have BK513 := n1_; have HB := n2_; clear n0_ n1_ n2_; (try clear hb); (try clear hb2); (try clear hk); (try clear hi); have hcz62_0 : w61.cell? ⟨gb512, 0, none⟩ = some (.slice A0_0 l0_0.length c0_0) := (blk_cell BK512.out 0).trans rfl; have hcz62_1 : w61.cell? ⟨gb512, 1, none⟩ = some (.bool a0_1) := (blk_cell BK512.out 1).trans rfl; have hfz62_0 := blk_frozen BK512.out 0; have hfz62_1 := blk_frozen BK512.out 1) | ((with_reducible refine gate_callee (f := 17) rfl ?_); refine goesL_ (some 48) rfl rfl Tryd.func17 (by kernel_rfl) rfl #[.agg #[.slice A0_0 l0_0.length c0_0, .bool a0_1], .string t521] rfl (by (try simp only [List.map_toArray, List.map_cons, List.map_nil]); first | done | rfl | (simp only [List.length_drop, List.length_take]; rfl)) ?_; (with_reducible refine (pattern_Match.calls k3 _ _ l0_0 a0_1 t521 t522 true _ ?side1 ?side2 A46.out).mono ?_); (case side1 => repeat (first | exact (Kd.C_below HR0_0.out HB.out) | (with_reducible refine Kd.C_alloc ?_ _) | (with_reducible refine Kd.C_drewN ?_ _) | (with_reducible refine Kd.C_drew ?_))); (case side2 => exact HC0_0.out); rintro e w63 ⟨v523, rfl, ho0, hb⟩; refine ⟨_, rfl, ?_⟩; have n0_ := Aside0.mk (Kd.R_lower ho0 (below_size (by repeat (first | (with_reducible first | exact HB.out | apply below_alloc | apply pw_below_drewN | apply below_drew1 | refine below_set ?_ GE512.out | refine below_set ?_ GE513.out) | exact HB.out)))); have n1_ := Aside0.mk (blk_below (g := gb512) (o := .cells #[.slice A0_0 l0_0.length c0_0, .bool a0_1] 24 (0, 0)) (by (with_reducible repeat (first | refine blk_drewN ?_ _ | refine blk_drew ?_ | refine blk_alloc ?_ _)); exact BK512.out) hb); have n2_ := Aside0.mk (blk_below (g := gb513) (o := .cells #[.slice A1_0 l1_0.length c1_0, .bool a1_1] 24 (0, 0)) (by (with_reducible repeat (first | refine blk_drewN ?_ _ | refine blk_drew ?_ | refine blk_alloc ?_ _)); exact BK513.out) hb); have n3_ := Aside0.mk (below_step (by repeat (first | (with_reducible first | exact HB.out | apply below_alloc | apply pw_below_drewN | apply below_drew1 | refine below_set ?_ GE512.out | refine below_set ?_ GE513.out) | exact HB.out)) hb); clear BK512; clear BK513; clear HB; have HO524 := n0_; have BK512 := n1_; have BK513 := n2_; have HB := n3_; clear n0_ n1_ n2_ n3_; (try clear hb); (try clear hb2); (try clear hk); (try clear hi); (try clear ho0); have hcz64_0 : w63.cell? ⟨gb513, 0, none⟩ = some (.slice A1_0 l1_0.length c1_0) := (blk_cell BK513.out 0).trans rfl; have hcz64_1 : w63.cell? ⟨gb513, 1, none⟩ = some (.bool a1_1) := (blk_cell BK513.out 1).trans rfl; have hfz64_0 := blk_frozen BK513.out 0; have hfz64_1 := blk_frozen BK513.out 1) | ((with_reducible refine gate_callee (f := 17) rfl ?_); refine goesL_ (some 56) rfl rfl Tryd.func17 (by kernel_rfl) rfl #[.agg #[.slice A1_0 l1_0.length c1_0, .bool a1_1], .string t521] rfl (by (try simp only [List.map_toArray, List.map_cons, List.map_nil]); first | done | rfl | (simp only [List.length_drop, List.length_take]; rfl)) ?_; (with_reducible refine (pattern_Match.calls k3 _ _ l1_0 a1_1 t521 t526 t529 _ ?side1 ?side2 A48.out).mono ?_); (case side1 => repeat (first | exact (Kd.C_below HR1_0.out HB.out) | (with_reducible refine Kd.C_alloc ?_ _) | (with_reducible refine Kd.C_drewN ?_ _) | (with_reducible refine Kd.C_drew ?_))); (case side2 => exact HC1_0.out); rintro e w65 ⟨v527, rfl, ho0, hb⟩; refine ⟨_, rfl, ?_⟩; have n0_ := Aside0.mk (Kd.R_elder' (by (with_reducible repeat (first | apply Kd.R_alloc | apply Kd.R_drewN | apply Kd.R_drew)); exact HO524.out) (Kd.R_base ho0) hb); have n1_ := Aside0.mk (Kd.R_lower (Kd.R_new' ho0 (Kd.R_lt (by (with_reducible repeat (first | apply Kd.R_alloc | apply Kd.R_drewN | apply Kd.R_drew)); exact HO524.out))) (below_size (by repeat (first | (with_reducible first | exact HB.out | apply below_alloc | apply pw_below_drewN | apply below_drew1 | refine below_set ?_ GE512.out | refine below_set ?_ GE513.out) | exact HB.out)))); have n2_ := Aside0.mk (blk_below (g := gb512) (o := .cells #[.slice A0_0 l0_0.length c0_0, .bool a0_1] 24 (0, 0)) (by (with_reducible repeat (first | refine blk_drewN ?_ _ | refine blk_drew ?_ | refine blk_alloc ?_ _)); exact BK512.out) hb); have n3_ := Aside0.mk (blk_below (g := gb513) (o := .cells #[.slice A1_0 l1_0.length c1_0, .bool a1_1] 24 (0, 0)) (by (with_reducible repeat (first | refine blk_drewN ?_ _ | refine blk_drew ?_ | refine blk_alloc ?_ _)); exact BK513.out) hb); have n4_ := Aside0.mk (below_step (by repeat (first | (with_reducible first | exact HB.out | apply below_alloc | apply pw_below_drewN | apply below_drew1 | refine below_set ?_ GE512.out | refine below_set ?_ GE513.out) | exact HB.out)) hb); clear HO524; clear BK512; clear BK513; clear HB; have HO524 := n0_; have HO528 := n1_; have BK512 := n2_; have BK513 := n3_; have HB := n4_; clear n0_ n1_ n2_ n3_ n4_; (try clear hb); (try clear hb2); (try clear hk); (try clear hi); (try clear ho0)))
                      go_roundg k3
                      case measure => have := HJ2.out; have := HJ39.out; have := HK3.out; omega
                      case rel => exact ⟨(false), (wrap64 (x8_3 + 1)), (by first | rfl | (simp; done) | (simp [*]; done)), (by first | rfl | (simp; done) | (simp [*]; done)), H', ⟨by have := HJ2.out; have := HJ39.out; have := HK3.out; omega⟩, ⟨by (with_reducible repeat (first | refine blk_drewN ?_ _ | refine blk_drew ?_ | refine blk_alloc ?_ _)); exact BK512.out⟩, ⟨by (with_reducible repeat (first | refine blk_drewN ?_ _ | refine blk_drew ?_ | refine blk_alloc ?_ _)); exact BK513.out⟩, ⟨by repeat (first | (with_reducible first | exact HB.out | apply below_alloc | apply pw_below_drewN | apply below_drew1 | refine below_set ?_ GE512.out | refine below_set ?_ GE513.out) | exact HB.out)⟩⟩
                  · replace c47 := Bool.eq_false_iff.mpr c47
                    subst c47
                    have H1 : (some false) = some r := by rw [if_neg (show ¬ (false = true) by decide)] at H; exact H
                    clear H
                    have H := H1
                    clear H1
                    obtain rfl := Option.some.inj H
                    have hnb66 := NB512_513.out
                    have hnc66 := NB513_512.out
                    have hcz67_0 : wr.cell? ⟨gb512, 0, none⟩ = some (.slice A0_0 l0_0.length c0_0) := (blk_cell BK512.out 0).trans rfl
                    have hcz67_1 : wr.cell? ⟨gb512, 1, none⟩ = some (.bool a0_1) := (blk_cell BK512.out 1).trans rfl
                    have hfz67_0 := blk_frozen BK512.out 0
                    have hfz67_1 := blk_frozen BK512.out 1
                    have hcz68_0 : wr.cell? ⟨gb513, 0, none⟩ = some (.slice A1_0 l1_0.length c1_0) := (blk_cell BK513.out 0).trans rfl
                    have hcz68_1 : wr.cell? ⟨gb513, 1, none⟩ = some (.bool a1_1) := (blk_cell BK513.out 1).trans rfl
                    have hfz68_0 := blk_frozen BK513.out 0
                    have hfz68_1 := blk_frozen BK513.out 1
                    go_wp2_with (first | ((with_reducible refine gate_callee (f := 24) rfl ?_); refine goesL_ (some 44) rfl rfl Tryd.func24 (by kernel_rfl) rfl #[.agg #[.slice A0_0 l0_0.length c0_0, .bool a0_1], .agg #[.slice A1_0 l1_0.length c1_0, .bool a1_1], .int .i64 x8_3] rfl (by (try simp only [List.map_toArray, List.map_cons, List.map_nil]); first | done | rfl | (simp only [List.length_drop, List.length_take]; rfl)) ?_; (with_reducible refine (stockyardlaw03_witness.calls k3 _ _ l0_0 a0_1 _ _ l1_0 a1_1 x8_3 t521 _ ?side1 ?side2 ?side3 ?side4 A45.out).mono ?_); (case side1 => repeat (first | exact (Kd.C_below HR0_0.out HB.out) | (with_reducible refine Kd.C_alloc ?_ _) | (with_reducible refine Kd.C_drewN ?_ _) | (with_reducible refine Kd.C_drew ?_))); (case side2 => exact HC0_0.out); (case side3 => repeat (first | exact (Kd.C_below HR1_0.out HB.out) | (with_reducible refine Kd.C_alloc ?_ _) | (with_reducible refine Kd.C_drewN ?_ _) | (with_reducible refine Kd.C_drew ?_))); (case side4 => exact HC1_0.out); rintro e w69 ⟨rfl, hb⟩; refine ⟨_, rfl, ?_⟩; have n0_ := Aside0.mk (blk_below (g := gb512) (o := .cells #[.slice A0_0 l0_0.length c0_0, .bool a0_1] 24 (0, 0)) (by (with_reducible repeat (first | refine blk_drewN ?_ _ | refine blk_drew ?_ | refine blk_alloc ?_ _)); exact BK512.out) hb); have n1_ := Aside0.mk (blk_below (g := gb513) (o := .cells #[.slice A1_0 l1_0.length c1_0, .bool a1_1] 24 (0, 0)) (by (with_reducible repeat (first | refine blk_drewN ?_ _ | refine blk_drew ?_ | refine blk_alloc ?_ _)); exact BK513.out) hb); have n2_ := Aside0.mk (below_step (by repeat (first | (with_reducible first | exact HB.out | apply below_alloc | apply pw_below_drewN | apply below_drew1 | refine below_set ?_ GE512.out | refine below_set ?_ GE513.out) | exact HB.out)) hb); clear BK512; clear BK513; clear HB; have BK512 := n0_; have BK513 := n1_; have HB := n2_; clear n0_ n1_ n2_; (try clear hb); (try clear hb2); (try clear hk); (try clear hi); have hcz70_0 : w69.cell? ⟨gb512, 0, none⟩ = some (.slice A0_0 l0_0.length c0_0) := (blk_cell BK512.out 0).trans rfl; have hcz70_1 : w69.cell? ⟨gb512, 1, none⟩ = some (.bool a0_1) := (blk_cell BK512.out 1).trans rfl; have hfz70_0 := blk_frozen BK512.out 0; have hfz70_1 := blk_frozen BK512.out 1) | ((with_reducible refine gate_callee (f := 17) rfl ?_); refine goesL_ (some 48) rfl rfl Tryd.func17 (by kernel_rfl) rfl #[.agg #[.slice A0_0 l0_0.length c0_0, .bool a0_1], .string t521] rfl (by (try simp only [List.map_toArray, List.map_cons, List.map_nil]); first | done | rfl | (simp only [List.length_drop, List.length_take]; rfl)) ?_; (with_reducible refine (pattern_Match.calls k3 _ _ l0_0 a0_1 t521 t522 false _ ?side1 ?side2 A46.out).mono ?_); (case side1 => repeat (first | exact (Kd.C_below HR0_0.out HB.out) | (with_reducible refine Kd.C_alloc ?_ _) | (with_reducible refine Kd.C_drewN ?_ _) | (with_reducible refine Kd.C_drew ?_))); (case side2 => exact HC0_0.out); rintro e w71 ⟨v523, rfl, ho0, hb⟩; refine ⟨_, rfl, ?_⟩; have n0_ := Aside0.mk (Kd.R_lower ho0 (below_size (by repeat (first | (with_reducible first | exact HB.out | apply below_alloc | apply pw_below_drewN | apply below_drew1 | refine below_set ?_ GE512.out | refine below_set ?_ GE513.out) | exact HB.out)))); have n1_ := Aside0.mk (blk_below (g := gb512) (o := .cells #[.slice A0_0 l0_0.length c0_0, .bool a0_1] 24 (0, 0)) (by (with_reducible repeat (first | refine blk_drewN ?_ _ | refine blk_drew ?_ | refine blk_alloc ?_ _)); exact BK512.out) hb); have n2_ := Aside0.mk (blk_below (g := gb513) (o := .cells #[.slice A1_0 l1_0.length c1_0, .bool a1_1] 24 (0, 0)) (by (with_reducible repeat (first | refine blk_drewN ?_ _ | refine blk_drew ?_ | refine blk_alloc ?_ _)); exact BK513.out) hb); have n3_ := Aside0.mk (below_step (by repeat (first | (with_reducible first | exact HB.out | apply below_alloc | apply pw_below_drewN | apply below_drew1 | refine below_set ?_ GE512.out | refine below_set ?_ GE513.out) | exact HB.out)) hb); clear BK512; clear BK513; clear HB; have HO524 := n0_; have BK512 := n1_; have BK513 := n2_; have HB := n3_; clear n0_ n1_ n2_ n3_; (try clear hb); (try clear hb2); (try clear hk); (try clear hi); (try clear ho0)))
                    go_ret
                    exact ⟨by first | rfl | (simp [errW_none, errW_some] <;> rfl) | (simp [*, errW_none, errW_some] <;> rfl), by repeat (first | (with_reducible first | exact HB.out | apply below_alloc | apply pw_below_drewN | apply below_drew1 | refine below_set ?_ GE512.out | refine below_set ?_ GE513.out) | exact HB.out)⟩
                · rw [if_neg c44] at H
                  have c44b0 : decide (x8_3 ≤ x6_39) = false := decide_eq_false c44
                  clear c44
                  replace H := Option.bind_eq_some_iff.mp H
                  obtain ⟨t519, A720, H⟩ := H
                  replace H : (if (t519 == x7_3) = true then ((stockyardlaw03_awake.f k3).bind fun t520 => (some t520)) else (some false)) = some r := H
                  have A72 := Aside0.mk A720
                  clear A720
                  by_cases c73 : (t519 == x7_3) = true
                  · rw [if_pos c73] at H
                    have c73b0 : (t519 == x7_3) = true := c73
                    (try (have c73b1 : decide (t519 = x7_3) = true := by simpa using c73))
                    (try (have c73b2 : (t519 == x7_3) = true := by simpa using c73))
                    clear c73
                    replace H := Option.bind_eq_some_iff.mp H
                    obtain ⟨t520, A740, H⟩ := H
                    replace H : (some t520) = some r := H
                    have A74 := Aside0.mk A740
                    clear A740
                    obtain rfl := Option.some.inj H
                    have hnb75 := NB512_513.out
                    have hnc75 := NB513_512.out
                    have hcz76_0 : wr.cell? ⟨gb512, 0, none⟩ = some (.slice A0_0 l0_0.length c0_0) := (blk_cell BK512.out 0).trans rfl
                    have hcz76_1 : wr.cell? ⟨gb512, 1, none⟩ = some (.bool a0_1) := (blk_cell BK512.out 1).trans rfl
                    have hfz76_0 := blk_frozen BK512.out 0
                    have hfz76_1 := blk_frozen BK512.out 1
                    have hcz77_0 : wr.cell? ⟨gb513, 0, none⟩ = some (.slice A1_0 l1_0.length c1_0) := (blk_cell BK513.out 0).trans rfl
                    have hcz77_1 : wr.cell? ⟨gb513, 1, none⟩ = some (.bool a1_1) := (blk_cell BK513.out 1).trans rfl
                    have hfz77_0 := blk_frozen BK513.out 0
                    have hfz77_1 := blk_frozen BK513.out 1
                    go_wp2_with (first | ((with_reducible refine gate_callee (f := 18) rfl ?_); refine goesL_ (some 65) rfl rfl Tryd.func18 (by kernel_rfl) rfl #[.agg #[.slice A0_0 l0_0.length c0_0, .bool a0_1], .agg #[.slice A1_0 l1_0.length c1_0, .bool a1_1]] rfl (by (try simp only [List.map_toArray, List.map_cons, List.map_nil]); first | done | rfl | (simp only [List.length_drop, List.length_take]; rfl)) ?_; (with_reducible refine (pattern_Within.calls k3 _ _ l0_0 a0_1 _ _ l1_0 a1_1 t519 _ ?side1 ?side2 ?side3 ?side4 A72.out).mono ?_); (case side1 => repeat (first | exact (Kd.C_below HR0_0.out HB.out) | (with_reducible refine Kd.C_alloc ?_ _) | (with_reducible refine Kd.C_drewN ?_ _) | (with_reducible refine Kd.C_drew ?_))); (case side2 => exact HC0_0.out); (case side3 => repeat (first | exact (Kd.C_below HR1_0.out HB.out) | (with_reducible refine Kd.C_alloc ?_ _) | (with_reducible refine Kd.C_drewN ?_ _) | (with_reducible refine Kd.C_drew ?_))); (case side4 => exact HC1_0.out); rintro e w78 ⟨rfl, hb⟩; refine ⟨_, rfl, ?_⟩; have n0_ := Aside0.mk (blk_below (g := gb512) (o := .cells #[.slice A0_0 l0_0.length c0_0, .bool a0_1] 24 (0, 0)) (by (with_reducible repeat (first | refine blk_drewN ?_ _ | refine blk_drew ?_ | refine blk_alloc ?_ _)); exact BK512.out) hb); have n1_ := Aside0.mk (blk_below (g := gb513) (o := .cells #[.slice A1_0 l1_0.length c1_0, .bool a1_1] 24 (0, 0)) (by (with_reducible repeat (first | refine blk_drewN ?_ _ | refine blk_drew ?_ | refine blk_alloc ?_ _)); exact BK513.out) hb); have n2_ := Aside0.mk (below_step (by repeat (first | (with_reducible first | exact HB.out | apply below_alloc | apply pw_below_drewN | apply below_drew1 | refine below_set ?_ GE512.out | refine below_set ?_ GE513.out) | exact HB.out)) hb); clear BK512; clear BK513; clear HB; have BK512 := n0_; have BK513 := n1_; have HB := n2_; clear n0_ n1_ n2_; (try clear hb); (try clear hb2); (try clear hk); (try clear hi)) | (go_at_call 12; (with_reducible refine (stockyardlaw03_awake.calls k3  t520 _ A74.out).mono ?_); rintro e w79 ⟨rfl, hb⟩; have n0_ := Aside0.mk (blk_below (g := gb512) (o := .cells #[.slice A0_0 l0_0.length c0_0, .bool a0_1] 24 (0, 0)) (by (with_reducible repeat (first | refine blk_drewN ?_ _ | refine blk_drew ?_ | refine blk_alloc ?_ _)); exact BK512.out) hb); have n1_ := Aside0.mk (blk_below (g := gb513) (o := .cells #[.slice A1_0 l1_0.length c1_0, .bool a1_1] 24 (0, 0)) (by (with_reducible repeat (first | refine blk_drewN ?_ _ | refine blk_drew ?_ | refine blk_alloc ?_ _)); exact BK513.out) hb); have n2_ := Aside0.mk (below_step (by repeat (first | (with_reducible first | exact HB.out | apply below_alloc | apply pw_below_drewN | apply below_drew1 | refine below_set ?_ GE512.out | refine below_set ?_ GE513.out) | exact HB.out)) hb); clear BK512; clear BK513; clear HB; have BK512 := n0_; have BK513 := n1_; have HB := n2_; clear n0_ n1_ n2_; (try clear hb); (try clear hb2); (try clear hk); (try clear hi)))
                    go_ret
                    exact ⟨by first | rfl | (simp [errW_none, errW_some] <;> rfl) | (simp [*, errW_none, errW_some] <;> rfl), by repeat (first | (with_reducible first | exact HB.out | apply below_alloc | apply pw_below_drewN | apply below_drew1 | refine below_set ?_ GE512.out | refine below_set ?_ GE513.out) | exact HB.out)⟩
                  · rw [if_neg c73] at H
                    have c73b0 : (t519 == x7_3) = false := by simpa using c73
                    (try (have c73b1 : decide (t519 = x7_3) = false := by simpa using c73))
                    (try (have c73b2 : (t519 == x7_3) = false := by simpa using c73))
                    (try (have c73b3 : ¬ (t519 = x7_3) := by simpa using c73))
                    clear c73
                    obtain rfl := Option.some.inj H
                    have hnb80 := NB512_513.out
                    have hnc80 := NB513_512.out
                    have hcz81_0 : wr.cell? ⟨gb512, 0, none⟩ = some (.slice A0_0 l0_0.length c0_0) := (blk_cell BK512.out 0).trans rfl
                    have hcz81_1 : wr.cell? ⟨gb512, 1, none⟩ = some (.bool a0_1) := (blk_cell BK512.out 1).trans rfl
                    have hfz81_0 := blk_frozen BK512.out 0
                    have hfz81_1 := blk_frozen BK512.out 1
                    have hcz82_0 : wr.cell? ⟨gb513, 0, none⟩ = some (.slice A1_0 l1_0.length c1_0) := (blk_cell BK513.out 0).trans rfl
                    have hcz82_1 : wr.cell? ⟨gb513, 1, none⟩ = some (.bool a1_1) := (blk_cell BK513.out 1).trans rfl
                    have hfz82_0 := blk_frozen BK513.out 0
                    have hfz82_1 := blk_frozen BK513.out 1
                    go_wp2_with (first | ((with_reducible refine gate_callee (f := 18) rfl ?_); refine goesL_ (some 65) rfl rfl Tryd.func18 (by kernel_rfl) rfl #[.agg #[.slice A0_0 l0_0.length c0_0, .bool a0_1], .agg #[.slice A1_0 l1_0.length c1_0, .bool a1_1]] rfl (by (try simp only [List.map_toArray, List.map_cons, List.map_nil]); first | done | rfl | (simp only [List.length_drop, List.length_take]; rfl)) ?_; (with_reducible refine (pattern_Within.calls k3 _ _ l0_0 a0_1 _ _ l1_0 a1_1 t519 _ ?side1 ?side2 ?side3 ?side4 A72.out).mono ?_); (case side1 => repeat (first | exact (Kd.C_below HR0_0.out HB.out) | (with_reducible refine Kd.C_alloc ?_ _) | (with_reducible refine Kd.C_drewN ?_ _) | (with_reducible refine Kd.C_drew ?_))); (case side2 => exact HC0_0.out); (case side3 => repeat (first | exact (Kd.C_below HR1_0.out HB.out) | (with_reducible refine Kd.C_alloc ?_ _) | (with_reducible refine Kd.C_drewN ?_ _) | (with_reducible refine Kd.C_drew ?_))); (case side4 => exact HC1_0.out); rintro e w83 ⟨rfl, hb⟩; refine ⟨_, rfl, ?_⟩; have n0_ := Aside0.mk (blk_below (g := gb512) (o := .cells #[.slice A0_0 l0_0.length c0_0, .bool a0_1] 24 (0, 0)) (by (with_reducible repeat (first | refine blk_drewN ?_ _ | refine blk_drew ?_ | refine blk_alloc ?_ _)); exact BK512.out) hb); have n1_ := Aside0.mk (blk_below (g := gb513) (o := .cells #[.slice A1_0 l1_0.length c1_0, .bool a1_1] 24 (0, 0)) (by (with_reducible repeat (first | refine blk_drewN ?_ _ | refine blk_drew ?_ | refine blk_alloc ?_ _)); exact BK513.out) hb); have n2_ := Aside0.mk (below_step (by repeat (first | (with_reducible first | exact HB.out | apply below_alloc | apply pw_below_drewN | apply below_drew1 | refine below_set ?_ GE512.out | refine below_set ?_ GE513.out) | exact HB.out)) hb); clear BK512; clear BK513; clear HB; have BK512 := n0_; have BK513 := n1_; have HB := n2_; clear n0_ n1_ n2_; (try clear hb); (try clear hb2); (try clear hk); (try clear hi)))
                    go_ret
                    exact ⟨by first | rfl | (simp [errW_none, errW_some] <;> rfl) | (simp [*, errW_none, errW_some] <;> rfl), by repeat (first | (with_reducible first | exact HB.out | apply below_alloc | apply pw_below_drewN | apply below_drew1 | refine below_set ?_ GE512.out | refine below_set ?_ GE513.out) | exact HB.out)⟩

end Go.Proofs.YtcpnmcbgcgkieaaDoor.P

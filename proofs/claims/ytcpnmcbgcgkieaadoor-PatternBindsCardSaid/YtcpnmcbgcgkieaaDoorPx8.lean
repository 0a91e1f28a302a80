-- Written by a program of this session (wip/gen.py) over the kit's print: each Go function as a plain Lean function, and the proof that the Go code comes to it. Nothing here is trusted: Lean checks it.
import Derived.Test.YtcpnmcbgcgkieaaDoorPx0
import Derived.Test.YtcpnmcbgcgkieaaDoorPx6
namespace Go.Proofs.YtcpnmcbgcgkieaaDoor.P
open Go.RowKit Go.Proofs.YtcpnmcbgcgkieaaDoorW.PrintWords Go.Proofs.YtcpnmcbgcgkieaaDoorW.PrintLast Go.Proofs.YtcpnmcbgcgkieaaDoorW.PrintMore
attribute [local go_sem] str_gtr str_leq str_geq max2_int min2_int max_two min_two max_three min_three max_four min_four   -- for this text's walks alone
set_option linter.unusedVariables false
set_option linter.unusedSimpArgs false

/-! ### stockyardref03_Within: function 23 -/
mutual
def stockyardref03_Within.j0 : Nat → Int → Bool → List ByteArray → Bool → List ByteArray → Bool → Option (Bool)
  | 0, _, _, _, _, _, _ => none
  | k + 1, x5, x25, x477000, x477001, x478000, x478001 => if x25 = true then (some false) else (if x478001 = true then (if (x477000.length : Int) = x5 then (stockyardref03_Within.j1 k (!x477001) x477000 x477001 x478000 x478001) else (stockyardref03_Within.j1 k false x477000 x477001 x478000 x478001)) else (if x477001 = true then (stockyardref03_Within.j1 k true x477000 x477001 x478000 x478001) else (if (x477000.length : Int) > x5 then (stockyardref03_Within.j1 k true x477000 x477001 x478000 x478001) else (stockyardref03_Within.j1 k false x477000 x477001 x478000 x478001))))
def stockyardref03_Within.j1 : Nat → Bool → List ByteArray → Bool → List ByteArray → Bool → Option (Bool)
  | 0, _, _, _, _, _ => none
  | k + 1, x55, x477000, x477001, x478000, x478001 => if x55 = true then (some false) else (stockyardref03_Within.l0 k x478000 (x478000.length : Int) 0 x477000 x477001)
def stockyardref03_Within.l0 : Nat → List ByteArray → Int → Int → List ByteArray → Bool → Option (Bool)
  | 0, _, _, _, _, _ => none
  | k + 1, x57, x58, x59, x477000, x477001 => if x59 < x58 then (if 0 ≤ x59 then (if x59 < (x57.length : Int) then (if x59 < (x477000.length : Int) then ((stockyardref03_Inside.f k (rdOf ByteArray.empty x477000 x59) (rdOf ByteArray.empty x57 x59)).bind fun t482 => (if t482 = true then (stockyardref03_Within.l0 k x57 x58 (wrap64 (x59 + 1)) x477000 x477001) else (some false))) else (none)) else (none)) else (none)) else (some true)
end
def stockyardref03_Within.f (k : Nat) (l0_0 : List ByteArray) (a0_1 : Bool) (l1_0 : List ByteArray) (a1_1 : Bool) : Option (Bool) := (stockyardref03_Check.f k l0_0 a0_1).bind fun t478 => (if t478 = 0 then ((stockyardref03_Check.f k l1_0 a1_1).bind fun t479 => (if t479 = 0 then (stockyardref03_Within.j0 k (l1_0.length : Int) (decide ((l0_0.length : Int) < (l1_0.length : Int))) l0_0 a0_1 l1_0 a1_1) else (stockyardref03_Within.j0 k (l1_0.length : Int) true l0_0 a0_1 l1_0 a1_1))) else (stockyardref03_Within.j0 k (l1_0.length : Int) true l0_0 a0_1 l1_0 a1_1))
theorem stockyardref03_Within.mono_l : ∀ k, (∀ y0 y1 y2 y3 y4 y5, LeO (stockyardref03_Within.j0 k y0 y1 y2 y3 y4 y5) (stockyardref03_Within.j0 (k + 1) y0 y1 y2 y3 y4 y5)) ∧ (∀ y0 y1 y2 y3 y4, LeO (stockyardref03_Within.j1 k y0 y1 y2 y3 y4) (stockyardref03_Within.j1 (k + 1) y0 y1 y2 y3 y4)) ∧ (∀ y0 y1 y2 y3 y4, LeO (stockyardref03_Within.l0 k y0 y1 y2 y3 y4) (stockyardref03_Within.l0 (k + 1) y0 y1 y2 y3 y4))
  | 0 => ⟨fun _ _ _ _ _ _ r h => by simp [stockyardref03_Within.j0] at h, fun _ _ _ _ _ r h => by simp [stockyardref03_Within.j1] at h, fun _ _ _ _ _ r h => by simp [stockyardref03_Within.l0] at h⟩
  | k + 1 => by
    obtain ⟨ih0, ih1, ih2⟩ := stockyardref03_Within.mono_l k
    refine ⟨?_, ?_, ?_⟩
    · intro y0 y1 y2 y3 y4 y5
      unfold stockyardref03_Within.j0
      repeat' first
      | (with_reducible exact ih0 _ _ _ _ _ _)
      | (with_reducible exact ih1 _ _ _ _ _)
      | (with_reducible exact ih2 _ _ _ _ _)
      | (with_reducible exact stockyardref03_Check.mono _ _ _)
      | (with_reducible exact stockyardref03_Inside.mono _ _ _)
      | (with_reducible exact LeO.refl _)
      | (with_reducible exact LeO.none _)
      | (with_reducible refine LeO.ite ?_ ?_)
      | (with_reducible refine LeO.bind ?_ (fun _ => ?_))
      | exact ih0 _ _ _ _ _ _
      | exact ih1 _ _ _ _ _
      | exact ih2 _ _ _ _ _
      | exact stockyardref03_Check.mono _ _ _
      | exact stockyardref03_Inside.mono _ _ _
      | exact LeO.none _
      | refine LeO.ite ?_ ?_
      | refine LeO.bind ?_ (fun _ => ?_)
    · intro y0 y1 y2 y3 y4
      unfold stockyardref03_Within.j1
      repeat' first
      | (with_reducible exact ih0 _ _ _ _ _ _)
      | (with_reducible exact ih1 _ _ _ _ _)
      | (with_reducible exact ih2 _ _ _ _ _)
      | (with_reducible exact stockyardref03_Check.mono _ _ _)
      | (with_reducible exact stockyardref03_Inside.mono _ _ _)
      | (with_reducible exact LeO.refl _)
      | (with_reducible exact LeO.none _)
      | (with_reducible refine LeO.ite ?_ ?_)
      | (with_reducible refine LeO.bind ?_ (fun _ => ?_))
      | exact ih0 _ _ _ _ _ _
      | exact ih1 _ _ _ _ _
      | exact ih2 _ _ _ _ _
      | exact stockyardref03_Check.mono _ _ _
      | exact stockyardref03_Inside.mono _ _ _
      | exact LeO.none _
      | refine LeO.ite ?_ ?_
      | refine LeO.bind ?_ (fun _ => ?_)
    · intro y0 y1 y2 y3 y4
      unfold stockyardref03_Within.l0
      repeat' first
      | (with_reducible exact ih0 _ _ _ _ _ _)
      | (with_reducible exact ih1 _ _ _ _ _)
      | (with_reducible exact ih2 _ _ _ _ _)
      | (with_reducible exact stockyardref03_Check.mono _ _ _)
      | (with_reducible exact stockyardref03_Inside.mono _ _ _)
      | (with_reducible exact LeO.refl _)
      | (with_reducible exact LeO.none _)
      | (with_reducible refine LeO.ite ?_ ?_)
      | (with_reducible refine LeO.bind ?_ (fun _ => ?_))
      | exact ih0 _ _ _ _ _ _
      | exact ih1 _ _ _ _ _
      | exact ih2 _ _ _ _ _
      | exact stockyardref03_Check.mono _ _ _
      | exact stockyardref03_Inside.mono _ _ _
      | exact LeO.none _
      | refine LeO.ite ?_ ?_
      | refine LeO.bind ?_ (fun _ => ?_)
theorem stockyardref03_Within.mono : ∀ a0 a1 a2 a3 k, LeO (stockyardref03_Within.f k a0 a1 a2 a3) (stockyardref03_Within.f (k + 1) a0 a1 a2 a3) := by
  intro a0 a1 a2 a3 k
  obtain ⟨ih0, ih1, ih2⟩ := stockyardref03_Within.mono_l k
  unfold stockyardref03_Within.f
  repeat' first
      | (with_reducible exact ih0 _ _ _ _ _ _)
      | (with_reducible exact ih1 _ _ _ _ _)
      | (with_reducible exact ih2 _ _ _ _ _)
      | (with_reducible exact stockyardref03_Check.mono _ _ _)
      | (with_reducible exact stockyardref03_Inside.mono _ _ _)
      | (with_reducible exact LeO.refl _)
      | (with_reducible exact LeO.none _)
      | (with_reducible refine LeO.ite ?_ ?_)
      | (with_reducible refine LeO.bind ?_ (fun _ => ?_))
      | exact ih0 _ _ _ _ _ _
      | exact ih1 _ _ _ _ _
      | exact ih2 _ _ _ _ _
      | exact stockyardref03_Check.mono _ _ _
      | exact stockyardref03_Inside.mono _ _ _
      | exact LeO.none _
      | refine LeO.ite ?_ ?_
      | refine LeO.bind ?_ (fun _ => ?_)
set_option maxHeartbeats 8000000 in
set_option maxRecDepth 100000 in
theorem stockyardref03_Within.calls (k : Nat) (A0_0 : Option Addr) (c0_0 : Nat) (l0_0 : List ByteArray) (a0_1 : Bool) (A1_0 : Option Addr) (c1_0 : Nat) (l1_0 : List ByteArray) (a1_1 : Bool) (r : Bool) (w : World) (hr0_0 : Kd.C Kd.string w A0_0 l0_0.length l0_0) (hc0_0 : l0_0.length ≤ c0_0) (hr1_0 : Kd.C Kd.string w A1_0 l1_0.length l1_0) (hc1_0 : l1_0.length ≤ c1_0) (h : stockyardref03_Within.f k l0_0 a0_1 l1_0 a1_1 = some r) :
    Calls Tryd.prog 23 #[.agg #[.slice A0_0 l0_0.length c0_0, .bool a0_1], .agg #[.slice A1_0 l1_0.length c1_0, .bool a1_1]] w fun e w' => e = .returned (.bool r) ∧ Below w.heap.size w w' := by
  have hu24 := Tryd.underlying24
  have HR0_0 := Aside0.mk hr0_0
  have HC0_0 := Aside0.mk hc0_0
  clear hr0_0 hc0_0
  have HR1_0 := Aside0.mk hr1_0
  have HC1_0 := Aside0.mk hc1_0
  clear hr1_0 hc1_0
  have HB := Aside0.mk (Below.refl w.heap.size w)
  have H : ((stockyardref03_Check.f k l0_0 a0_1).bind fun t478 => (if t478 = 0 then ((stockyardref03_Check.f k l1_0 a1_1).bind fun t479 => (if t479 = 0 then (stockyardref03_Within.j0 k (l1_0.length : Int) (decide ((l0_0.length : Int) < (l1_0.length : Int))) l0_0 a0_1 l1_0 a1_1) else (stockyardref03_Within.j0 k (l1_0.length : Int) true l0_0 a0_1 l1_0 a1_1))) else (stockyardref03_Within.j0 k (l1_0.length : Int) true l0_0 a0_1 l1_0 a1_1))) = some r := h
  clear h
  have HC3 := Aside0.mk H
  clear H
  go_enter Tryd.func23, Tryd.ntmps23
  go_upto_region 2 with (first | ((with_reducible refine gate_dst (N := 2) rfl ?_); (try (refine gate_guard (by rfl) ?_; dsimp only)); refine box_event ?hg (N := 2) ?hd (cs := #[.slice A0_0 l0_0.length c0_0, .bool a0_1]) (t := 24) ?hr ?_; (case hd => rfl); (case hg => rfl); (case hr => first | (go_simp; done) | (go_simp; rfl)); intro gb476 hg w4 hbox hb; have n0_ := Aside0.mk (below_step (by repeat (first | (with_reducible first | exact HB.out | apply below_alloc | apply pw_below_drewN | apply below_drew1) | exact HB.out)) hb); have n1_ := Aside0.mk (hbox); have n2_ := Aside0.mk ((by rw [hg]; exact (below_size (by repeat (first | (with_reducible first | exact HB.out | apply below_alloc | apply pw_below_drewN | apply below_drew1) | exact HB.out))) : w.heap.size ≤ gb476)); have n3_ := Aside0.mk ((by rw [hg]; exact (below_size (by repeat (first | (with_reducible first | exact HB.out | apply below_alloc | apply pw_below_drewN | apply below_drew1) | exact HB.out))) : w.heap.size ≤ gb476)); clear HB; have HB := n0_; have BK476 := n1_; have GW476 := n2_; have GE476 := n3_; clear n0_ n1_ n2_ n3_; clear hb hbox hg) | ((with_reducible refine gate_dst (N := 3) rfl ?_); (try (refine gate_guard (by rfl) ?_; dsimp only)); refine box_event ?hg (N := 3) ?hd (cs := #[.slice A1_0 l1_0.length c1_0, .bool a1_1]) (t := 24) ?hr ?_; (case hd => rfl); (case hg => rfl); (case hr => first | (go_simp; done) | (go_simp; rfl)); intro gb477 hg w5 hbox hb; have n0_ := Aside0.mk (blk_below (g := gb476) (o := .cells #[.slice A0_0 l0_0.length c0_0, .bool a0_1] 24 (0, 0)) (by (with_reducible repeat (first | refine blk_drewN ?_ _ | refine blk_drew ?_ | refine blk_alloc ?_ _)); exact BK476.out) hb); have n1_ := Aside0.mk (below_step (by repeat (first | (with_reducible first | exact HB.out | apply below_alloc | apply pw_below_drewN | apply below_drew1 | refine below_set ?_ GE476.out) | exact HB.out)) hb); have n2_ := Aside0.mk (hbox); have n3_ := Aside0.mk ((by rw [hg]; exact (below_size (by repeat (first | (with_reducible first | exact HB.out | apply below_alloc | apply pw_below_drewN | apply below_drew1 | refine below_set ?_ GE476.out) | exact HB.out))) : w.heap.size ≤ gb477)); have n4_ := Aside0.mk ((by rw [hg]; exact (below_size (by repeat (first | (with_reducible first | exact HB.out | apply below_alloc | apply pw_below_drewN | apply below_drew1 | refine below_set ?_ GE476.out) | exact HB.out))) : w.heap.size ≤ gb477)); have n5_ := Aside0.mk ((by rw [hg]; exact Nat.ne_of_lt (blk_lt (g := gb476) (o := .cells #[.slice A0_0 l0_0.length c0_0, .bool a0_1] 24 (0, 0)) (by (with_reducible repeat (first | refine blk_drewN ?_ _ | refine blk_drew ?_ | refine blk_alloc ?_ _)); exact BK476.out)) : gb476 ≠ gb477)); have n6_ := Aside0.mk ((by rw [hg]; exact Nat.ne_of_gt (blk_lt (g := gb476) (o := .cells #[.slice A0_0 l0_0.length c0_0, .bool a0_1] 24 (0, 0)) (by (with_reducible repeat (first | refine blk_drewN ?_ _ | refine blk_drew ?_ | refine blk_alloc ?_ _)); exact BK476.out)) : gb477 ≠ gb476)); clear BK476; clear HB; have BK476 := n0_; have HB := n1_; have BK477 := n2_; have GW477 := n3_; have GE477 := n4_; have NB476_477 := n5_; have NB477_476 := n6_; clear n0_ n1_ n2_ n3_ n4_ n5_ n6_; clear hb hbox hg; have hnb6 := NB477_476.out; have hnc6 := NB476_477.out; have hcz7_0 : w5.cell? ⟨gb477, 0, none⟩ = some (.slice A1_0 l1_0.length c1_0) := (blk_cell BK477.out 0).trans rfl; have hcz7_1 : w5.cell? ⟨gb477, 1, none⟩ = some (.bool a1_1) := (blk_cell BK477.out 1).trans rfl; have hfz7_0 := blk_frozen BK477.out 0; have hfz7_1 := blk_frozen BK477.out 1))
  (try simp only [Act.put, List.setIfInBounds_toArray, List.set_cons_zero, List.set_cons_succ])
  go_cut [25] (fun v25 wc => ∃ (kq : Nat) (x25_2 : Bool), v25 = .bool x25_2 ∧ Aside0 (stockyardref03_Within.j0 kq (l1_0.length : Int) x25_2 l0_0 a0_1 l1_0 a1_1 = some r) ∧ Aside0 (kq ≤ k) ∧ Aside0 (wc.heap[gb476]? = some (.cells #[(.slice A0_0 l0_0.length c0_0), .bool a0_1] 24 (0, 0))) ∧ Aside0 (wc.heap[gb477]? = some (.cells #[(.slice A1_0 l1_0.length c1_0), .bool a1_1] 24 (0, 0))) ∧ Aside0 (Below w.heap.size w wc))
  case first =>
    have H := HC3.out
    clear HC3
    replace H := Option.bind_eq_some_iff.mp H
    obtain ⟨t478, A80, H⟩ := H
    replace H : (if t478 = 0 then ((stockyardref03_Check.f k l1_0 a1_1).bind fun t479 => (if t479 = 0 then (stockyardref03_Within.j0 k (l1_0.length : Int) (decide ((l0_0.length : Int) < (l1_0.length : Int))) l0_0 a0_1 l1_0 a1_1) else (stockyardref03_Within.j0 k (l1_0.length : Int) true l0_0 a0_1 l1_0 a1_1))) else (stockyardref03_Within.j0 k (l1_0.length : Int) true l0_0 a0_1 l1_0 a1_1)) = some r := H
    have A8 := Aside0.mk A80
    clear A80
    by_cases c9 : t478 = 0
    · rw [if_pos c9] at H
      have c9b0 : (t478 == 0) = true := beq_iff_eq.mpr c9
      have c9b1 : (t478 != 0) = false := bne_eq_false_iff_eq.mpr c9
      clear c9
      (first | rw [c9b0] | (simp only [i64_w, i32_w]; rw [c9b0]) | skip)
      replace H := Option.bind_eq_some_iff.mp H
      obtain ⟨t479, A100, H⟩ := H
      replace H : (if t479 = 0 then (stockyardref03_Within.j0 k (l1_0.length : Int) (decide ((l0_0.length : Int) < (l1_0.length : Int))) l0_0 a0_1 l1_0 a1_1) else (stockyardref03_Within.j0 k (l1_0.length : Int) true l0_0 a0_1 l1_0 a1_1)) = some r := H
      have A10 := Aside0.mk A100
      clear A100
      by_cases c11 : t479 = 0
      · rw [if_pos c11] at H
        have c11b0 : (t479 == 0) = true := beq_iff_eq.mpr c11
        have c11b1 : (t479 != 0) = false := bne_eq_false_iff_eq.mpr c11
        clear c11
        have H' := Aside0.mk H
        clear H
        have hnb12 := NB476_477.out
        have hnc12 := NB477_476.out
        have hcz13_0 : w5.cell? ⟨gb476, 0, none⟩ = some (.slice A0_0 l0_0.length c0_0) := (blk_cell BK476.out 0).trans rfl
        have hcz13_1 : w5.cell? ⟨gb476, 1, none⟩ = some (.bool a0_1) := (blk_cell BK476.out 1).trans rfl
        have hfz13_0 := blk_frozen BK476.out 0
        have hfz13_1 := blk_frozen BK476.out 1
        go_wp2_with (first | ((with_reducible refine gate_callee (f := 29) rfl ?_); refine goesL_ (some 12) rfl rfl Tryd.func29 (by kernel_rfl) rfl #[.agg #[.slice A0_0 l0_0.length c0_0, .bool a0_1]] rfl (by (try simp only [List.map_toArray, List.map_cons, List.map_nil]); first | done | rfl | (simp only [List.length_drop, List.length_take]; rfl)) ?_; (with_reducible refine (stockyardref03_Check.calls k _ _ l0_0 a0_1 t478 _ ?side1 ?side2 A8.out).mono ?_); (case side1 => repeat (first | exact (Kd.C_below HR0_0.out HB.out) | (with_reducible refine Kd.C_alloc ?_ _) | (with_reducible refine Kd.C_drewN ?_ _) | (with_reducible refine Kd.C_drew ?_))); (case side2 => exact HC0_0.out); rintro e w14 ⟨rfl, hb⟩; refine ⟨_, rfl, ?_⟩; have n0_ := Aside0.mk (blk_below (g := gb476) (o := .cells #[.slice A0_0 l0_0.length c0_0, .bool a0_1] 24 (0, 0)) (by (with_reducible repeat (first | refine blk_drewN ?_ _ | refine blk_drew ?_ | refine blk_alloc ?_ _)); exact BK476.out) hb); have n1_ := Aside0.mk (blk_below (g := gb477) (o := .cells #[.slice A1_0 l1_0.length c1_0, .bool a1_1] 24 (0, 0)) (by (with_reducible repeat (first | refine blk_drewN ?_ _ | refine blk_drew ?_ | refine blk_alloc ?_ _)); exact BK477.out) hb); have n2_ := Aside0.mk (below_step (by repeat (first | (with_reducible first | exact HB.out | apply below_alloc | apply pw_below_drewN | apply below_drew1 | refine below_set ?_ GE476.out | refine below_set ?_ GE477.out) | exact HB.out)) hb); clear BK476; clear BK477; clear HB; have BK476 := n0_; have BK477 := n1_; have HB := n2_; clear n0_ n1_ n2_; (try clear hb); (try clear hb2); (try clear hk); (try clear hi); have hcz15_0 : w14.cell? ⟨gb477, 0, none⟩ = some (.slice A1_0 l1_0.length c1_0) := (blk_cell BK477.out 0).trans rfl; have hcz15_1 : w14.cell? ⟨gb477, 1, none⟩ = some (.bool a1_1) := (blk_cell BK477.out 1).trans rfl; have hfz15_0 := blk_frozen BK477.out 0; have hfz15_1 := blk_frozen BK477.out 1) | (go_at_call 29; (with_reducible refine (stockyardref03_Check.calls k _ _ l1_0 a1_1 t479 _ ?side1 ?side2 A10.out).mono ?_); (case side1 => repeat (first | exact (Kd.C_below HR1_0.out HB.out) | (with_reducible refine Kd.C_alloc ?_ _) | (with_reducible refine Kd.C_drewN ?_ _) | (with_reducible refine Kd.C_drew ?_))); (case side2 => exact HC1_0.out); rintro e w16 ⟨rfl, hb⟩; have n0_ := Aside0.mk (blk_below (g := gb476) (o := .cells #[.slice A0_0 l0_0.length c0_0, .bool a0_1] 24 (0, 0)) (by (with_reducible repeat (first | refine blk_drewN ?_ _ | refine blk_drew ?_ | refine blk_alloc ?_ _)); exact BK476.out) hb); have n1_ := Aside0.mk (blk_below (g := gb477) (o := .cells #[.slice A1_0 l1_0.length c1_0, .bool a1_1] 24 (0, 0)) (by (with_reducible repeat (first | refine blk_drewN ?_ _ | refine blk_drew ?_ | refine blk_alloc ?_ _)); exact BK477.out) hb); have n2_ := Aside0.mk (below_step (by repeat (first | (with_reducible first | exact HB.out | apply below_alloc | apply pw_below_drewN | apply below_drew1 | refine below_set ?_ GE476.out | refine below_set ?_ GE477.out) | exact HB.out)) hb); clear BK476; clear BK477; clear HB; have BK476 := n0_; have BK477 := n1_; have HB := n2_; clear n0_ n1_ n2_; (try clear hb); (try clear hb2); (try clear hk); (try clear hi); have hcz17_0 : w16.cell? ⟨gb476, 0, none⟩ = some (.slice A0_0 l0_0.length c0_0) := (blk_cell BK476.out 0).trans rfl; have hcz17_1 : w16.cell? ⟨gb476, 1, none⟩ = some (.bool a0_1) := (blk_cell BK476.out 1).trans rfl; have hfz17_0 := blk_frozen BK476.out 0; have hfz17_1 := blk_frozen BK476.out 1))
        go_meet
        case rel => exact ⟨_, (decide ((l0_0.length : Int) < (l1_0.length : Int))), (by first | rfl | (simp; done) | (simp [*]; done)), H', ⟨by first | omega | exact Nat.le_refl _⟩, ⟨by (with_reducible repeat (first | refine blk_drewN ?_ _ | refine blk_drew ?_ | refine blk_alloc ?_ _)); exact BK476.out⟩, ⟨by (with_reducible repeat (first | refine blk_drewN ?_ _ | refine blk_drew ?_ | refine blk_alloc ?_ _)); exact BK477.out⟩, ⟨by repeat (first | (with_reducible first | exact HB.out | apply below_alloc | apply pw_below_drewN | apply below_drew1 | refine below_set ?_ GE476.out | refine below_set ?_ GE477.out) | exact HB.out)⟩⟩
      · rw [if_neg c11] at H
        have c11b0 : (t479 == 0) = false := beq_eq_false_iff_ne.mpr c11
        have c11b1 : (t479 != 0) = true := bne_iff_ne.mpr c11
        have H' := Aside0.mk H
        clear H
        have hnb18 := NB476_477.out
        have hnc18 := NB477_476.out
        have hcz19_0 : w5.cell? ⟨gb476, 0, none⟩ = some (.slice A0_0 l0_0.length c0_0) := (blk_cell BK476.out 0).trans rfl
        have hcz19_1 : w5.cell? ⟨gb476, 1, none⟩ = some (.bool a0_1) := (blk_cell BK476.out 1).trans rfl
        have hfz19_0 := blk_frozen BK476.out 0
        have hfz19_1 := blk_frozen BK476.out 1
        go_wp2_with (first | ((with_reducible refine gate_callee (f := 29) rfl ?_); refine goesL_ (some 12) rfl rfl Tryd.func29 (by kernel_rfl) rfl #[.agg #[.slice A0_0 l0_0.length c0_0, .bool a0_1]] rfl (by (try simp only [List.map_toArray, List.map_cons, List.map_nil]); first | done | rfl | (simp only [List.length_drop, List.length_take]; rfl)) ?_; (with_reducible refine (stockyardref03_Check.calls k _ _ l0_0 a0_1 t478 _ ?side1 ?side2 A8.out).mono ?_); (case side1 => repeat (first | exact (Kd.C_below HR0_0.out HB.out) | (with_reducible refine Kd.C_alloc ?_ _) | (with_reducible refine Kd.C_drewN ?_ _) | (with_reducible refine Kd.C_drew ?_))); (case side2 => exact HC0_0.out); rintro e w20 ⟨rfl, hb⟩; refine ⟨_, rfl, ?_⟩; have n0_ := Aside0.mk (blk_below (g := gb476) (o := .cells #[.slice A0_0 l0_0.length c0_0, .bool a0_1] 24 (0, 0)) (by (with_reducible repeat (first | refine blk_drewN ?_ _ | refine blk_drew ?_ | refine blk_alloc ?_ _)); exact BK476.out) hb); have n1_ := Aside0.mk (blk_below (g := gb477) (o := .cells #[.slice A1_0 l1_0.length c1_0, .bool a1_1] 24 (0, 0)) (by (with_reducible repeat (first | refine blk_drewN ?_ _ | refine blk_drew ?_ | refine blk_alloc ?_ _)); exact BK477.out) hb); have n2_ := Aside0.mk (below_step (by repeat (first | (with_reducible first | exact HB.out | apply below_alloc | apply pw_below_drewN | apply below_drew1 | refine below_set ?_ GE476.out | refine below_set ?_ GE477.out) | exact HB.out)) hb); clear BK476; clear BK477; clear HB; have BK476 := n0_; have BK477 := n1_; have HB := n2_; clear n0_ n1_ n2_; (try clear hb); (try clear hb2); (try clear hk); (try clear hi); have hcz21_0 : w20.cell? ⟨gb477, 0, none⟩ = some (.slice A1_0 l1_0.length c1_0) := (blk_cell BK477.out 0).trans rfl; have hcz21_1 : w20.cell? ⟨gb477, 1, none⟩ = some (.bool a1_1) := (blk_cell BK477.out 1).trans rfl; have hfz21_0 := blk_frozen BK477.out 0; have hfz21_1 := blk_frozen BK477.out 1) | (go_at_call 29; (with_reducible refine (stockyardref03_Check.calls k _ _ l1_0 a1_1 t479 _ ?side1 ?side2 A10.out).mono ?_); (case side1 => repeat (first | exact (Kd.C_below HR1_0.out HB.out) | (with_reducible refine Kd.C_alloc ?_ _) | (with_reducible refine Kd.C_drewN ?_ _) | (with_reducible refine Kd.C_drew ?_))); (case side2 => exact HC1_0.out); rintro e w22 ⟨rfl, hb⟩; have n0_ := Aside0.mk (blk_below (g := gb476) (o := .cells #[.slice A0_0 l0_0.length c0_0, .bool a0_1] 24 (0, 0)) (by (with_reducible repeat (first | refine blk_drewN ?_ _ | refine blk_drew ?_ | refine blk_alloc ?_ _)); exact BK476.out) hb); have n1_ := Aside0.mk (blk_below (g := gb477) (o := .cells #[.slice A1_0 l1_0.length c1_0, .bool a1_1] 24 (0, 0)) (by (with_reducible repeat (first | refine blk_drewN ?_ _ | refine blk_drew ?_ | refine blk_alloc ?_ _)); exact BK477.out) hb); have n2_ := Aside0.mk (below_step (by repeat (first | (with_reducible first | exact HB.out | apply below_alloc | apply pw_below_drewN | apply below_drew1 | refine below_set ?_ GE476.out | refine below_set ?_ GE477.out) | exact HB.out)) hb); clear BK476; clear BK477; clear HB; have BK476 := n0_; have BK477 := n1_; have HB := n2_; clear n0_ n1_ n2_; (try clear hb); (try clear hb2); (try clear hk); (try clear hi)))
        go_meet
        case rel => exact ⟨_, (true), (by first | rfl | (simp; done) | (simp [*]; done)), H', ⟨by first | omega | exact Nat.le_refl _⟩, ⟨by (with_reducible repeat (first | refine blk_drewN ?_ _ | refine blk_drew ?_ | refine blk_alloc ?_ _)); exact BK476.out⟩, ⟨by (with_reducible repeat (first | refine blk_drewN ?_ _ | refine blk_drew ?_ | refine blk_alloc ?_ _)); exact BK477.out⟩, ⟨by repeat (first | (with_reducible first | exact HB.out | apply below_alloc | apply pw_below_drewN | apply below_drew1 | refine below_set ?_ GE476.out | refine below_set ?_ GE477.out) | exact HB.out)⟩⟩
    · rw [if_neg c9] at H
      have c9b0 : (t478 == 0) = false := beq_eq_false_iff_ne.mpr c9
      have c9b1 : (t478 != 0) = true := bne_iff_ne.mpr c9
      (first | rw [c9b0] | (simp only [i64_w, i32_w]; rw [c9b0]) | skip)
      have H' := Aside0.mk H
      clear H
      have hnb23 := NB476_477.out
      have hnc23 := NB477_476.out
      have hcz24_0 : w5.cell? ⟨gb476, 0, none⟩ = some (.slice A0_0 l0_0.length c0_0) := (blk_cell BK476.out 0).trans rfl
      have hcz24_1 : w5.cell? ⟨gb476, 1, none⟩ = some (.bool a0_1) := (blk_cell BK476.out 1).trans rfl
      have hfz24_0 := blk_frozen BK476.out 0
      have hfz24_1 := blk_frozen BK476.out 1
      go_wp2_with (first | ((with_reducible refine gate_callee (f := 29) rfl ?_); refine goesL_ (some 12) rfl rfl Tryd.func29 (by kernel_rfl) rfl #[.agg #[.slice A0_0 l0_0.length c0_0, .bool a0_1]] rfl (by (try simp only [List.map_toArray, List.map_cons, List.map_nil]); first | done | rfl | (simp only [List.length_drop, List.length_take]; rfl)) ?_; (with_reducible refine (stockyardref03_Check.calls k _ _ l0_0 a0_1 t478 _ ?side1 ?side2 A8.out).mono ?_); (case side1 => repeat (first | exact (Kd.C_below HR0_0.out HB.out) | (with_reducible refine Kd.C_alloc ?_ _) | (with_reducible refine Kd.C_drewN ?_ _) | (with_reducible refine Kd.C_drew ?_))); (case side2 => exact HC0_0.out); rintro e w25 ⟨rfl, hb⟩; refine ⟨_, rfl, ?_⟩; have n0_ := Aside0.mk (blk_below (g := gb476) (o := .cells #[.slice A0_0 l0_0.length c0_0, .bool a0_1] 24 (0, 0)) (by (with_reducible repeat (first | refine blk_drewN ?_ _ | refine blk_drew ?_ | refine blk_alloc ?_ _)); exact BK476.out) hb); have n1_ := Aside0.mk (blk_below (g := gb477) (o := .cells #[.slice A1_0 l1_0.length c1_0, .bool a1_1] 24 (0, 0)) (by (with_reducible repeat (first | refine blk_drewN ?_ _ | refine blk_drew ?_ | refine blk_alloc ?_ _)); exact BK477.out) hb); have n2_ := Aside0.mk (below_step (by repeat (first | (with_reducible first | exact HB.out | apply below_alloc | apply pw_below_drewN | apply below_drew1 | refine below_set ?_ GE476.out | refine below_set ?_ GE477.out) | exact HB.out)) hb); clear BK476; clear BK477; clear HB; have BK476 := n0_; have BK477 := n1_; have HB := n2_; clear n0_ n1_ n2_; (try clear hb); (try clear hb2); (try clear hk); (try clear hi)))
      go_meet
      case rel => exact ⟨_, (true), (by first | rfl | (simp; done) | (simp [*]; done)), H', ⟨by first | omega | exact Nat.le_refl _⟩, ⟨by (with_reducible repeat (first | refine blk_drewN ?_ _ | refine blk_drew ?_ | refine blk_alloc ?_ _)); exact BK476.out⟩, ⟨by (with_reducible repeat (first | refine blk_drewN ?_ _ | refine blk_drew ?_ | refine blk_alloc ?_ _)); exact BK477.out⟩, ⟨by repeat (first | (with_reducible first | exact HB.out | apply below_alloc | apply pw_below_drewN | apply below_drew1 | refine below_set ?_ GE476.out | refine below_set ?_ GE477.out) | exact HB.out)⟩⟩
  case rest =>
    clear HC3
    try clear c1
    try clear c2
    try clear p2
    try clear c6
    try clear c9
    try clear c9b0
    try clear c9b1
    try clear c11
    try clear c11b0
    try clear c11b1
    try clear c12
    try clear c18
    try clear c23
    try clear hcz13_0
    try clear hcz13_1
    try clear hcz15_0
    try clear hcz15_1
    try clear hcz17_0
    try clear hcz17_1
    try clear hcz19_0
    try clear hcz19_1
    try clear hcz21_0
    try clear hcz21_1
    try clear hcz24_0
    try clear hcz24_1
    try clear hcz7_0
    try clear hcz7_1
    try clear hfz13_0
    try clear hfz13_1
    try clear hfz15_0
    try clear hfz15_1
    try clear hfz17_0
    try clear hfz17_1
    try clear hfz19_0
    try clear hfz19_1
    try clear hfz21_0
    try clear hfz21_1
    try clear hfz24_0
    try clear hfz24_1
    try clear hfz7_0
    try clear hfz7_1
    obtain ⟨kq, x25_2, rfl, HA, HJ2, BK476, BK477, HB⟩ := hcut
    cases kq with
    | zero => exact absurd HA.out (by simp [stockyardref03_Within.j0])
    | succ kj2 =>
      have H := HA.out
      clear HA
      simp only [stockyardref03_Within.j0] at H
      by_cases c26 : x25_2 = true
      · subst c26
        have H1 : (some false) = some r := by rw [if_pos rfl] at H; exact H
        clear H
        have H := H1
        clear H1
        obtain rfl := Option.some.inj H
        go_wp2
        go_ret
        exact ⟨by first | rfl | (simp [errW_none, errW_some] <;> rfl) | (simp [*, errW_none, errW_some] <;> rfl), by repeat (first | (with_reducible first | exact HB.out | apply below_alloc | apply pw_below_drewN | apply below_drew1 | refine below_set ?_ GE476.out | refine below_set ?_ GE477.out) | exact HB.out)⟩
      · replace c26 := Bool.eq_false_iff.mpr c26
        subst c26
        have H1 : (if a1_1 = true then (if (l0_0.length : Int) = (l1_0.length : Int) then (stockyardref03_Within.j1 kj2 (!a0_1) l0_0 a0_1 l1_0 a1_1) else (stockyardref03_Within.j1 kj2 false l0_0 a0_1 l1_0 a1_1)) else (if a0_1 = true then (stockyardref03_Within.j1 kj2 true l0_0 a0_1 l1_0 a1_1) else (if (l0_0.length : Int) > (l1_0.length : Int) then (stockyardref03_Within.j1 kj2 true l0_0 a0_1 l1_0 a1_1) else (stockyardref03_Within.j1 kj2 false l0_0 a0_1 l1_0 a1_1)))) = some r := by rw [if_neg (show ¬ (false = true) by decide)] at H; exact H
        clear H
        have H := H1
        clear H1
        have HC27 := Aside0.mk H
        clear H
        go_upto_region 4 with (fail)
        go_cut [55] (fun v55 wc => ∃ (kq : Nat) (x55_26 : Bool), v55 = .bool x55_26 ∧ Aside0 (stockyardref03_Within.j1 kq x55_26 l0_0 a0_1 l1_0 a1_1 = some r) ∧ Aside0 (kq ≤ kj2) ∧ Aside0 (wc.heap[gb476]? = some (.cells #[(.slice A0_0 l0_0.length c0_0), .bool a0_1] 24 (0, 0))) ∧ Aside0 (wc.heap[gb477]? = some (.cells #[(.slice A1_0 l1_0.length c1_0), .bool a1_1] 24 (0, 0))) ∧ Aside0 (Below w.heap.size w wc))
        case first =>
          have H := HC27.out
          clear HC27
          by_cases c28 : a1_1 = true
          · subst c28
            have H1 : (if (l0_0.length : Int) = (l1_0.length : Int) then (stockyardref03_Within.j1 kj2 (!a0_1) l0_0 a0_1 l1_0 true) else (stockyardref03_Within.j1 kj2 false l0_0 a0_1 l1_0 true)) = some r := by rw [if_pos rfl] at H; exact H
            clear H
            have H := H1
            clear H1
            by_cases c29 : (l0_0.length : Int) = (l1_0.length : Int)
            · rw [if_pos c29] at H
              have c29b0 : ((l0_0.length : Int) == (l1_0.length : Int)) = true := beq_iff_eq.mpr c29
              have c29b1 : ((l0_0.length : Int) != (l1_0.length : Int)) = false := bne_eq_false_iff_eq.mpr c29
              have c29b2 : (l0_0.length == l1_0.length) = true := by first | simpa using c29 | (simp at c29 ⊢; omega)
              clear c29
              (first | rw [c29b0] | (simp only [i64_w, i32_w]; rw [c29b0]) | skip)
              have H' := Aside0.mk H
              clear H
              have hnb30 := NB477_476.out
              have hnc30 := NB476_477.out
              have hcz31_0 : wc.cell? ⟨gb477, 0, none⟩ = some (.slice A1_0 l1_0.length c1_0) := (blk_cell BK477.out 0).trans rfl
              have hcz31_1 : wc.cell? ⟨gb477, 1, none⟩ = some (.bool true) := (blk_cell BK477.out 1).trans rfl
              have hfz31_0 := blk_frozen BK477.out 0
              have hfz31_1 := blk_frozen BK477.out 1
              have hcz32_0 : wc.cell? ⟨gb476, 0, none⟩ = some (.slice A0_0 l0_0.length c0_0) := (blk_cell BK476.out 0).trans rfl
              have hcz32_1 : wc.cell? ⟨gb476, 1, none⟩ = some (.bool a0_1) := (blk_cell BK476.out 1).trans rfl
              have hfz32_0 := blk_frozen BK476.out 0
              have hfz32_1 := blk_frozen BK476.out 1
              go_wp2
              go_meet
              case rel => exact ⟨_, (!a0_1), (by first | rfl | (simp; done) | (simp [*]; done)), H', ⟨by have := HJ2.out; first | omega | exact Nat.le_refl _⟩, ⟨by (with_reducible repeat (first | refine blk_drewN ?_ _ | refine blk_drew ?_ | refine blk_alloc ?_ _)); exact BK476.out⟩, ⟨by (with_reducible repeat (first | refine blk_drewN ?_ _ | refine blk_drew ?_ | refine blk_alloc ?_ _)); exact BK477.out⟩, ⟨by repeat (first | (with_reducible first | exact HB.out | apply below_alloc | apply pw_below_drewN | apply below_drew1 | refine below_set ?_ GE476.out | refine below_set ?_ GE477.out) | exact HB.out)⟩⟩
            · rw [if_neg c29] at H
              have c29b0 : ((l0_0.length : Int) == (l1_0.length : Int)) = false := beq_eq_false_iff_ne.mpr c29
              have c29b1 : ((l0_0.length : Int) != (l1_0.length : Int)) = true := bne_iff_ne.mpr c29
              have c29b2 : (l0_0.length == l1_0.length) = false := by first | simpa using c29 | (simp at c29 ⊢; omega)
              (first | rw [c29b0] | (simp only [i64_w, i32_w]; rw [c29b0]) | skip)
              have H' := Aside0.mk H
              clear H
              have hnb33 := NB477_476.out
              have hnc33 := NB476_477.out
              have hcz34_0 : wc.cell? ⟨gb477, 0, none⟩ = some (.slice A1_0 l1_0.length c1_0) := (blk_cell BK477.out 0).trans rfl
              have hcz34_1 : wc.cell? ⟨gb477, 1, none⟩ = some (.bool true) := (blk_cell BK477.out 1).trans rfl
              have hfz34_0 := blk_frozen BK477.out 0
              have hfz34_1 := blk_frozen BK477.out 1
              have hcz35_0 : wc.cell? ⟨gb476, 0, none⟩ = some (.slice A0_0 l0_0.length c0_0) := (blk_cell BK476.out 0).trans rfl
              have hcz35_1 : wc.cell? ⟨gb476, 1, none⟩ = some (.bool a0_1) := (blk_cell BK476.out 1).trans rfl
              have hfz35_0 := blk_frozen BK476.out 0
              have hfz35_1 := blk_frozen BK476.out 1
              go_wp2
              go_meet
              case rel => exact ⟨_, (false), (by first | rfl | (simp; done) | (simp [*]; done)), H', ⟨by have := HJ2.out; first | omega | exact Nat.le_refl _⟩, ⟨by (with_reducible repeat (first | refine blk_drewN ?_ _ | refine blk_drew ?_ | refine blk_alloc ?_ _)); exact BK476.out⟩, ⟨by (with_reducible repeat (first | refine blk_drewN ?_ _ | refine blk_drew ?_ | refine blk_alloc ?_ _)); exact BK477.out⟩, ⟨by repeat (first | (with_reducible first | exact HB.out | apply below_alloc | apply pw_below_drewN | apply below_drew1 | refine below_set ?_ GE476.out | refine below_set ?_ GE477.out) | exact HB.out)⟩⟩
          · replace c28 := Bool.eq_false_iff.mpr c28
            subst c28
            have H1 : (if a0_1 = true then (stockyardref03_Within.j1 kj2 true l0_0 a0_1 l1_0 false) else (if (l0_0.length : Int) > (l1_0.length : Int) then (stockyardref03_Within.j1 kj2 true l0_0 a0_1 l1_0 false) else (stockyardref03_Within.j1 kj2 false l0_0 a0_1 l1_0 false))) = some r := by rw [if_neg (show ¬ (false = true) by decide)] at H; exact H
            clear H
            have H := H1
            clear H1
            by_cases c36 : a0_1 = true
            · subst c36
              have H1 : (stockyardref03_Within.j1 kj2 true l0_0 true l1_0 false) = some r := by rw [if_pos rfl] at H; exact H
              clear H
              have H := H1
              clear H1
              have H' := Aside0.mk H
              clear H
              have hnb37 := NB477_476.out
              have hnc37 := NB476_477.out
              have hcz38_0 : wc.cell? ⟨gb477, 0, none⟩ = some (.slice A1_0 l1_0.length c1_0) := (blk_cell BK477.out 0).trans rfl
              have hcz38_1 : wc.cell? ⟨gb477, 1, none⟩ = some (.bool false) := (blk_cell BK477.out 1).trans rfl
              have hfz38_0 := blk_frozen BK477.out 0
              have hfz38_1 := blk_frozen BK477.out 1
              have hcz39_0 : wc.cell? ⟨gb476, 0, none⟩ = some (.slice A0_0 l0_0.length c0_0) := (blk_cell BK476.out 0).trans rfl
              have hcz39_1 : wc.cell? ⟨gb476, 1, none⟩ = some (.bool true) := (blk_cell BK476.out 1).trans rfl
              have hfz39_0 := blk_frozen BK476.out 0
              have hfz39_1 := blk_frozen BK476.out 1
              go_wp2
              go_meet
              case rel => exact ⟨_, (true), (by first | rfl | (simp; done) | (simp [*]; done)), H', ⟨by have := HJ2.out; first | omega | exact Nat.le_refl _⟩, ⟨by (with_reducible repeat (first | refine blk_drewN ?_ _ | refine blk_drew ?_ | refine blk_alloc ?_ _)); exact BK476.out⟩, ⟨by (with_reducible repeat (first | refine blk_drewN ?_ _ | refine blk_drew ?_ | refine blk_alloc ?_ _)); exact BK477.out⟩, ⟨by repeat (first | (with_reducible first | exact HB.out | apply below_alloc | apply pw_below_drewN | apply below_drew1 | refine below_set ?_ GE476.out | refine below_set ?_ GE477.out) | exact HB.out)⟩⟩
            · replace c36 := Bool.eq_false_iff.mpr c36
              subst c36
              have H1 : (if (l0_0.length : Int) > (l1_0.length : Int) then (stockyardref03_Within.j1 kj2 true l0_0 false l1_0 false) else (stockyardref03_Within.j1 kj2 false l0_0 false l1_0 false)) = some r := by rw [if_neg (show ¬ (false = true) by decide)] at H; exact H
              clear H
              have H := H1
              clear H1
              by_cases c40 : (l0_0.length : Int) > (l1_0.length : Int)
              · rw [if_pos c40] at H
                have c40b0 : decide ((l1_0.length : Int) < (l0_0.length : Int)) = true := decide_eq_true c40
                have c40b1 : decide (l1_0.length < l0_0.length) = true := decide_eq_true (Int.ofNat_lt.mp c40)
                clear c40
                have H' := Aside0.mk H
                clear H
                have hnb41 := NB477_476.out
                have hnc41 := NB476_477.out
                have hcz42_0 : wc.cell? ⟨gb477, 0, none⟩ = some (.slice A1_0 l1_0.length c1_0) := (blk_cell BK477.out 0).trans rfl
                have hcz42_1 : wc.cell? ⟨gb477, 1, none⟩ = some (.bool false) := (blk_cell BK477.out 1).trans rfl
                have hfz42_0 := blk_frozen BK477.out 0
                have hfz42_1 := blk_frozen BK477.out 1
                have hcz43_0 : wc.cell? ⟨gb476, 0, none⟩ = some (.slice A0_0 l0_0.length c0_0) := (blk_cell BK476.out 0).trans rfl
                have hcz43_1 : wc.cell? ⟨gb476, 1, none⟩ = some (.bool false) := (blk_cell BK476.out 1).trans rfl
                have hfz43_0 := blk_frozen BK476.out 0
                have hfz43_1 := blk_frozen BK476.out 1
                go_wp2
                go_meet
                case rel => exact ⟨_, (true), (by first | rfl | (simp; done) | (simp [*]; done)), H', ⟨by have := HJ2.out; first | omega | exact Nat.le_refl _⟩, ⟨by (with_reducible repeat (first | refine blk_drewN ?_ _ | refine blk_drew ?_ | refine blk_alloc ?_ _)); exact BK476.out⟩, ⟨by (with_reducible repeat (first | refine blk_drewN ?_ _ | refine blk_drew ?_ | refine blk_alloc ?_ _)); exact BK477.out⟩, ⟨by repeat (first | (with_reducible first | exact HB.out | apply below_alloc | apply pw_below_drewN | apply below_drew1 | refine below_set ?_ GE476.out | refine below_set ?_ GE477.out) | exact HB.out)⟩⟩
              · rw [if_neg c40] at H
                have c40b0 : decide ((l1_0.length : Int) < (l0_0.length : Int)) = false := decide_eq_false c40
                have c40b1 : decide (l1_0.length < l0_0.length) = false := decide_eq_false (fun h => c40 (Int.ofNat_lt.mpr h))
                clear c40
                have H' := Aside0.mk H
                clear H
                have hnb44 := NB477_476.out
                have hnc44 := NB476_477.out
                have hcz45_0 : wc.cell? ⟨gb477, 0, none⟩ = some (.slice A1_0 l1_0.length c1_0) := (blk_cell BK477.out 0).trans rfl
                have hcz45_1 : wc.cell? ⟨gb477, 1, none⟩ = some (.bool false) := (blk_cell BK477.out 1).trans rfl
                have hfz45_0 := blk_frozen BK477.out 0
                have hfz45_1 := blk_frozen BK477.out 1
                have hcz46_0 : wc.cell? ⟨gb476, 0, none⟩ = some (.slice A0_0 l0_0.length c0_0) := (blk_cell BK476.out 0).trans rfl
                have hcz46_1 : wc.cell? ⟨gb476, 1, none⟩ = some (.bool false) := (blk_cell BK476.out 1).trans rfl
                have hfz46_0 := blk_frozen BK476.out 0
                have hfz46_1 := blk_frozen BK476.out 1
                go_wp2
                go_meet
                case rel => exact ⟨_, (false), (by first | rfl | (simp; done) | (simp [*]; done)), H', ⟨by have := HJ2.out; first | omega | exact Nat.le_refl _⟩, ⟨by (with_reducible repeat (first | refine blk_drewN ?_ _ | refine blk_drew ?_ | refine blk_alloc ?_ _)); exact BK476.out⟩, ⟨by (with_reducible repeat (first | refine blk_drewN ?_ _ | refine blk_drew ?_ | refine blk_alloc ?_ _)); exact BK477.out⟩, ⟨by repeat (first | (with_reducible first | exact HB.out | apply below_alloc | apply pw_below_drewN | apply below_drew1 | refine below_set ?_ GE476.out | refine below_set ?_ GE477.out) | exact HB.out)⟩⟩
        case rest =>
          clear HC27
          try clear c1
          try clear c2
          try clear p2
          try clear c3
          try clear c4
          try clear c6
          try clear c9
          try clear c9b0
          try clear c9b1
          try clear c11
          try clear c11b0
          try clear c11b1
          try clear c12
          try clear c18
          try clear c23
          try clear c26
          try clear c28
          try clear c29
          try clear c29b0
          try clear c29b1
          try clear c29b2
          try clear c30
          try clear c33
          try clear c36
          try clear c37
          try clear c40
          try clear c40b0
          try clear c40b1
          try clear c41
          try clear c44
          try clear hcz13_0
          try clear hcz13_1
          try clear hcz15_0
          try clear hcz15_1
          try clear hcz17_0
          try clear hcz17_1
          try clear hcz19_0
          try clear hcz19_1
          try clear hcz21_0
          try clear hcz21_1
          try clear hcz24_0
          try clear hcz24_1
          try clear hcz31_0
          try clear hcz31_1
          try clear hcz32_0
          try clear hcz32_1
          try clear hcz34_0
          try clear hcz34_1
          try clear hcz35_0
          try clear hcz35_1
          try clear hcz38_0
          try clear hcz38_1
          try clear hcz39_0
          try clear hcz39_1
          try clear hcz42_0
          try clear hcz42_1
          try clear hcz43_0
          try clear hcz43_1
          try clear hcz45_0
          try clear hcz45_1
          try clear hcz46_0
          try clear hcz46_1
          try clear hcz7_0
          try clear hcz7_1
          try clear hfz13_0
          try clear hfz13_1
          try clear hfz15_0
          try clear hfz15_1
          try clear hfz17_0
          try clear hfz17_1
          try clear hfz19_0
          try clear hfz19_1
          try clear hfz21_0
          try clear hfz21_1
          try clear hfz24_0
          try clear hfz24_1
          try clear hfz31_0
          try clear hfz31_1
          try clear hfz32_0
          try clear hfz32_1
          try clear hfz34_0
          try clear hfz34_1
          try clear hfz35_0
          try clear hfz35_1
          try clear hfz38_0
          try clear hfz38_1
          try clear hfz39_0
          try clear hfz39_1
          try clear hfz42_0
          try clear hfz42_1
          try clear hfz43_0
          try clear hfz43_1
          try clear hfz45_0
          try clear hfz45_1
          try clear hfz46_0
          try clear hfz46_1
          try clear hfz7_0
          try clear hfz7_1
          try clear p2
          obtain ⟨kq, x55_26, rfl, HA, HJ26, BK476, BK477, HB⟩ := hcut
          cases kq with
          | zero => exact absurd HA.out (by simp [stockyardref03_Within.j1])
          | succ kj26 =>
            have H := HA.out
            clear HA
            simp only [stockyardref03_Within.j1] at H
            by_cases c47 : x55_26 = true
            · subst c47
              have H1 : (some false) = some r := by rw [if_pos rfl] at H; exact H
              clear H
              have H := H1
              clear H1
              obtain rfl := Option.some.inj H
              go_wp2
              go_ret
              exact ⟨by first | rfl | (simp [errW_none, errW_some] <;> rfl) | (simp [*, errW_none, errW_some] <;> rfl), by repeat (first | (with_reducible first | exact HB.out | apply below_alloc | apply pw_below_drewN | apply below_drew1 | refine below_set ?_ GE476.out | refine below_set ?_ GE477.out) | exact HB.out)⟩
            · replace c47 := Bool.eq_false_iff.mpr c47
              subst c47
              have H1 : (stockyardref03_Within.l0 kj26 l1_0 (l1_0.length : Int) 0 l0_0 a0_1) = some r := by rw [if_neg (show ¬ (false = true) by decide)] at H; exact H
              clear H
              have H := H1
              clear H1
              have H' := Aside0.mk H
              clear H
              have hnb48 := NB477_476.out
              have hnc48 := NB476_477.out
              have hcz49_0 : wc.cell? ⟨gb477, 0, none⟩ = some (.slice A1_0 l1_0.length c1_0) := (blk_cell BK477.out 0).trans rfl
              have hcz49_1 : wc.cell? ⟨gb477, 1, none⟩ = some (.bool a1_1) := (blk_cell BK477.out 1).trans rfl
              have hfz49_0 := blk_frozen BK477.out 0
              have hfz49_1 := blk_frozen BK477.out 1
              go_wp2
              go_loopg [59] kj26 (fun kq v59 w' => ∃ (x59_3 : Int), v59 = .int .i64 x59_3 ∧ Aside0 (stockyardref03_Within.l0 kq l1_0 (l1_0.length : Int) x59_3 l0_0 a0_1 = some r) ∧ Aside0 (kq ≤ kj26) ∧ Aside0 (w'.heap[gb476]? = some (.cells #[(.slice A0_0 l0_0.length c0_0), .bool a0_1] 24 (0, 0))) ∧ Aside0 (w'.heap[gb477]? = some (.cells #[(.slice A1_0 l1_0.length c1_0), .bool a1_1] 24 (0, 0))) ∧ Aside0 (Below w.heap.size w w'))
              case atStart => exact ⟨(0), (by first | rfl | (simp; done) | (simp [*]; done)), H', ⟨Nat.le_refl _⟩, ⟨by (with_reducible repeat (first | refine blk_drewN ?_ _ | refine blk_drew ?_ | refine blk_alloc ?_ _)); exact BK476.out⟩, ⟨by (with_reducible repeat (first | refine blk_drewN ?_ _ | refine blk_drew ?_ | refine blk_alloc ?_ _)); exact BK477.out⟩, ⟨by repeat (first | (with_reducible first | exact HB.out | apply below_alloc | apply pw_below_drewN | apply below_drew1 | refine below_set ?_ GE476.out | refine below_set ?_ GE477.out) | exact HB.out)⟩⟩
              case round =>
                clear H'
                try clear c1
                try clear c2
                try clear p2
                try clear c3
                try clear c4
                try clear c6
                try clear c9
                try clear c9b0
                try clear c9b1
                try clear c11
                try clear c11b0
                try clear c11b1
                try clear c12
                try clear c18
                try clear c23
                try clear c26
                try clear c28
                try clear c29
                try clear c29b0
                try clear c29b1
                try clear c29b2
                try clear c30
                try clear c33
                try clear c36
                try clear c37
                try clear c40
                try clear c40b0
                try clear c40b1
                try clear c41
                try clear c44
                try clear c47
                try clear c48
                try clear hcz13_0
                try clear hcz13_1
                try clear hcz15_0
                try clear hcz15_1
                try clear hcz17_0
                try clear hcz17_1
                try clear hcz19_0
                try clear hcz19_1
                try clear hcz21_0
                try clear hcz21_1
                try clear hcz24_0
                try clear hcz24_1
                try clear hcz31_0
                try clear hcz31_1
                try clear hcz32_0
                try clear hcz32_1
                try clear hcz34_0
                try clear hcz34_1
                try clear hcz35_0
                try clear hcz35_1
                try clear hcz38_0
                try clear hcz38_1
                try clear hcz39_0
                try clear hcz39_1
                try clear hcz42_0
                try clear hcz42_1
                try clear hcz43_0
                try clear hcz43_1
                try clear hcz45_0
                try clear hcz45_1
                try clear hcz46_0
                try clear hcz46_1
                try clear hcz49_0
                try clear hcz49_1
                try clear hcz7_0
                try clear hcz7_1
                try clear hfz13_0
                try clear hfz13_1
                try clear hfz15_0
                try clear hfz15_1
                try clear hfz17_0
                try clear hfz17_1
                try clear hfz19_0
                try clear hfz19_1
                try clear hfz21_0
                try clear hfz21_1
                try clear hfz24_0
                try clear hfz24_1
                try clear hfz31_0
                try clear hfz31_1
                try clear hfz32_0
                try clear hfz32_1
                try clear hfz34_0
                try clear hfz34_1
                try clear hfz35_0
                try clear hfz35_1
                try clear hfz38_0
                try clear hfz38_1
                try clear hfz39_0
                try clear hfz39_1
                try clear hfz42_0
                try clear hfz42_1
                try clear hfz43_0
                try clear hfz43_1
                try clear hfz45_0
                try clear hfz45_1
                try clear hfz46_0
                try clear hfz46_1
                try clear hfz49_0
                try clear hfz49_1
                try clear hfz7_0
                try clear hfz7_1
                try clear p2
                obtain ⟨x59_3, rfl, HA, HK3, BK476, BK477, HB⟩ := hrel
                cases gk with
                | zero => exact absurd HA.out (by simp [stockyardref03_Within.l0])
                | succ k3 =>
                  have H := HA.out
                  clear HA
                  simp only [stockyardref03_Within.l0] at H
                  by_cases c50 : x59_3 < (l1_0.length : Int)
                  · rw [if_pos c50] at H
                    have c50b0 : decide (x59_3 < (l1_0.length : Int)) = true := decide_eq_true c50
                    clear c50
                    by_cases c51 : 0 ≤ x59_3
                    · rw [if_pos c51] at H
                      have c51b0 : decide (0 ≤ x59_3) = true := decide_eq_true c51
                      clear c51
                      by_cases c52 : x59_3 < (l1_0.length : Int)
                      · rw [if_pos c52] at H
                        have c52b0 : decide (x59_3 < (l1_0.length : Int)) = true := decide_eq_true c52
                        clear c52
                        by_cases c53 : x59_3 < (l0_0.length : Int)
                        · rw [if_pos c53] at H
                          have c53b0 : decide (x59_3 < (l0_0.length : Int)) = true := decide_eq_true c53
                          clear c53
                          replace H := Option.bind_eq_some_iff.mp H
                          obtain ⟨t482, A540, H⟩ := H
                          replace H : (if t482 = true then (stockyardref03_Within.l0 k3 l1_0 (l1_0.length : Int) (wrap64 (x59_3 + 1)) l0_0 a0_1) else (some false)) = some r := H
                          have A54 := Aside0.mk A540
                          clear A540
                          by_cases c55 : t482 = true
                          · subst c55
                            have H1 : (stockyardref03_Within.l0 k3 l1_0 (l1_0.length : Int) (wrap64 (x59_3 + 1)) l0_0 a0_1) = some r := by rw [if_pos rfl] at H; exact H
                            clear H
                            have H := H1
                            clear H1
                            have H' := Aside0.mk H
                            clear H
                            have p480 : 0 ≤ (x59_3 : Int) := of_decide_eq_true (by first | (with_reducible assumption) | assumption)
                            have q480 : x59_3 < (l1_0.length : Int) := of_decide_eq_true (by first | (with_reducible assumption) | assumption)
                            obtain ⟨ad480, e480, hx480_0⟩ := Kd.at_string HR1_0.out x59_3 p480 q480
                            cases e480
                            replace hx480_0 := (HB.out.cell (World.block_lt_of_cell? w _ hx480_0)).trans hx480_0
                            replace p480 := eq_true p480
                            replace q480 := eq_true q480
                            have hnb56 := NB476_477.out
                            have hnc56 := NB477_476.out
                            have hcz57_0 : wr.cell? ⟨gb476, 0, none⟩ = some (.slice A0_0 l0_0.length c0_0) := (blk_cell BK476.out 0).trans rfl
                            have hcz57_1 : wr.cell? ⟨gb476, 1, none⟩ = some (.bool a0_1) := (blk_cell BK476.out 1).trans rfl
                            have hfz57_0 := blk_frozen BK476.out 0
                            have hfz57_1 := blk_frozen BK476.out 1
                            have p481 : 0 ≤ (x59_3 : Int) := of_decide_eq_true (by first | (with_reducible assumption) | assumption)
                            have q481 : x59_3 < (l0_0.length : Int) := of_decide_eq_true (by first | (with_reducible assumption) | assumption)
                            obtain ⟨ad481, e481, hx481_0⟩ := Kd.at_string HR0_0.out x59_3 p481 q481
                            cases e481
                            replace hx481_0 := (HB.out.cell (World.block_lt_of_cell? w _ hx481_0)).trans hx481_0
                            replace p481 := eq_true p481
                            replace q481 := eq_true q481
                            go_wp2_with (first | ((with_reducible refine gate_callee (f := 30) rfl ?_); refine goesL_ (some 70) rfl rfl Tryd.func30 (by kernel_rfl) rfl #[.string (rdOf ByteArray.empty l0_0 x59_3), .string (rdOf ByteArray.empty l1_0 x59_3)] rfl (by (try simp only [List.map_toArray, List.map_cons, List.map_nil]); first | done | rfl | (simp only [List.length_drop, List.length_take]; rfl)) ?_; (with_reducible refine (stockyardref03_Inside.calls k3 (rdOf ByteArray.empty l0_0 x59_3) (rdOf ByteArray.empty l1_0 x59_3) true _ A54.out).mono ?_); rintro e w' ⟨rfl, ⟨nd, rfl⟩⟩; refine ⟨_, rfl, ?_⟩))
                            go_roundg k3
                            case measure => have := HJ2.out; have := HJ26.out; have := HK3.out; omega
                            case rel => exact ⟨(wrap64 (x59_3 + 1)), (by first | rfl | (simp; done) | (simp [*]; done)), H', ⟨by have := HJ2.out; have := HJ26.out; have := HK3.out; omega⟩, ⟨by (with_reducible repeat (first | refine blk_drewN ?_ _ | refine blk_drew ?_ | refine blk_alloc ?_ _)); exact BK476.out⟩, ⟨by (with_reducible repeat (first | refine blk_drewN ?_ _ | refine blk_drew ?_ | refine blk_alloc ?_ _)); exact BK477.out⟩, ⟨by repeat (first | (with_reducible first | exact HB.out | apply below_alloc | apply pw_below_drewN | apply below_drew1 | refine below_set ?_ GE476.out | refine below_set ?_ GE477.out) | exact HB.out)⟩⟩
                          · replace c55 := Bool.eq_false_iff.mpr c55
                            subst c55
                            have H1 : (some false) = some r := by rw [if_neg (show ¬ (false = true) by decide)] at H; exact H
                            clear H
                            have H := H1
                            clear H1
                            obtain rfl := Option.some.inj H
                            have p480 : 0 ≤ (x59_3 : Int) := of_decide_eq_true (by first | (with_reducible assumption) | assumption)
                            have q480 : x59_3 < (l1_0.length : Int) := of_decide_eq_true (by first | (with_reducible assumption) | assumption)
                            obtain ⟨ad480, e480, hx480_0⟩ := Kd.at_string HR1_0.out x59_3 p480 q480
                            cases e480
                            replace hx480_0 := (HB.out.cell (World.block_lt_of_cell? w _ hx480_0)).trans hx480_0
                            replace p480 := eq_true p480
                            replace q480 := eq_true q480
                            have hnb58 := NB476_477.out
                            have hnc58 := NB477_476.out
                            have hcz59_0 : wr.cell? ⟨gb476, 0, none⟩ = some (.slice A0_0 l0_0.length c0_0) := (blk_cell BK476.out 0).trans rfl
                            have hcz59_1 : wr.cell? ⟨gb476, 1, none⟩ = some (.bool a0_1) := (blk_cell BK476.out 1).trans rfl
                            have hfz59_0 := blk_frozen BK476.out 0
                            have hfz59_1 := blk_frozen BK476.out 1
                            have p481 : 0 ≤ (x59_3 : Int) := of_decide_eq_true (by first | (with_reducible assumption) | assumption)
                            have q481 : x59_3 < (l0_0.length : Int) := of_decide_eq_true (by first | (with_reducible assumption) | assumption)
                            obtain ⟨ad481, e481, hx481_0⟩ := Kd.at_string HR0_0.out x59_3 p481 q481
                            cases e481
                            replace hx481_0 := (HB.out.cell (World.block_lt_of_cell? w _ hx481_0)).trans hx481_0
                            replace p481 := eq_true p481
                            replace q481 := eq_true q481
                            go_wp2_with (first | ((with_reducible refine gate_callee (f := 30) rfl ?_); refine goesL_ (some 70) rfl rfl Tryd.func30 (by kernel_rfl) rfl #[.string (rdOf ByteArray.empty l0_0 x59_3), .string (rdOf ByteArray.empty l1_0 x59_3)] rfl (by (try simp only [List.map_toArray, List.map_cons, List.map_nil]); first | done | rfl | (simp only [List.length_drop, List.length_take]; rfl)) ?_; (with_reducible refine (stockyardref03_Inside.calls k3 (rdOf ByteArray.empty l0_0 x59_3) (rdOf ByteArray.empty l1_0 x59_3) false _ A54.out).mono ?_); rintro e w' ⟨rfl, ⟨nd, rfl⟩⟩; refine ⟨_, rfl, ?_⟩))
                            go_ret
                            exact ⟨by first | rfl | (simp [errW_none, errW_some] <;> rfl) | (simp [*, errW_none, errW_some] <;> rfl), by repeat (first | (with_reducible first | exact HB.out | apply below_alloc | apply pw_below_drewN | apply below_drew1 | refine below_set ?_ GE476.out | refine below_set ?_ GE477.out) | exact HB.out)⟩
                        · rw [if_neg c53] at H
                          exact absurd H (by simp)
                      · rw [if_neg c52] at H
                        exact absurd H (by simp)
                    · rw [if_neg c51] at H
                      exact absurd H (by simp)
                  · rw [if_neg c50] at H
                    have c50b0 : decide (x59_3 < (l1_0.length : Int)) = false := decide_eq_false c50
                    clear c50
                    obtain rfl := Option.some.inj H
                    go_wp2
                    go_ret
                    exact ⟨by first | rfl | (simp [errW_none, errW_some] <;> rfl) | (simp [*, errW_none, errW_some] <;> rfl), by repeat (first | (with_reducible first | exact HB.out | apply below_alloc | apply pw_below_drewN | apply below_drew1 | refine below_set ?_ GE476.out | refine below_set ?_ GE477.out) | exact HB.out)⟩

end Go.Proofs.YtcpnmcbgcgkieaaDoor.P

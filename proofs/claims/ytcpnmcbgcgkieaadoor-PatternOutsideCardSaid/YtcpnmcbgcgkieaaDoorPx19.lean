-- Written by a program of this session (wip/gen.py) over the kit's print: each Go function as a plain Lean function, and the proof that the Go code comes to it. Nothing here is trusted: Lean checks it.
import Derived.Test.YtcpnmcbgcgkieaaDoorPx0
import Derived.Test.YtcpnmcbgcgkieaaDoorPx2
import Derived.Test.YtcpnmcbgcgkieaaDoorPx3
namespace Go.Proofs.YtcpnmcbgcgkieaaDoor.P
open Go.RowKit Go.Proofs.YtcpnmcbgcgkieaaDoorW.PrintWords Go.Proofs.YtcpnmcbgcgkieaaDoorW.PrintLast Go.Proofs.YtcpnmcbgcgkieaaDoorW.PrintMore
attribute [local go_sem] str_gtr str_leq str_geq max2_int min2_int max_two min_two max_three min_three max_four min_four   -- for this text's walks alone
set_option linter.unusedVariables false
set_option linter.unusedSimpArgs false

/-! ### stockyardlaw03_witness: function 24 -/
mutual
def stockyardlaw03_witness.l0 : Nat → Int → List ByteArray → Int → List ByteArray → Bool → List ByteArray → Bool → Option (ByteArray)
  | 0, _, _, _, _, _, _, _ => none
  | k + 1, x2, x7, x8, x495000, x495001, x496000, x496001 => if x8 < (wrap64 ((x495000.length : Int) + x2)) then (if x8 < (x495000.length : Int) then (if 0 ≤ x8 then (stockyardlaw03_witness.j1 k x2 x7 x8 (rdOf ByteArray.empty x495000 x8) x495000 x495001 x496000 x496001) else (none)) else (stockyardlaw03_witness.j1 k x2 x7 x8 (⟨#[42]⟩ : ByteArray) x495000 x495001 x496000 x496001)) else ((strings_Join.f x7 (⟨#[47]⟩ : ByteArray)).bind fun t496 => (if 2 + t496.size ≤ 9223372036854775807 then (some ((⟨#[47, 47]⟩ : ByteArray) ++ t496)) else (none)))
def stockyardlaw03_witness.j1 : Nat → Int → List ByteArray → Int → ByteArray → List ByteArray → Bool → List ByteArray → Bool → Option (ByteArray)
  | 0, _, _, _, _, _, _, _, _ => none
  | k + 1, x2, x7, x8, x9, x495000, x495001, x496000, x496001 => (strings_HasPrefix.f x9 (⟨#[42]⟩ : ByteArray)).bind fun t498 => (if t498 = true then (if 1 ≤ (x9.size : Int) then (if 1 + (x9.extract 1 x9.size).size ≤ 9223372036854775807 then (if x8 < (x496000.length : Int) then (if 0 ≤ x8 then (if (rdOf ByteArray.empty x496000 x8).toList = ((⟨#[81]⟩ : ByteArray) ++ (x9.extract 1 x9.size)).toList then (if x7.length < 8796093022208 then (stockyardlaw03_witness.l0 k x2 (x7 ++ [(⟨#[82]⟩ : ByteArray) ++ (x9.extract 1 x9.size)]) (wrap64 (x8 + 1)) x495000 x495001 x496000 x496001) else (none)) else (if x7.length < 8796093022208 then (stockyardlaw03_witness.l0 k x2 (x7 ++ [(⟨#[81]⟩ : ByteArray) ++ (x9.extract 1 x9.size)]) (wrap64 (x8 + 1)) x495000 x495001 x496000 x496001) else (none))) else (none)) else (if x7.length < 8796093022208 then (stockyardlaw03_witness.l0 k x2 (x7 ++ [(⟨#[81]⟩ : ByteArray) ++ (x9.extract 1 x9.size)]) (wrap64 (x8 + 1)) x495000 x495001 x496000 x496001) else (none))) else (none)) else (none)) else (if x7.length < 8796093022208 then (stockyardlaw03_witness.l0 k x2 (x7 ++ [x9]) (wrap64 (x8 + 1)) x495000 x495001 x496000 x496001) else (none)))
end
def stockyardlaw03_witness.f (k : Nat) (l0_0 : List ByteArray) (a0_1 : Bool) (l1_0 : List ByteArray) (a1_1 : Bool) (a2 : Int) : Option (ByteArray) := stockyardlaw03_witness.l0 k a2 ([] : List ByteArray) 0 l0_0 a0_1 l1_0 a1_1
theorem stockyardlaw03_witness.mono_l : ∀ k, (∀ y0 y1 y2 y3 y4 y5 y6, LeO (stockyardlaw03_witness.l0 k y0 y1 y2 y3 y4 y5 y6) (stockyardlaw03_witness.l0 (k + 1) y0 y1 y2 y3 y4 y5 y6)) ∧ (∀ y0 y1 y2 y3 y4 y5 y6 y7, LeO (stockyardlaw03_witness.j1 k y0 y1 y2 y3 y4 y5 y6 y7) (stockyardlaw03_witness.j1 (k + 1) y0 y1 y2 y3 y4 y5 y6 y7))
  | 0 => ⟨fun _ _ _ _ _ _ _ r h => by simp [stockyardlaw03_witness.l0] at h, fun _ _ _ _ _ _ _ _ r h => by simp [stockyardlaw03_witness.j1] at h⟩
  | k + 1 => by
    obtain ⟨ih0, ih1⟩ := stockyardlaw03_witness.mono_l k
    refine ⟨?_, ?_⟩
    · intro y0 y1 y2 y3 y4 y5 y6
      unfold stockyardlaw03_witness.l0
      repeat' first
      | (with_reducible exact ih0 _ _ _ _ _ _ _)
      | (with_reducible exact ih1 _ _ _ _ _ _ _ _)
      | (with_reducible exact LeO.refl _)
      | (with_reducible exact LeO.none _)
      | (with_reducible refine LeO.ite ?_ ?_)
      | (with_reducible refine LeO.bind ?_ (fun _ => ?_))
      | exact ih0 _ _ _ _ _ _ _
      | exact ih1 _ _ _ _ _ _ _ _
      | exact LeO.none _
      | refine LeO.ite ?_ ?_
      | refine LeO.bind ?_ (fun _ => ?_)
    · intro y0 y1 y2 y3 y4 y5 y6 y7
      unfold stockyardlaw03_witness.j1
      repeat' first
      | (with_reducible exact ih0 _ _ _ _ _ _ _)
      | (with_reducible exact ih1 _ _ _ _ _ _ _ _)
      | (with_reducible exact LeO.refl _)
      | (with_reducible exact LeO.none _)
      | (with_reducible refine LeO.ite ?_ ?_)
      | (with_reducible refine LeO.bind ?_ (fun _ => ?_))
      | exact ih0 _ _ _ _ _ _ _
      | exact ih1 _ _ _ _ _ _ _ _
      | exact LeO.none _
      | refine LeO.ite ?_ ?_
      | refine LeO.bind ?_ (fun _ => ?_)
theorem stockyardlaw03_witness.mono : ∀ a0 a1 a2 a3 a4 k, LeO (stockyardlaw03_witness.f k a0 a1 a2 a3 a4) (stockyardlaw03_witness.f (k + 1) a0 a1 a2 a3 a4) := by
  intro a0 a1 a2 a3 a4 k
  obtain ⟨ih0, ih1⟩ := stockyardlaw03_witness.mono_l k
  unfold stockyardlaw03_witness.f
  repeat' first
      | (with_reducible exact ih0 _ _ _ _ _ _ _)
      | (with_reducible exact ih1 _ _ _ _ _ _ _ _)
      | (with_reducible exact LeO.refl _)
      | (with_reducible exact LeO.none _)
      | (with_reducible refine LeO.ite ?_ ?_)
      | (with_reducible refine LeO.bind ?_ (fun _ => ?_))
      | exact ih0 _ _ _ _ _ _ _
      | exact ih1 _ _ _ _ _ _ _ _
      | exact LeO.none _
      | refine LeO.ite ?_ ?_
      | refine LeO.bind ?_ (fun _ => ?_)
set_option maxHeartbeats 8000000 in
set_option maxRecDepth 100000 in
theorem stockyardlaw03_witness.calls (k : Nat) (A0_0 : Option Addr) (c0_0 : Nat) (l0_0 : List ByteArray) (a0_1 : Bool) (A1_0 : Option Addr) (c1_0 : Nat) (l1_0 : List ByteArray) (a1_1 : Bool) (a2 : Int) (r : ByteArray) (w : World) (hr0_0 : Kd.C Kd.string w A0_0 l0_0.length l0_0) (hc0_0 : l0_0.length ≤ c0_0) (hr1_0 : Kd.C Kd.string w A1_0 l1_0.length l1_0) (hc1_0 : l1_0.length ≤ c1_0) (h : stockyardlaw03_witness.f k l0_0 a0_1 l1_0 a1_1 a2 = some r) :
    Calls Tryd.prog 24 #[.agg #[.slice A0_0 l0_0.length c0_0, .bool a0_1], .agg #[.slice A1_0 l1_0.length c1_0, .bool a1_1], .int .i64 a2] w fun e w' => e = .returned (.string r) ∧ Below w.heap.size w w' := by
  have hu24 := Tryd.underlying24
  have HR0_0 := Aside0.mk hr0_0
  have HC0_0 := Aside0.mk hc0_0
  clear hr0_0 hc0_0
  have HR1_0 := Aside0.mk hr1_0
  have HC1_0 := Aside0.mk hc1_0
  clear hr1_0 hc1_0
  have HB := Aside0.mk (Below.refl w.heap.size w)
  have H : (stockyardlaw03_witness.l0 k a2 ([] : List ByteArray) 0 l0_0 a0_1 l1_0 a1_1) = some r := h
  clear h
  have H' := Aside0.mk H
  clear H
  go_enter Tryd.func24, Tryd.ntmps24
  go_wp2_with (first | ((with_reducible refine gate_dst (N := 3) rfl ?_); refine box_event ?hg (N := 3) ?hd (cs := #[.slice A0_0 l0_0.length c0_0, .bool a0_1]) (t := 24) ?hr ?_; (case hd => rfl); (case hg => rfl); (case hr => first | (go_simp; done) | (go_simp; rfl)); intro gb494 hg w4 hbox hb; have n0_ := Aside0.mk (below_step (by repeat (first | (with_reducible first | exact HB.out | apply below_alloc | apply pw_below_drewN | apply below_drew1) | exact HB.out)) hb); have n1_ := Aside0.mk (hbox); have n2_ := Aside0.mk ((by rw [hg]; exact (below_size (by repeat (first | (with_reducible first | exact HB.out | apply below_alloc | apply pw_below_drewN | apply below_drew1) | exact HB.out))) : w.heap.size ≤ gb494)); have n3_ := Aside0.mk ((by rw [hg]; exact (below_size (by repeat (first | (with_reducible first | exact HB.out | apply below_alloc | apply pw_below_drewN | apply below_drew1) | exact HB.out))) : w.heap.size ≤ gb494)); clear HB; have HB := n0_; have BK494 := n1_; have GW494 := n2_; have GE494 := n3_; clear n0_ n1_ n2_ n3_; clear hb hbox hg) | ((with_reducible refine gate_dst (N := 4) rfl ?_); refine box_event ?hg (N := 4) ?hd (cs := #[.slice A1_0 l1_0.length c1_0, .bool a1_1]) (t := 24) ?hr ?_; (case hd => rfl); (case hg => rfl); (case hr => first | (go_simp; done) | (go_simp; rfl)); intro gb495 hg w5 hbox hb; have n0_ := Aside0.mk (blk_below (g := gb494) (o := .cells #[.slice A0_0 l0_0.length c0_0, .bool a0_1] 24 (0, 0)) (by (with_reducible repeat (first | refine blk_drewN ?_ _ | refine blk_drew ?_ | refine blk_alloc ?_ _)); exact BK494.out) hb); have n1_ := Aside0.mk (below_step (by repeat (first | (with_reducible first | exact HB.out | apply below_alloc | apply pw_below_drewN | apply below_drew1 | refine below_set ?_ GE494.out) | exact HB.out)) hb); have n2_ := Aside0.mk (hbox); have n3_ := Aside0.mk ((by rw [hg]; exact (below_size (by repeat (first | (with_reducible first | exact HB.out | apply below_alloc | apply pw_below_drewN | apply below_drew1 | refine below_set ?_ GE494.out) | exact HB.out))) : w.heap.size ≤ gb495)); have n4_ := Aside0.mk ((by rw [hg]; exact (below_size (by repeat (first | (with_reducible first | exact HB.out | apply below_alloc | apply pw_below_drewN | apply below_drew1 | refine below_set ?_ GE494.out) | exact HB.out))) : w.heap.size ≤ gb495)); have n5_ := Aside0.mk ((by rw [hg]; exact Nat.ne_of_lt (blk_lt (g := gb494) (o := .cells #[.slice A0_0 l0_0.length c0_0, .bool a0_1] 24 (0, 0)) (by (with_reducible repeat (first | refine blk_drewN ?_ _ | refine blk_drew ?_ | refine blk_alloc ?_ _)); exact BK494.out)) : gb494 ≠ gb495)); have n6_ := Aside0.mk ((by rw [hg]; exact Nat.ne_of_gt (blk_lt (g := gb494) (o := .cells #[.slice A0_0 l0_0.length c0_0, .bool a0_1] 24 (0, 0)) (by (with_reducible repeat (first | refine blk_drewN ?_ _ | refine blk_drew ?_ | refine blk_alloc ?_ _)); exact BK494.out)) : gb495 ≠ gb494)); clear BK494; clear HB; have BK494 := n0_; have HB := n1_; have BK495 := n2_; have GW495 := n3_; have GE495 := n4_; have NB494_495 := n5_; have NB495_494 := n6_; clear n0_ n1_ n2_ n3_ n4_ n5_ n6_; clear hb hbox hg))
  go_loopg [7, 8] k (fun kq v7 v8 w' => ∃ (x7_1 : List ByteArray) (x8_1 : Int), v8 = .int .i64 x8_1 ∧ Aside0 (stockyardlaw03_witness.l0 kq a2 x7_1 x8_1 l0_0 a0_1 l1_0 a1_1 = some r) ∧ Aside0 (kq ≤ k) ∧ Aside0 (Kd.R Kd.string 9 w' w.heap.size (fun _ => True) v7 x7_1) ∧ Aside0 (w'.heap[gb494]? = some (.cells #[(.slice A0_0 l0_0.length c0_0), .bool a0_1] 24 (0, 0))) ∧ Aside0 (w'.heap[gb495]? = some (.cells #[(.slice A1_0 l1_0.length c1_0), .bool a1_1] 24 (0, 0))) ∧ Aside0 (Below w.heap.size w w'))
  case atStart => exact ⟨(([] : List ByteArray)), (0), (by first | rfl | (simp; done) | (simp [*]; done)), H', ⟨Nat.le_refl _⟩, ⟨by first | exact Kd.R_nil _ _ _ _ _ | exact Kd.N_nil _ _ _ _ _ | exact Kd.V_nil _ _ _ _ _ | exact Kd.Q_nil _ _ _ _ _ | exact Kd.S_nil _ _ _ _ _⟩, ⟨by (with_reducible repeat (first | refine blk_drewN ?_ _ | refine blk_drew ?_ | refine blk_alloc ?_ _)); exact BK494.out⟩, ⟨by (with_reducible repeat (first | refine blk_drewN ?_ _ | refine blk_drew ?_ | refine blk_alloc ?_ _)); exact BK495.out⟩, ⟨by repeat (first | (with_reducible first | exact HB.out | apply below_alloc | apply pw_below_drewN | apply below_drew1 | refine below_set ?_ GE494.out | refine below_set ?_ GE495.out) | exact HB.out)⟩⟩
  case round =>
    clear H'
    try clear c1
    try clear c2
    try clear p2
    obtain ⟨x7_1, x8_1, rfl, HA, HK1, HO_7, BK494, BK495, HB⟩ := hrel
    cases gk with
    | zero => exact absurd HA.out (by simp [stockyardlaw03_witness.l0])
    | succ k1 =>
      have H := HA.out
      clear HA
      simp only [stockyardlaw03_witness.l0] at H
      by_cases c6 : x8_1 < (wrap64 ((l0_0.length : Int) + a2))
      · rw [if_pos c6] at H
        have c6b0 : decide (x8_1 < (wrap64 ((l0_0.length : Int) + a2))) = true := decide_eq_true c6
        clear c6
        have HC7 := Aside0.mk H
        clear H
        have hnb8 := NB494_495.out
        have hnc8 := NB495_494.out
        have hcz9_0 : wr.cell? ⟨gb494, 0, none⟩ = some (.slice A0_0 l0_0.length c0_0) := (blk_cell BK494.out 0).trans rfl
        have hcz9_1 : wr.cell? ⟨gb494, 1, none⟩ = some (.bool a0_1) := (blk_cell BK494.out 1).trans rfl
        have hfz9_0 := blk_frozen BK494.out 0
        have hfz9_1 := blk_frozen BK494.out 1
        go_upto_if 24 with (fail)
        go_cut [9] (fun v9 wc => ∃ (kq : Nat) (x9_6 : ByteArray), v9 = .string x9_6 ∧ Aside0 (stockyardlaw03_witness.j1 kq a2 x7_1 x8_1 x9_6 l0_0 a0_1 l1_0 a1_1 = some r) ∧ Aside0 (kq ≤ k1) ∧ Aside0 (Kd.R Kd.string 9 wc w.heap.size (fun _ => True) u7 x7_1) ∧ Aside0 (wc.heap[gb494]? = some (.cells #[(.slice A0_0 l0_0.length c0_0), .bool a0_1] 24 (0, 0))) ∧ Aside0 (wc.heap[gb495]? = some (.cells #[(.slice A1_0 l1_0.length c1_0), .bool a1_1] 24 (0, 0))) ∧ Aside0 (Below w.heap.size w wc))
        case first =>
          have H := HC7.out
          clear HC7
          by_cases c10 : x8_1 < (l0_0.length : Int)
          · rw [if_pos c10] at H
            have c10b0 : decide (x8_1 < (l0_0.length : Int)) = true := decide_eq_true c10
            clear c10
            (first | rw [c10b0] | (simp only [i64_w, i32_w]; rw [c10b0]) | skip)
            by_cases c11 : 0 ≤ x8_1
            · rw [if_pos c11] at H
              have c11b0 : decide (0 ≤ x8_1) = true := decide_eq_true c11
              clear c11
              have H' := Aside0.mk H
              clear H
              have hnb12 := NB494_495.out
              have hnc12 := NB495_494.out
              have hcz13_0 : wr.cell? ⟨gb494, 0, none⟩ = some (.slice A0_0 l0_0.length c0_0) := (blk_cell BK494.out 0).trans rfl
              have hcz13_1 : wr.cell? ⟨gb494, 1, none⟩ = some (.bool a0_1) := (blk_cell BK494.out 1).trans rfl
              have hfz13_0 := blk_frozen BK494.out 0
              have hfz13_1 := blk_frozen BK494.out 1
              have p497 : 0 ≤ (x8_1 : Int) := of_decide_eq_true (by first | (with_reducible assumption) | assumption)
              have q497 : x8_1 < (l0_0.length : Int) := of_decide_eq_true (by first | (with_reducible assumption) | assumption)
              obtain ⟨ad497, e497, hx497_0⟩ := Kd.at_string HR0_0.out x8_1 p497 q497
              cases e497
              replace hx497_0 := (HB.out.cell (World.block_lt_of_cell? w _ hx497_0)).trans hx497_0
              replace p497 := eq_true p497
              replace q497 := eq_true q497
              go_wp2
              go_meet
              case rel => exact ⟨_, (rdOf ByteArray.empty l0_0 x8_1), (by first | rfl | (simp; done) | (simp [*]; done)), H', ⟨by have := HK1.out; first | omega | exact Nat.le_refl _⟩, ⟨by (with_reducible repeat (first | apply Kd.R_alloc | apply Kd.R_drewN | apply Kd.R_drew)); exact HO_7.out⟩, ⟨by (with_reducible repeat (first | refine blk_drewN ?_ _ | refine blk_drew ?_ | refine blk_alloc ?_ _)); exact BK494.out⟩, ⟨by (with_reducible repeat (first | refine blk_drewN ?_ _ | refine blk_drew ?_ | refine blk_alloc ?_ _)); exact BK495.out⟩, ⟨by repeat (first | (with_reducible first | exact HB.out | apply below_alloc | apply pw_below_drewN | apply below_drew1 | refine below_set ?_ GE494.out | refine below_set ?_ GE495.out) | exact HB.out)⟩⟩
            · rw [if_neg c11] at H
              exact absurd H (by simp)
          · rw [if_neg c10] at H
            have c10b0 : decide (x8_1 < (l0_0.length : Int)) = false := decide_eq_false c10
            clear c10
            (first | rw [c10b0] | (simp only [i64_w, i32_w]; rw [c10b0]) | skip)
            have H' := Aside0.mk H
            clear H
            go_wp2
            go_meet
            case rel => exact ⟨_, ((⟨#[42]⟩ : ByteArray)), (by first | rfl | (simp; done) | (simp [*]; done)), H', ⟨by have := HK1.out; first | omega | exact Nat.le_refl _⟩, ⟨by (with_reducible repeat (first | apply Kd.R_alloc | apply Kd.R_drewN | apply Kd.R_drew)); exact HO_7.out⟩, ⟨by (with_reducible repeat (first | refine blk_drewN ?_ _ | refine blk_drew ?_ | refine blk_alloc ?_ _)); exact BK494.out⟩, ⟨by (with_reducible repeat (first | refine blk_drewN ?_ _ | refine blk_drew ?_ | refine blk_alloc ?_ _)); exact BK495.out⟩, ⟨by repeat (first | (with_reducible first | exact HB.out | apply below_alloc | apply pw_below_drewN | apply below_drew1 | refine below_set ?_ GE494.out | refine below_set ?_ GE495.out) | exact HB.out)⟩⟩
        case rest =>
          clear HC7
          try clear c1
          try clear c2
          try clear p2
          try clear p4
          try clear q4
          try clear hx4
          try clear c6
          try clear c6b0
          try clear p6
          try clear c8
          try clear c10
          try clear c10b0
          try clear c11
          try clear c11b0
          try clear c12
          try clear hcz13_0
          try clear hcz13_1
          try clear hcz9_0
          try clear hcz9_1
          try clear hfz13_0
          try clear hfz13_1
          try clear hfz9_0
          try clear hfz9_1
          try clear hx497_0
          try clear p2
          try clear p497
          try clear q497
          obtain ⟨kq, x9_6, rfl, HA, HJ6, HO_7, BK494, BK495, HB⟩ := hcut
          cases kq with
          | zero => exact absurd HA.out (by simp [stockyardlaw03_witness.j1])
          | succ kj6 =>
            have H := HA.out
            clear HA
            simp only [stockyardlaw03_witness.j1] at H
            replace H := Option.bind_eq_some_iff.mp H
            obtain ⟨t498, A140, H⟩ := H
            replace H : (if t498 = true then (if 1 ≤ (x9_6.size : Int) then (if 1 + (x9_6.extract 1 x9_6.size).size ≤ 9223372036854775807 then (if x8_1 < (l1_0.length : Int) then (if 0 ≤ x8_1 then (if (rdOf ByteArray.empty l1_0 x8_1).toList = ((⟨#[81]⟩ : ByteArray) ++ (x9_6.extract 1 x9_6.size)).toList then (if x7_1.length < 8796093022208 then (stockyardlaw03_witness.l0 kj6 a2 (x7_1 ++ [(⟨#[82]⟩ : ByteArray) ++ (x9_6.extract 1 x9_6.size)]) (wrap64 (x8_1 + 1)) l0_0 a0_1 l1_0 a1_1) else (none)) else (if x7_1.length < 8796093022208 then (stockyardlaw03_witness.l0 kj6 a2 (x7_1 ++ [(⟨#[81]⟩ : ByteArray) ++ (x9_6.extract 1 x9_6.size)]) (wrap64 (x8_1 + 1)) l0_0 a0_1 l1_0 a1_1) else (none))) else (none)) else (if x7_1.length < 8796093022208 then (stockyardlaw03_witness.l0 kj6 a2 (x7_1 ++ [(⟨#[81]⟩ : ByteArray) ++ (x9_6.extract 1 x9_6.size)]) (wrap64 (x8_1 + 1)) l0_0 a0_1 l1_0 a1_1) else (none))) else (none)) else (none)) else (if x7_1.length < 8796093022208 then (stockyardlaw03_witness.l0 kj6 a2 (x7_1 ++ [x9_6]) (wrap64 (x8_1 + 1)) l0_0 a0_1 l1_0 a1_1) else (none))) = some r := H
            have A14 := Aside0.mk A140
            clear A140
            by_cases c15 : t498 = true
            · subst c15
              have H1 : (if 1 ≤ (x9_6.size : Int) then (if 1 + (x9_6.extract 1 x9_6.size).size ≤ 9223372036854775807 then (if x8_1 < (l1_0.length : Int) then (if 0 ≤ x8_1 then (if (rdOf ByteArray.empty l1_0 x8_1).toList = ((⟨#[81]⟩ : ByteArray) ++ (x9_6.extract 1 x9_6.size)).toList then (if x7_1.length < 8796093022208 then (stockyardlaw03_witness.l0 kj6 a2 (x7_1 ++ [(⟨#[82]⟩ : ByteArray) ++ (x9_6.extract 1 x9_6.size)]) (wrap64 (x8_1 + 1)) l0_0 a0_1 l1_0 a1_1) else (none)) else (if x7_1.length < 8796093022208 then (stockyardlaw03_witness.l0 kj6 a2 (x7_1 ++ [(⟨#[81]⟩ : ByteArray) ++ (x9_6.extract 1 x9_6.size)]) (wrap64 (x8_1 + 1)) l0_0 a0_1 l1_0 a1_1) else (none))) else (none)) else (if x7_1.length < 8796093022208 then (stockyardlaw03_witness.l0 kj6 a2 (x7_1 ++ [(⟨#[81]⟩ : ByteArray) ++ (x9_6.extract 1 x9_6.size)]) (wrap64 (x8_1 + 1)) l0_0 a0_1 l1_0 a1_1) else (none))) else (none)) else (none)) = some r := by rw [if_pos rfl] at H; exact H
              clear H
              have H := H1
              clear H1
              by_cases c16 : 1 ≤ (x9_6.size : Int)
              · rw [if_pos c16] at H
                have c16b0 := eq_true c16
                have c16b1 : decide (1 ≤ (x9_6.size : Int)) = true := decide_eq_true c16
                clear c16
                by_cases c17 : 1 + (x9_6.extract 1 x9_6.size).size ≤ 9223372036854775807
                · rw [if_pos c17] at H
                  have c17b0 := eq_true c17
                  have c17b1 : decide (1 + (x9_6.extract 1 x9_6.size).size ≤ 9223372036854775807) = true := decide_eq_true c17
                  have c17b5 : (1 + (x9_6.size - 1) ≤ 9223372036854775807) = True := eq_true (by have q_ := of_decide_eq_true c17b1; rw [ByteArray.size_extract] at q_; omega)
                  have c17b6 : decide (1 + (x9_6.size - 1) ≤ 9223372036854775807) = true := decide_eq_true (by have q_ := of_decide_eq_true c17b1; rw [ByteArray.size_extract] at q_; omega)
                  try have c17b7 : (9223372036854775807 < 1 + (x9_6.size - 1)) = False := eq_false (Nat.not_lt.2 (by have q_ := of_decide_eq_true c17b1; rw [ByteArray.size_extract] at q_; omega))
                  try have c17b2 : (9223372036854775807 < 1 + (x9_6.extract 1 x9_6.size).size) = False := eq_false (Nat.not_lt.2 c17)
                  by_cases c18 : x8_1 < (l1_0.length : Int)
                  · rw [if_pos c18] at H
                    have c18b0 : decide (x8_1 < (l1_0.length : Int)) = true := decide_eq_true c18
                    clear c18
                    by_cases c19 : 0 ≤ x8_1
                    · rw [if_pos c19] at H
                      have c19b0 : decide (0 ≤ x8_1) = true := decide_eq_true c19
                      clear c19
                      by_cases c20 : (rdOf ByteArray.empty l1_0 x8_1).toList = ((⟨#[81]⟩ : ByteArray) ++ (x9_6.extract 1 x9_6.size)).toList
                      · rw [if_pos c20] at H
                        have c20b0 : ((rdOf ByteArray.empty l1_0 x8_1).toList == ((⟨#[81]⟩ : ByteArray) ++ (x9_6.extract 1 x9_6.size)).toList) = true := beq_iff_eq.mpr c20
                        have c20b1 : ((rdOf ByteArray.empty l1_0 x8_1).toList != ((⟨#[81]⟩ : ByteArray) ++ (x9_6.extract 1 x9_6.size)).toList) = false := bne_eq_false_iff_eq.mpr c20
                        clear c20
                        have c21b0 := eq_true (of_decide_eq_true (by first | (with_reducible assumption) | assumption) : 1 ≤ (x9_6.size : Int))
                        by_cases c22 : x7_1.length < 8796093022208
                        · rw [if_pos c22] at H
                          have LMc22 := Aside0.mk c22
                          clear c22
                          obtain ⟨y500, hy500⟩ : ∃ y_ : List ByteArray, y_ = (x7_1 ++ [(⟨#[82]⟩ : ByteArray) ++ (x9_6.extract 1 x9_6.size)]) := ⟨_, rfl⟩
                          replace H : (stockyardlaw03_witness.l0 kj6 a2 y500 (wrap64 (x8_1 + 1)) l0_0 a0_1 l1_0 a1_1) = some r := by first | (rw [hy500]; with_reducible exact H) | (have H2_ := (Option.bind_some _ _).symm.trans H; rw [hy500]; with_reducible exact H2_) | (have H2_ := (Option.bind_some _ _).symm.trans H; with_reducible exact H2_) | with_reducible exact H | (rw [hy500]; exact H) | exact H
                          have Ny500 := Aside0.mk hy500
                          clear hy500
                          have H' := Aside0.mk H
                          clear H
                          go_wp2_with (first | ((with_reducible refine gate_callee (f := 41) rfl ?_); refine goesL_ (some 31) rfl rfl Tryd.func41 (by kernel_rfl) rfl #[.string x9_6, .string (⟨#[42]⟩ : ByteArray)] rfl (by (try simp only [List.map_toArray, List.map_cons, List.map_nil]); first | done | rfl | (simp only [List.length_drop, List.length_take]; rfl)) ?_; (with_reducible refine (strings_HasPrefix.calls x9_6 (⟨#[42]⟩ : ByteArray) true _ A14.out).mono ?_); rintro e w' ⟨rfl, ⟨nd, rfl⟩⟩; refine ⟨_, rfl, ?_⟩; have hnb23 := NB495_494.out; have hnc23 := NB494_495.out; have hcz24_0 : wc.cell? ⟨gb495, 0, none⟩ = some (.slice A1_0 l1_0.length c1_0) := (blk_cell BK495.out 0).trans rfl; have hcz24_1 : wc.cell? ⟨gb495, 1, none⟩ = some (.bool a1_1) := (blk_cell BK495.out 1).trans rfl; have hfz24_0 := blk_frozen BK495.out 0; have hfz24_1 := blk_frozen BK495.out 1; have p499 : 0 ≤ (x8_1 : Int) := of_decide_eq_true (by first | (with_reducible assumption) | assumption); have q499 : x8_1 < (l1_0.length : Int) := of_decide_eq_true (by first | (with_reducible assumption) | assumption); obtain ⟨ad499, e499, hx499_0⟩ := Kd.at_string HR1_0.out x8_1 p499 q499; cases e499; replace hx499_0 := (HB.out.cell (World.block_lt_of_cell? w _ hx499_0)).trans hx499_0; replace p499 := eq_true p499; replace q499 := eq_true q499) | ((with_reducible refine gate_builtin (b := .append) (xs := #[.tmp 53, .tmp 55]) rfl ?_); at_builtin; refine Kd.R_append Kd.string (w0 := w) w.heap.size rfl (.tmp 53) (.tmp 55) 22 9 (.string ⟨#[]⟩) 16 rfl Tryd.underlying22 info9 rfl (by decide) (by omega) u7 x7_1 ((⟨#[82]⟩ : ByteArray) ++ (x9_6.extract 1 x9_6.size)) [.string ((⟨#[82]⟩ : ByteArray) ++ (x9_6.extract 1 x9_6.size))] (fun _ => True) (fun _ => False) rfl rfl ?aP (fun _ hk => hk.elim) ?aF ?aO ?aB ?aS ?aL ?_; (case aP => exact rfl); (case aB => exact (by repeat (first | (with_reducible first | exact HB.out | apply below_alloc | apply pw_below_drewN | apply below_drew1 | refine below_set ?_ GE494.out | refine below_set ?_ GE495.out) | exact HB.out))); (case aF => exact (fun _ _ => trivial)); (case aO => exact (by (with_reducible repeat (first | apply Kd.R_alloc | apply Kd.R_drewN | apply Kd.R_drew)); exact HO_7.out)); (case aS => exact (below_size (by repeat (first | (with_reducible first | exact HB.out | apply below_alloc | apply pw_below_drewN | apply below_drew1 | refine below_set ?_ GE494.out | refine below_set ?_ GE495.out) | exact HB.out)))); (case aL => have := LMc22.out; omega); intro v501 w25 ho hb hg hat; rw [← Ny500.out] at ho; have n0_ := Aside0.mk (blk_grown (g := gb494) (o := .cells #[.slice A0_0 l0_0.length c0_0, .bool a0_1] 24 (0, 0)) (by (with_reducible repeat (first | refine blk_drewN ?_ _ | refine blk_drew ?_ | refine blk_alloc ?_ _)); exact BK494.out) hg (Kd.R_ne HO_7.out BK494.out (by decide))); have n1_ := Aside0.mk (blk_grown (g := gb495) (o := .cells #[.slice (some ad499) l1_0.length c1_0, .bool a1_1] 24 (0, 0)) (by (with_reducible repeat (first | refine blk_drewN ?_ _ | refine blk_drew ?_ | refine blk_alloc ?_ _)); exact BK495.out) hg (Kd.R_ne HO_7.out BK495.out (by decide))); have n2_ := Aside0.mk (hb); have n3_ := Aside0.mk (ho); clear BK494; clear BK495; clear HB; clear HO_7; have BK494 := n0_; have BK495 := n1_; have HB := n2_; have HO502 := n3_; clear n0_ n1_ n2_ n3_; clear ho hb hg hat))
                          go_roundg kj6
                          case measure => have := HK1.out; have := HJ6.out; omega
                          case rel => exact ⟨(y500), (wrap64 (x8_1 + 1)), (by first | rfl | (simp; done) | (simp [*]; done)), H', ⟨by have := HK1.out; have := HJ6.out; omega⟩, ⟨by (with_reducible repeat (first | apply Kd.R_alloc | apply Kd.R_drewN | apply Kd.R_drew)); exact HO502.out⟩, ⟨by (with_reducible repeat (first | refine blk_drewN ?_ _ | refine blk_drew ?_ | refine blk_alloc ?_ _)); exact BK494.out⟩, ⟨by (with_reducible repeat (first | refine blk_drewN ?_ _ | refine blk_drew ?_ | refine blk_alloc ?_ _)); exact BK495.out⟩, ⟨by repeat (first | (with_reducible first | exact HB.out | apply below_alloc | apply pw_below_drewN | apply below_drew1 | refine below_set ?_ GE494.out | refine below_set ?_ GE495.out) | exact HB.out)⟩⟩
                        · rw [if_neg c22] at H
                          exact absurd H (by simp)
                      · rw [if_neg c20] at H
                        have c20b0 : ((rdOf ByteArray.empty l1_0 x8_1).toList == ((⟨#[81]⟩ : ByteArray) ++ (x9_6.extract 1 x9_6.size)).toList) = false := beq_eq_false_iff_ne.mpr c20
                        have c20b1 : ((rdOf ByteArray.empty l1_0 x8_1).toList != ((⟨#[81]⟩ : ByteArray) ++ (x9_6.extract 1 x9_6.size)).toList) = true := bne_iff_ne.mpr c20
                        by_cases c26 : x7_1.length < 8796093022208
                        · rw [if_pos c26] at H
                          have LMc26 := Aside0.mk c26
                          clear c26
                          obtain ⟨y503, hy503⟩ : ∃ y_ : List ByteArray, y_ = (x7_1 ++ [(⟨#[81]⟩ : ByteArray) ++ (x9_6.extract 1 x9_6.size)]) := ⟨_, rfl⟩
                          replace H : (stockyardlaw03_witness.l0 kj6 a2 y503 (wrap64 (x8_1 + 1)) l0_0 a0_1 l1_0 a1_1) = some r := by first | (rw [hy503]; with_reducible exact H) | (have H2_ := (Option.bind_some _ _).symm.trans H; rw [hy503]; with_reducible exact H2_) | (have H2_ := (Option.bind_some _ _).symm.trans H; with_reducible exact H2_) | with_reducible exact H | (rw [hy503]; exact H) | exact H
                          have Ny503 := Aside0.mk hy503
                          clear hy503
                          have H' := Aside0.mk H
                          clear H
                          go_wp2_with (first | ((with_reducible refine gate_callee (f := 41) rfl ?_); refine goesL_ (some 31) rfl rfl Tryd.func41 (by kernel_rfl) rfl #[.string x9_6, .string (⟨#[42]⟩ : ByteArray)] rfl (by (try simp only [List.map_toArray, List.map_cons, List.map_nil]); first | done | rfl | (simp only [List.length_drop, List.length_take]; rfl)) ?_; (with_reducible refine (strings_HasPrefix.calls x9_6 (⟨#[42]⟩ : ByteArray) true _ A14.out).mono ?_); rintro e w' ⟨rfl, ⟨nd, rfl⟩⟩; refine ⟨_, rfl, ?_⟩; have hnb27 := NB495_494.out; have hnc27 := NB494_495.out; have hcz28_0 : wc.cell? ⟨gb495, 0, none⟩ = some (.slice A1_0 l1_0.length c1_0) := (blk_cell BK495.out 0).trans rfl; have hcz28_1 : wc.cell? ⟨gb495, 1, none⟩ = some (.bool a1_1) := (blk_cell BK495.out 1).trans rfl; have hfz28_0 := blk_frozen BK495.out 0; have hfz28_1 := blk_frozen BK495.out 1; have p499 : 0 ≤ (x8_1 : Int) := of_decide_eq_true (by first | (with_reducible assumption) | assumption); have q499 : x8_1 < (l1_0.length : Int) := of_decide_eq_true (by first | (with_reducible assumption) | assumption); obtain ⟨ad499, e499, hx499_0⟩ := Kd.at_string HR1_0.out x8_1 p499 q499; cases e499; replace hx499_0 := (HB.out.cell (World.block_lt_of_cell? w _ hx499_0)).trans hx499_0; replace p499 := eq_true p499; replace q499 := eq_true q499) | ((with_reducible refine gate_builtin (b := .append) (xs := #[.tmp 53, .tmp 55]) rfl ?_); at_builtin; refine Kd.R_append Kd.string (w0 := w) w.heap.size rfl (.tmp 53) (.tmp 55) 22 9 (.string ⟨#[]⟩) 16 rfl Tryd.underlying22 info9 rfl (by decide) (by omega) u7 x7_1 ((⟨#[81]⟩ : ByteArray) ++ (x9_6.extract 1 x9_6.size)) [.string ((⟨#[81]⟩ : ByteArray) ++ (x9_6.extract 1 x9_6.size))] (fun _ => True) (fun _ => False) rfl rfl ?aP (fun _ hk => hk.elim) ?aF ?aO ?aB ?aS ?aL ?_; (case aP => exact rfl); (case aB => exact (by repeat (first | (with_reducible first | exact HB.out | apply below_alloc | apply pw_below_drewN | apply below_drew1 | refine below_set ?_ GE494.out | refine below_set ?_ GE495.out) | exact HB.out))); (case aF => exact (fun _ _ => trivial)); (case aO => exact (by (with_reducible repeat (first | apply Kd.R_alloc | apply Kd.R_drewN | apply Kd.R_drew)); exact HO_7.out)); (case aS => exact (below_size (by repeat (first | (with_reducible first | exact HB.out | apply below_alloc | apply pw_below_drewN | apply below_drew1 | refine below_set ?_ GE494.out | refine below_set ?_ GE495.out) | exact HB.out)))); (case aL => have := LMc26.out; omega); intro v504 w29 ho hb hg hat; rw [← Ny503.out] at ho; have n0_ := Aside0.mk (blk_grown (g := gb494) (o := .cells #[.slice A0_0 l0_0.length c0_0, .bool a0_1] 24 (0, 0)) (by (with_reducible repeat (first | refine blk_drewN ?_ _ | refine blk_drew ?_ | refine blk_alloc ?_ _)); exact BK494.out) hg (Kd.R_ne HO_7.out BK494.out (by decide))); have n1_ := Aside0.mk (blk_grown (g := gb495) (o := .cells #[.slice (some ad499) l1_0.length c1_0, .bool a1_1] 24 (0, 0)) (by (with_reducible repeat (first | refine blk_drewN ?_ _ | refine blk_drew ?_ | refine blk_alloc ?_ _)); exact BK495.out) hg (Kd.R_ne HO_7.out BK495.out (by decide))); have n2_ := Aside0.mk (hb); have n3_ := Aside0.mk (ho); clear BK494; clear BK495; clear HB; clear HO_7; have BK494 := n0_; have BK495 := n1_; have HB := n2_; have HO505 := n3_; clear n0_ n1_ n2_ n3_; clear ho hb hg hat))
                          go_roundg kj6
                          case measure => have := HK1.out; have := HJ6.out; omega
                          case rel => exact ⟨(y503), (wrap64 (x8_1 + 1)), (by first | rfl | (simp; done) | (simp [*]; done)), H', ⟨by have := HK1.out; have := HJ6.out; omega⟩, ⟨by (with_reducible repeat (first | apply Kd.R_alloc | apply Kd.R_drewN | apply Kd.R_drew)); exact HO505.out⟩, ⟨by (with_reducible repeat (first | refine blk_drewN ?_ _ | refine blk_drew ?_ | refine blk_alloc ?_ _)); exact BK494.out⟩, ⟨by (with_reducible repeat (first | refine blk_drewN ?_ _ | refine blk_drew ?_ | refine blk_alloc ?_ _)); exact BK495.out⟩, ⟨by repeat (first | (with_reducible first | exact HB.out | apply below_alloc | apply pw_below_drewN | apply below_drew1 | refine below_set ?_ GE494.out | refine below_set ?_ GE495.out) | exact HB.out)⟩⟩
                        · rw [if_neg c26] at H
                          exact absurd H (by simp)
                    · rw [if_neg c19] at H
                      exact absurd H (by simp)
                  · rw [if_neg c18] at H
                    have c18b0 : decide (x8_1 < (l1_0.length : Int)) = false := decide_eq_false c18
                    clear c18
                    by_cases c30 : x7_1.length < 8796093022208
                    · rw [if_pos c30] at H
                      have LMc30 := Aside0.mk c30
                      clear c30
                      obtain ⟨y506, hy506⟩ : ∃ y_ : List ByteArray, y_ = (x7_1 ++ [(⟨#[81]⟩ : ByteArray) ++ (x9_6.extract 1 x9_6.size)]) := ⟨_, rfl⟩
                      replace H : (stockyardlaw03_witness.l0 kj6 a2 y506 (wrap64 (x8_1 + 1)) l0_0 a0_1 l1_0 a1_1) = some r := by first | (rw [hy506]; with_reducible exact H) | (have H2_ := (Option.bind_some _ _).symm.trans H; rw [hy506]; with_reducible exact H2_) | (have H2_ := (Option.bind_some _ _).symm.trans H; with_reducible exact H2_) | with_reducible exact H | (rw [hy506]; exact H) | exact H
                      have Ny506 := Aside0.mk hy506
                      clear hy506
                      have H' := Aside0.mk H
                      clear H
                      go_wp2_with (first | ((with_reducible refine gate_callee (f := 41) rfl ?_); refine goesL_ (some 31) rfl rfl Tryd.func41 (by kernel_rfl) rfl #[.string x9_6, .string (⟨#[42]⟩ : ByteArray)] rfl (by (try simp only [List.map_toArray, List.map_cons, List.map_nil]); first | done | rfl | (simp only [List.length_drop, List.length_take]; rfl)) ?_; (with_reducible refine (strings_HasPrefix.calls x9_6 (⟨#[42]⟩ : ByteArray) true _ A14.out).mono ?_); rintro e w' ⟨rfl, ⟨nd, rfl⟩⟩; refine ⟨_, rfl, ?_⟩; have hnb31 := NB495_494.out; have hnc31 := NB494_495.out; have hcz32_0 : wc.cell? ⟨gb495, 0, none⟩ = some (.slice A1_0 l1_0.length c1_0) := (blk_cell BK495.out 0).trans rfl; have hcz32_1 : wc.cell? ⟨gb495, 1, none⟩ = some (.bool a1_1) := (blk_cell BK495.out 1).trans rfl; have hfz32_0 := blk_frozen BK495.out 0; have hfz32_1 := blk_frozen BK495.out 1) | ((with_reducible refine gate_builtin (b := .append) (xs := #[.tmp 53, .tmp 55]) rfl ?_); at_builtin; refine Kd.R_append Kd.string (w0 := w) w.heap.size rfl (.tmp 53) (.tmp 55) 22 9 (.string ⟨#[]⟩) 16 rfl Tryd.underlying22 info9 rfl (by decide) (by omega) u7 x7_1 ((⟨#[81]⟩ : ByteArray) ++ (x9_6.extract 1 x9_6.size)) [.string ((⟨#[81]⟩ : ByteArray) ++ (x9_6.extract 1 x9_6.size))] (fun _ => True) (fun _ => False) rfl rfl ?aP (fun _ hk => hk.elim) ?aF ?aO ?aB ?aS ?aL ?_; (case aP => exact rfl); (case aB => exact (by repeat (first | (with_reducible first | exact HB.out | apply below_alloc | apply pw_below_drewN | apply below_drew1 | refine below_set ?_ GE494.out | refine below_set ?_ GE495.out) | exact HB.out))); (case aF => exact (fun _ _ => trivial)); (case aO => exact (by (with_reducible repeat (first | apply Kd.R_alloc | apply Kd.R_drewN | apply Kd.R_drew)); exact HO_7.out)); (case aS => exact (below_size (by repeat (first | (with_reducible first | exact HB.out | apply below_alloc | apply pw_below_drewN | apply below_drew1 | refine below_set ?_ GE494.out | refine below_set ?_ GE495.out) | exact HB.out)))); (case aL => have := LMc30.out; omega); intro v507 w33 ho hb hg hat; rw [← Ny506.out] at ho; have n0_ := Aside0.mk (blk_grown (g := gb494) (o := .cells #[.slice A0_0 l0_0.length c0_0, .bool a0_1] 24 (0, 0)) (by (with_reducible repeat (first | refine blk_drewN ?_ _ | refine blk_drew ?_ | refine blk_alloc ?_ _)); exact BK494.out) hg (Kd.R_ne HO_7.out BK494.out (by decide))); have n1_ := Aside0.mk (blk_grown (g := gb495) (o := .cells #[.slice A1_0 l1_0.length c1_0, .bool a1_1] 24 (0, 0)) (by (with_reducible repeat (first | refine blk_drewN ?_ _ | refine blk_drew ?_ | refine blk_alloc ?_ _)); exact BK495.out) hg (Kd.R_ne HO_7.out BK495.out (by decide))); have n2_ := Aside0.mk (hb); have n3_ := Aside0.mk (ho); clear BK494; clear BK495; clear HB; clear HO_7; have BK494 := n0_; have BK495 := n1_; have HB := n2_; have HO508 := n3_; clear n0_ n1_ n2_ n3_; clear ho hb hg hat))
                      go_roundg kj6
                      case measure => have := HK1.out; have := HJ6.out; omega
                      case rel => exact ⟨(y506), (wrap64 (x8_1 + 1)), (by first | rfl | (simp; done) | (simp [*]; done)), H', ⟨by have := HK1.out; have := HJ6.out; omega⟩, ⟨by (with_reducible repeat (first | apply Kd.R_alloc | apply Kd.R_drewN | apply Kd.R_drew)); exact HO508.out⟩, ⟨by (with_reducible repeat (first | refine blk_drewN ?_ _ | refine blk_drew ?_ | refine blk_alloc ?_ _)); exact BK494.out⟩, ⟨by (with_reducible repeat (first | refine blk_drewN ?_ _ | refine blk_drew ?_ | refine blk_alloc ?_ _)); exact BK495.out⟩, ⟨by repeat (first | (with_reducible first | exact HB.out | apply below_alloc | apply pw_below_drewN | apply below_drew1 | refine below_set ?_ GE494.out | refine below_set ?_ GE495.out) | exact HB.out)⟩⟩
                    · rw [if_neg c30] at H
                      exact absurd H (by simp)
                · rw [if_neg c17] at H
                  exact absurd H (by simp)
              · rw [if_neg c16] at H
                exact absurd H (by simp)
            · replace c15 := Bool.eq_false_iff.mpr c15
              subst c15
              have H1 : (if x7_1.length < 8796093022208 then (stockyardlaw03_witness.l0 kj6 a2 (x7_1 ++ [x9_6]) (wrap64 (x8_1 + 1)) l0_0 a0_1 l1_0 a1_1) else (none)) = some r := by rw [if_neg (show ¬ (false = true) by decide)] at H; exact H
              clear H
              have H := H1
              clear H1
              by_cases c34 : x7_1.length < 8796093022208
              · rw [if_pos c34] at H
                have LMc34 := Aside0.mk c34
                clear c34
                obtain ⟨y509, hy509⟩ : ∃ y_ : List ByteArray, y_ = (x7_1 ++ [x9_6]) := ⟨_, rfl⟩
                replace H : (stockyardlaw03_witness.l0 kj6 a2 y509 (wrap64 (x8_1 + 1)) l0_0 a0_1 l1_0 a1_1) = some r := by first | (rw [hy509]; with_reducible exact H) | (have H2_ := (Option.bind_some _ _).symm.trans H; rw [hy509]; with_reducible exact H2_) | (have H2_ := (Option.bind_some _ _).symm.trans H; with_reducible exact H2_) | with_reducible exact H | (rw [hy509]; exact H) | exact H
                have Ny509 := Aside0.mk hy509
                clear hy509
                have H' := Aside0.mk H
                clear H
                go_wp2_with (first | ((with_reducible refine gate_callee (f := 41) rfl ?_); refine goesL_ (some 31) rfl rfl Tryd.func41 (by kernel_rfl) rfl #[.string x9_6, .string (⟨#[42]⟩ : ByteArray)] rfl (by (try simp only [List.map_toArray, List.map_cons, List.map_nil]); first | done | rfl | (simp only [List.length_drop, List.length_take]; rfl)) ?_; (with_reducible refine (strings_HasPrefix.calls x9_6 (⟨#[42]⟩ : ByteArray) false _ A14.out).mono ?_); rintro e w' ⟨rfl, ⟨nd, rfl⟩⟩; refine ⟨_, rfl, ?_⟩) | ((with_reducible refine gate_builtin (b := .append) (xs := #[.tmp 53, .tmp 55]) rfl ?_); at_builtin; refine Kd.R_append Kd.string (w0 := w) w.heap.size rfl (.tmp 53) (.tmp 55) 22 9 (.string ⟨#[]⟩) 16 rfl Tryd.underlying22 info9 rfl (by decide) (by omega) u7 x7_1 x9_6 [.string x9_6] (fun _ => True) (fun _ => False) rfl rfl ?aP (fun _ hk => hk.elim) ?aF ?aO ?aB ?aS ?aL ?_; (case aP => exact rfl); (case aB => exact (by repeat (first | (with_reducible first | exact HB.out | apply below_alloc | apply pw_below_drewN | apply below_drew1 | refine below_set ?_ GE494.out | refine below_set ?_ GE495.out) | exact HB.out))); (case aF => exact (fun _ _ => trivial)); (case aO => exact (by (with_reducible repeat (first | apply Kd.R_alloc | apply Kd.R_drewN | apply Kd.R_drew)); exact HO_7.out)); (case aS => exact (below_size (by repeat (first | (with_reducible first | exact HB.out | apply below_alloc | apply pw_below_drewN | apply below_drew1 | refine below_set ?_ GE494.out | refine below_set ?_ GE495.out) | exact HB.out)))); (case aL => have := LMc34.out; omega); intro v510 w35 ho hb hg hat; rw [← Ny509.out] at ho; have n0_ := Aside0.mk (blk_grown (g := gb494) (o := .cells #[.slice A0_0 l0_0.length c0_0, .bool a0_1] 24 (0, 0)) (by (with_reducible repeat (first | refine blk_drewN ?_ _ | refine blk_drew ?_ | refine blk_alloc ?_ _)); exact BK494.out) hg (Kd.R_ne HO_7.out BK494.out (by decide))); have n1_ := Aside0.mk (blk_grown (g := gb495) (o := .cells #[.slice A1_0 l1_0.length c1_0, .bool a1_1] 24 (0, 0)) (by (with_reducible repeat (first | refine blk_drewN ?_ _ | refine blk_drew ?_ | refine blk_alloc ?_ _)); exact BK495.out) hg (Kd.R_ne HO_7.out BK495.out (by decide))); have n2_ := Aside0.mk (hb); have n3_ := Aside0.mk (ho); clear BK494; clear BK495; clear HB; clear HO_7; have BK494 := n0_; have BK495 := n1_; have HB := n2_; have HO511 := n3_; clear n0_ n1_ n2_ n3_; clear ho hb hg hat))
                go_roundg kj6
                case measure => have := HK1.out; have := HJ6.out; omega
                case rel => exact ⟨(y509), (wrap64 (x8_1 + 1)), (by first | rfl | (simp; done) | (simp [*]; done)), H', ⟨by have := HK1.out; have := HJ6.out; omega⟩, ⟨by (with_reducible repeat (first | apply Kd.R_alloc | apply Kd.R_drewN | apply Kd.R_drew)); exact HO511.out⟩, ⟨by (with_reducible repeat (first | refine blk_drewN ?_ _ | refine blk_drew ?_ | refine blk_alloc ?_ _)); exact BK494.out⟩, ⟨by (with_reducible repeat (first | refine blk_drewN ?_ _ | refine blk_drew ?_ | refine blk_alloc ?_ _)); exact BK495.out⟩, ⟨by repeat (first | (with_reducible first | exact HB.out | apply below_alloc | apply pw_below_drewN | apply below_drew1 | refine below_set ?_ GE494.out | refine below_set ?_ GE495.out) | exact HB.out)⟩⟩
              · rw [if_neg c34] at H
                exact absurd H (by simp)
      · rw [if_neg c6] at H
        have c6b0 : decide (x8_1 < (wrap64 ((l0_0.length : Int) + a2))) = false := decide_eq_false c6
        clear c6
        replace H := Option.bind_eq_some_iff.mp H
        obtain ⟨t496, A360, H⟩ := H
        replace H : (if 2 + t496.size ≤ 9223372036854775807 then (some ((⟨#[47, 47]⟩ : ByteArray) ++ t496)) else (none)) = some r := H
        have A36 := Aside0.mk A360
        clear A360
        by_cases c37 : 2 + t496.size ≤ 9223372036854775807
        · rw [if_pos c37] at H
          have c37b0 := eq_true c37
          have c37b1 : decide (2 + t496.size ≤ 9223372036854775807) = true := decide_eq_true c37
          try have c37b2 : (9223372036854775807 < 2 + t496.size) = False := eq_false (Nat.not_lt.2 c37)
          obtain rfl := Option.some.inj H
          have hnb38 := NB494_495.out
          have hnc38 := NB495_494.out
          have hcz39_0 : wr.cell? ⟨gb494, 0, none⟩ = some (.slice A0_0 l0_0.length c0_0) := (blk_cell BK494.out 0).trans rfl
          have hcz39_1 : wr.cell? ⟨gb494, 1, none⟩ = some (.bool a0_1) := (blk_cell BK494.out 1).trans rfl
          have hfz39_0 := blk_frozen BK494.out 0
          have hfz39_1 := blk_frozen BK494.out 1
          obtain ⟨Ao40, co40, eo40⟩ := Kd.R_slice HO_7.out
          subst eo40
          go_wp2_with (first | ((with_reducible refine gate_callee (f := 34) rfl ?_); refine goesL_ (some 58) rfl rfl Tryd.func34 (by kernel_rfl) rfl #[.slice Ao40 x7_1.length co40, .string (⟨#[47]⟩ : ByteArray)] rfl (by (try simp only [List.map_toArray, List.map_cons, List.map_nil]); first | done | rfl | (simp only [List.length_drop, List.length_take]; rfl)) ?_; (with_reducible refine (strings_Join.calls _ _ x7_1 (⟨#[47]⟩ : ByteArray) t496 _ ?side1 ?side2 A36.out).mono ?_); (case side1 => repeat (first | exact (Kd.R_reads' HO_7.out).2.2 | (with_reducible refine Kd.C_alloc ?_ _) | (with_reducible refine Kd.C_drewN ?_ _) | (with_reducible refine Kd.C_drew ?_))); (case side2 => exact (Kd.R_reads' HO_7.out).2.1); rintro e w41 ⟨rfl, hb⟩; refine ⟨_, rfl, ?_⟩; have n0_ := Aside0.mk (Kd.R_below (by (with_reducible repeat (first | apply Kd.R_alloc | apply Kd.R_drewN | apply Kd.R_drew)); exact HO_7.out) hb); have n1_ := Aside0.mk (blk_below (g := gb494) (o := .cells #[.slice A0_0 l0_0.length c0_0, .bool a0_1] 24 (0, 0)) (by (with_reducible repeat (first | refine blk_drewN ?_ _ | refine blk_drew ?_ | refine blk_alloc ?_ _)); exact BK494.out) hb); have n2_ := Aside0.mk (blk_below (g := gb495) (o := .cells #[.slice A1_0 l1_0.length c1_0, .bool a1_1] 24 (0, 0)) (by (with_reducible repeat (first | refine blk_drewN ?_ _ | refine blk_drew ?_ | refine blk_alloc ?_ _)); exact BK495.out) hb); have n3_ := Aside0.mk (below_step (by repeat (first | (with_reducible first | exact HB.out | apply below_alloc | apply pw_below_drewN | apply below_drew1 | refine below_set ?_ GE494.out | refine below_set ?_ GE495.out) | exact HB.out)) hb); clear HO_7; clear BK494; clear BK495; clear HB; have HO_7 := n0_; have BK494 := n1_; have BK495 := n2_; have HB := n3_; clear n0_ n1_ n2_ n3_; (try clear hb); (try clear hb2); (try clear hk); (try clear hi)))
          go_ret
          exact ⟨by first | rfl | (simp [errW_none, errW_some] <;> rfl) | (simp [*, errW_none, errW_some] <;> rfl), by repeat (first | (with_reducible first | exact HB.out | apply below_alloc | apply pw_below_drewN | apply below_drew1 | refine below_set ?_ GE494.out | refine below_set ?_ GE495.out) | exact HB.out)⟩
        · rw [if_neg c37] at H
          exact absurd H (by simp)

end Go.Proofs.YtcpnmcbgcgkieaaDoor.P

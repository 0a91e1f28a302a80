-- Written by a program of this session (wip/gen.py) over the kit's print: each Go function as a plain Lean function, and the proof that the Go code comes to it. Nothing here is trusted: Lean checks it.
import Derived.Test.YtcpnmcbgcgkieaaDoorPx0
import Derived.Test.YtcpnmcbgcgkieaaDoorPx1
import Derived.Test.YtcpnmcbgcgkieaaDoorPx5
import Derived.Test.YtcpnmcbgcgkieaaDoorPx6
import Derived.Test.YtcpnmcbgcgkieaaDoorPx8
namespace Go.Proofs.YtcpnmcbgcgkieaaDoor.P
open Go.RowKit Go.Proofs.YtcpnmcbgcgkieaaDoorW.PrintWords Go.Proofs.YtcpnmcbgcgkieaaDoorW.PrintLast Go.Proofs.YtcpnmcbgcgkieaaDoorW.PrintMore
attribute [local go_sem] str_gtr str_leq str_geq max2_int min2_int max_two min_two max_three min_three max_four min_four   -- for this text's walks alone
set_option linter.unusedVariables false
set_option linter.unusedSimpArgs false

/-! ### pattern_Bind: function 25 -/
def pattern_Bind.l0 : Nat → List (S39) → List ByteArray → Int → Int → List ByteArray → Bool → List ByteArray → Bool → Option ((List (S39)) × Bool)
  | 0, _, _, _, _, _, _, _, _ => none
  | k + 1, x6, x17, x18, x19, x531000, x531001, x532000, x532001 => if x19 < x18 then (if 0 ≤ x19 then (if x19 < (x17.length : Int) then ((pattern_formOf.f k (rdOf ByteArray.empty x17 x19)).bind fun bt534 => (if bt534.1 = 2 then (if x19 < (x532000.length : Int) then (if 0 ≤ (wrap64 (((rdOf ByteArray.empty x532000 x19).size : Int) - (bt534.2.size : Int))) then (if (wrap64 (((rdOf ByteArray.empty x532000 x19).size : Int) - (bt534.2.size : Int))) ≤ ((rdOf ByteArray.empty x532000 x19).size : Int) then (if x6.length < 4398046511104 then (pattern_Bind.l0 k (x6 ++ [(⟨(([(rdOf ByteArray.empty x532000 x19).extract 0 ((wrap64 (((rdOf ByteArray.empty x532000 x19).size : Int) - (bt534.2.size : Int))) : Int).toNat] : List ByteArray)), false⟩ : S39)]) x17 x18 (wrap64 (x19 + 1)) x531000 x531001 x532000 x532001) else (none)) else (none)) else (none)) else (none)) else (pattern_Bind.l0 k x6 x17 x18 (wrap64 (x19 + 1)) x531000 x531001 x532000 x532001))) else (none)) else (none)) else (if x531001 = true then ((some (([] : List ByteArray) : List ByteArray)).bind fun y543 => (if 0 ≤ (x531000.length : Int) then (if (x531000.length : Int) ≤ (x532000.length : Int) then (if y543.length + (x532000.drop ((x531000.length : Int) : Int).toNat).length < 8796093022208 then (if x6.length < 4398046511104 then (some ((x6 ++ [(⟨(y543 ++ (x532000.drop ((x531000.length : Int) : Int).toNat)), x532001⟩ : S39)]), true)) else (none)) else (none)) else (none)) else (none))) else (some (x6, true)))
def pattern_Bind.f (k : Nat) (l0_0 : List ByteArray) (a0_1 : Bool) (l1_0 : List ByteArray) (a1_1 : Bool) : Option ((List (S39)) × Bool) := (pattern_Within.f k l1_0 a1_1 l0_0 a0_1).bind fun t532 => (if t532 = true then (pattern_Bind.l0 k ([] : List (S39)) l0_0 (l0_0.length : Int) 0 l0_0 a0_1 l1_0 a1_1) else (some (([] : List (S39)), false)))
theorem pattern_Bind.mono_l : ∀ k, (∀ y0 y1 y2 y3 y4 y5 y6 y7, LeO (pattern_Bind.l0 k y0 y1 y2 y3 y4 y5 y6 y7) (pattern_Bind.l0 (k + 1) y0 y1 y2 y3 y4 y5 y6 y7))
  | 0 => fun _ _ _ _ _ _ _ _ r h => by simp [pattern_Bind.l0] at h
  | k + 1 => by
    have ih0 := pattern_Bind.mono_l k
    · intro y0 y1 y2 y3 y4 y5 y6 y7
      unfold pattern_Bind.l0
      repeat' first
      | (with_reducible exact ih0 _ _ _ _ _ _ _ _)
      | (with_reducible exact pattern_Within.mono _ _ _ _ _)
      | (with_reducible exact pattern_formOf.mono _ _)
      | (with_reducible exact LeO.refl _)
      | (with_reducible exact LeO.none _)
      | (with_reducible refine LeO.ite ?_ ?_)
      | (with_reducible refine LeO.bind ?_ (fun _ => ?_))
      | exact ih0 _ _ _ _ _ _ _ _
      | exact pattern_Within.mono _ _ _ _ _
      | exact pattern_formOf.mono _ _
      | exact LeO.none _
      | refine LeO.ite ?_ ?_
      | refine LeO.bind ?_ (fun _ => ?_)
theorem pattern_Bind.mono : ∀ a0 a1 a2 a3 k, LeO (pattern_Bind.f k a0 a1 a2 a3) (pattern_Bind.f (k + 1) a0 a1 a2 a3) := by
  intro a0 a1 a2 a3 k
  have ih0 := pattern_Bind.mono_l k
  unfold pattern_Bind.f
  repeat' first
      | (with_reducible exact ih0 _ _ _ _ _ _ _ _)
      | (with_reducible exact pattern_Within.mono _ _ _ _ _)
      | (with_reducible exact pattern_formOf.mono _ _)
      | (with_reducible exact LeO.refl _)
      | (with_reducible exact LeO.none _)
      | (with_reducible refine LeO.ite ?_ ?_)
      | (with_reducible refine LeO.bind ?_ (fun _ => ?_))
      | exact ih0 _ _ _ _ _ _ _ _
      | exact pattern_Within.mono _ _ _ _ _
      | exact pattern_formOf.mono _ _
      | exact LeO.none _
      | refine LeO.ite ?_ ?_
      | refine LeO.bind ?_ (fun _ => ?_)
def pattern_Bind.T13 : Bool × List (List Nat × List Nat) := (true, [([], []), ([], []), ([], []), ([2], [2]), ([], []), ([4], [4]), ([5], [5]), ([3, 6], [3, 6]), ([1, 7], [1, 7]), ([], []), ([9], [9]), ([8, 10], [8, 10]), ([11], [11]), ([0, 12, 8], [0, 12]), ([13, 13, 0, 1, 2, 3, 4, 5, 6, 7, 8, 9, 10, 11, 12, 13], [0, 13])])
def pattern_Bind.B13 : List Nat := [0, 0, 0, 4, 0, 16, 48, 124, 254, 0, 512, 2046, 4094, 8191, 16383]
theorem pattern_Bind.tab13 : rtab .any (opsOf Tryd.f25 13) = pattern_Bind.T13 := by kernel_rfl
theorem pattern_Bind.bits13 : waitsOk pattern_Bind.T13.2 pattern_Bind.B13 = true := by kernel_rfl
set_option maxHeartbeats 8000000 in
set_option maxRecDepth 100000 in
theorem pattern_Bind.calls (k : Nat) (A0_0 : Option Addr) (c0_0 : Nat) (l0_0 : List ByteArray) (a0_1 : Bool) (A1_0 : Option Addr) (c1_0 : Nat) (l1_0 : List ByteArray) (a1_1 : Bool) (r1 : List (S39)) (r2 : Bool) (w : World) (hr0_0 : Kd.C Kd.string w A0_0 l0_0.length l0_0) (hc0_0 : l0_0.length ≤ c0_0) (hr1_0 : Kd.C Kd.string w A1_0 l1_0.length l1_0) (hc1_0 : l1_0.length ≤ c1_0) (h : pattern_Bind.f k l0_0 a0_1 l1_0 a1_1 = some (r1, r2)) :
    Calls Tryd.prog 25 #[.agg #[.slice A0_0 l0_0.length c0_0, .bool a0_1], .agg #[.slice A1_0 l1_0.length c1_0, .bool a1_1]] w fun e w' => ∃ v0_ : Value, e = .returned (.tuple #[v0_, .bool r2]) ∧ Kd.S k39 39 w' w.heap.size (fun _ => True) v0_ r1 ∧ Below w.heap.size w w' := by
  have hu24 := Tryd.underlying24
  have hu39 := Tryd.underlying39
  have HR0_0 := Aside0.mk hr0_0
  have HC0_0 := Aside0.mk hc0_0
  clear hr0_0 hc0_0
  have HR1_0 := Aside0.mk hr1_0
  have HC1_0 := Aside0.mk hc1_0
  clear hr1_0 hc1_0
  have HB := Aside0.mk (Below.refl w.heap.size w)
  have H : ((pattern_Within.f k l1_0 a1_1 l0_0 a0_1).bind fun t532 => (if t532 = true then (pattern_Bind.l0 k ([] : List (S39)) l0_0 (l0_0.length : Int) 0 l0_0 a0_1 l1_0 a1_1) else (some (([] : List (S39)), false)))) = some (r1, r2) := h
  clear h
  replace H := Option.bind_eq_some_iff.mp H
  obtain ⟨t532, A30, H⟩ := H
  replace H : (if t532 = true then (pattern_Bind.l0 k ([] : List (S39)) l0_0 (l0_0.length : Int) 0 l0_0 a0_1 l1_0 a1_1) else (some (([] : List (S39)), false))) = some (r1, r2) := H
  have A3 := Aside0.mk A30
  clear A30
  by_cases c4 : t532 = true
  · subst c4
    have H1 : (pattern_Bind.l0 k ([] : List (S39)) l0_0 (l0_0.length : Int) 0 l0_0 a0_1 l1_0 a1_1) = some (r1, r2) := by rw [if_pos rfl] at H; exact H
    clear H
    have H := H1
    clear H1
    have H' := Aside0.mk H
    clear H
    go_enter Tryd.func25, Tryd.ntmps25
    go_wp2_with (first | ((with_reducible refine gate_dst (N := 2) rfl ?_); refine box_event ?hg (N := 2) ?hd (cs := #[.slice A0_0 l0_0.length c0_0, .bool a0_1]) (t := 24) ?hr ?_; (case hd => rfl); (case hg => rfl); (case hr => first | (go_simp; done) | (go_simp; rfl)); intro gb530 hg w5 hbox hb; have n0_ := Aside0.mk (below_step (by repeat (first | (with_reducible first | exact HB.out | apply below_alloc | apply pw_below_drewN | apply below_drew1) | exact HB.out)) hb); have n1_ := Aside0.mk (hbox); have n2_ := Aside0.mk ((by rw [hg]; exact (below_size (by repeat (first | (with_reducible first | exact HB.out | apply below_alloc | apply pw_below_drewN | apply below_drew1) | exact HB.out))) : w.heap.size ≤ gb530)); have n3_ := Aside0.mk ((by rw [hg]; exact (below_size (by repeat (first | (with_reducible first | exact HB.out | apply below_alloc | apply pw_below_drewN | apply below_drew1) | exact HB.out))) : w.heap.size ≤ gb530)); clear HB; have HB := n0_; have BK530 := n1_; have GW530 := n2_; have GE530 := n3_; clear n0_ n1_ n2_ n3_; clear hb hbox hg) | ((with_reducible refine gate_dst (N := 3) rfl ?_); refine box_event ?hg (N := 3) ?hd (cs := #[.slice A1_0 l1_0.length c1_0, .bool a1_1]) (t := 24) ?hr ?_; (case hd => rfl); (case hg => rfl); (case hr => first | (go_simp; done) | (go_simp; rfl)); intro gb531 hg w6 hbox hb; have n0_ := Aside0.mk (blk_below (g := gb530) (o := .cells #[.slice A0_0 l0_0.length c0_0, .bool a0_1] 24 (0, 0)) (by (with_reducible repeat (first | refine blk_drewN ?_ _ | refine blk_drew ?_ | refine blk_alloc ?_ _)); exact BK530.out) hb); have n1_ := Aside0.mk (below_step (by repeat (first | (with_reducible first | exact HB.out | apply below_alloc | apply pw_below_drewN | apply below_drew1 | refine below_set ?_ GE530.out) | exact HB.out)) hb); have n2_ := Aside0.mk (hbox); have n3_ := Aside0.mk ((by rw [hg]; exact (below_size (by repeat (first | (with_reducible first | exact HB.out | apply below_alloc | apply pw_below_drewN | apply below_drew1 | refine below_set ?_ GE530.out) | exact HB.out))) : w.heap.size ≤ gb531)); have n4_ := Aside0.mk ((by rw [hg]; exact (below_size (by repeat (first | (with_reducible first | exact HB.out | apply below_alloc | apply pw_below_drewN | apply below_drew1 | refine below_set ?_ GE530.out) | exact HB.out))) : w.heap.size ≤ gb531)); have n5_ := Aside0.mk ((by rw [hg]; exact Nat.ne_of_lt (blk_lt (g := gb530) (o := .cells #[.slice A0_0 l0_0.length c0_0, .bool a0_1] 24 (0, 0)) (by (with_reducible repeat (first | refine blk_drewN ?_ _ | refine blk_drew ?_ | refine blk_alloc ?_ _)); exact BK530.out)) : gb530 ≠ gb531)); have n6_ := Aside0.mk ((by rw [hg]; exact Nat.ne_of_gt (blk_lt (g := gb530) (o := .cells #[.slice A0_0 l0_0.length c0_0, .bool a0_1] 24 (0, 0)) (by (with_reducible repeat (first | refine blk_drewN ?_ _ | refine blk_drew ?_ | refine blk_alloc ?_ _)); exact BK530.out)) : gb531 ≠ gb530)); clear BK530; clear HB; have BK530 := n0_; have HB := n1_; have BK531 := n2_; have GW531 := n3_; have GE531 := n4_; have NB530_531 := n5_; have NB531_530 := n6_; clear n0_ n1_ n2_ n3_ n4_ n5_ n6_; clear hb hbox hg; have hnb7 := NB531_530.out; have hnc7 := NB530_531.out; have hcz8_0 : w6.cell? ⟨gb531, 0, none⟩ = some (.slice A1_0 l1_0.length c1_0) := (blk_cell BK531.out 0).trans rfl; have hcz8_1 : w6.cell? ⟨gb531, 1, none⟩ = some (.bool a1_1) := (blk_cell BK531.out 1).trans rfl; have hfz8_0 := blk_frozen BK531.out 0; have hfz8_1 := blk_frozen BK531.out 1; have hcz9_0 : w6.cell? ⟨gb530, 0, none⟩ = some (.slice A0_0 l0_0.length c0_0) := (blk_cell BK530.out 0).trans rfl; have hcz9_1 : w6.cell? ⟨gb530, 1, none⟩ = some (.bool a0_1) := (blk_cell BK530.out 1).trans rfl; have hfz9_0 := blk_frozen BK530.out 0; have hfz9_1 := blk_frozen BK530.out 1) | ((with_reducible refine gate_callee (f := 18) rfl ?_); refine goesL_ (some 14) rfl rfl Tryd.func18 (by kernel_rfl) rfl #[.agg #[.slice A1_0 l1_0.length c1_0, .bool a1_1], .agg #[.slice A0_0 l0_0.length c0_0, .bool a0_1]] rfl (by (try simp only [List.map_toArray, List.map_cons, List.map_nil]); first | done | rfl | (simp only [List.length_drop, List.length_take]; rfl)) ?_; (with_reducible refine (pattern_Within.calls k _ _ l1_0 a1_1 _ _ l0_0 a0_1 true _ ?side1 ?side2 ?side3 ?side4 A3.out).mono ?_); (case side1 => repeat (first | exact (Kd.C_below HR1_0.out HB.out) | (with_reducible refine Kd.C_alloc ?_ _) | (with_reducible refine Kd.C_drewN ?_ _) | (with_reducible refine Kd.C_drew ?_))); (case side2 => exact HC1_0.out); (case side3 => repeat (first | exact (Kd.C_below HR0_0.out HB.out) | (with_reducible refine Kd.C_alloc ?_ _) | (with_reducible refine Kd.C_drewN ?_ _) | (with_reducible refine Kd.C_drew ?_))); (case side4 => exact HC0_0.out); rintro e w10 ⟨rfl, hb⟩; refine ⟨_, rfl, ?_⟩; have n0_ := Aside0.mk (blk_below (g := gb530) (o := .cells #[.slice A0_0 l0_0.length c0_0, .bool a0_1] 24 (0, 0)) (by (with_reducible repeat (first | refine blk_drewN ?_ _ | refine blk_drew ?_ | refine blk_alloc ?_ _)); exact BK530.out) hb); have n1_ := Aside0.mk (blk_below (g := gb531) (o := .cells #[.slice A1_0 l1_0.length c1_0, .bool a1_1] 24 (0, 0)) (by (with_reducible repeat (first | refine blk_drewN ?_ _ | refine blk_drew ?_ | refine blk_alloc ?_ _)); exact BK531.out) hb); have n2_ := Aside0.mk (below_step (by repeat (first | (with_reducible first | exact HB.out | apply below_alloc | apply pw_below_drewN | apply below_drew1 | refine below_set ?_ GE530.out | refine below_set ?_ GE531.out) | exact HB.out)) hb); clear BK530; clear BK531; clear HB; have BK530 := n0_; have BK531 := n1_; have HB := n2_; clear n0_ n1_ n2_; (try clear hb); (try clear hb2); (try clear hk); (try clear hi); have hcz11_0 : w10.cell? ⟨gb530, 0, none⟩ = some (.slice A0_0 l0_0.length c0_0) := (blk_cell BK530.out 0).trans rfl; have hcz11_1 : w10.cell? ⟨gb530, 1, none⟩ = some (.bool a0_1) := (blk_cell BK530.out 1).trans rfl; have hfz11_0 := blk_frozen BK530.out 0; have hfz11_1 := blk_frozen BK530.out 1))
    go_loopg [6, 19] k (fun kq v6 v19 w' => ∃ (x6_1 : List (S39)) (x19_1 : Int), v19 = .int .i64 x19_1 ∧ Aside0 (pattern_Bind.l0 kq x6_1 l0_0 (l0_0.length : Int) x19_1 l0_0 a0_1 l1_0 a1_1 = some (r1, r2)) ∧ Aside0 (kq ≤ k) ∧ Aside0 (Kd.S k39 39 w' w.heap.size (fun _ => True) v6 x6_1) ∧ Aside0 (w'.heap[gb530]? = some (.cells #[(.slice A0_0 l0_0.length c0_0), .bool a0_1] 24 (0, 0))) ∧ Aside0 (w'.heap[gb531]? = some (.cells #[(.slice A1_0 l1_0.length c1_0), .bool a1_1] 24 (0, 0))) ∧ Aside0 (Below w.heap.size w w'))
    case atStart => exact ⟨(([] : List (S39))), (0), (by first | rfl | (simp; done) | (simp [*]; done)), H', ⟨Nat.le_refl _⟩, ⟨by first | exact Kd.S_nil _ _ _ _ _ | exact Kd.N_nil _ _ _ _ _ | exact Kd.V_nil _ _ _ _ _ | exact Kd.Q_nil _ _ _ _ _ | exact Kd.R_nil _ _ _ _ _⟩, ⟨by (with_reducible repeat (first | refine blk_drewN ?_ _ | refine blk_drew ?_ | refine blk_alloc ?_ _)); exact BK530.out⟩, ⟨by (with_reducible repeat (first | refine blk_drewN ?_ _ | refine blk_drew ?_ | refine blk_alloc ?_ _)); exact BK531.out⟩, ⟨by repeat (first | (with_reducible first | exact HB.out | apply below_alloc | apply pw_below_drewN | apply below_drew1 | refine below_set ?_ GE530.out | refine below_set ?_ GE531.out) | exact HB.out)⟩⟩
    case round =>
      clear H'
      try clear c1
      try clear c2
      try clear p2
      try clear c4
      try clear c7
      try clear hcz11_0
      try clear hcz11_1
      try clear hcz8_0
      try clear hcz8_1
      try clear hcz9_0
      try clear hcz9_1
      try clear hfz11_0
      try clear hfz11_1
      try clear hfz8_0
      try clear hfz8_1
      try clear hfz9_0
      try clear hfz9_1
      obtain ⟨x6_1, x19_1, rfl, HA, HK1, HO_6, BK530, BK531, HB⟩ := hrel
      cases gk with
      | zero => exact absurd HA.out (by simp [pattern_Bind.l0])
      | succ k1 =>
        have H := HA.out
        clear HA
        simp only [pattern_Bind.l0] at H
        by_cases c12 : x19_1 < (l0_0.length : Int)
        · rw [if_pos c12] at H
          have c12b0 : decide (x19_1 < (l0_0.length : Int)) = true := decide_eq_true c12
          clear c12
          by_cases c13 : 0 ≤ x19_1
          · rw [if_pos c13] at H
            have c13b0 : decide (0 ≤ x19_1) = true := decide_eq_true c13
            clear c13
            by_cases c14 : x19_1 < (l0_0.length : Int)
            · rw [if_pos c14] at H
              have c14b0 : decide (x19_1 < (l0_0.length : Int)) = true := decide_eq_true c14
              clear c14
              replace H := Option.bind_eq_some_iff.mp H
              obtain ⟨⟨t534, t535⟩, A150, H⟩ := H
              replace H : (if t534 = 2 then (if x19_1 < (l1_0.length : Int) then (if 0 ≤ (wrap64 (((rdOf ByteArray.empty l1_0 x19_1).size : Int) - (t535.size : Int))) then (if (wrap64 (((rdOf ByteArray.empty l1_0 x19_1).size : Int) - (t535.size : Int))) ≤ ((rdOf ByteArray.empty l1_0 x19_1).size : Int) then (if x6_1.length < 4398046511104 then (pattern_Bind.l0 k1 (x6_1 ++ [(⟨(([(rdOf ByteArray.empty l1_0 x19_1).extract 0 ((wrap64 (((rdOf ByteArray.empty l1_0 x19_1).size : Int) - (t535.size : Int))) : Int).toNat] : List ByteArray)), false⟩ : S39)]) l0_0 (l0_0.length : Int) (wrap64 (x19_1 + 1)) l0_0 a0_1 l1_0 a1_1) else (none)) else (none)) else (none)) else (none)) else (pattern_Bind.l0 k1 x6_1 l0_0 (l0_0.length : Int) (wrap64 (x19_1 + 1)) l0_0 a0_1 l1_0 a1_1)) = some (r1, r2) := H
              have A15 := Aside0.mk A150
              clear A150
              by_cases c16 : t534 = 2
              · rw [if_pos c16] at H
                have c16b0 : (t534 == 2) = true := beq_iff_eq.mpr c16
                have c16b1 : (t534 != 2) = false := bne_eq_false_iff_eq.mpr c16
                clear c16
                by_cases c17 : x19_1 < (l1_0.length : Int)
                · rw [if_pos c17] at H
                  have c17b0 : decide (x19_1 < (l1_0.length : Int)) = true := decide_eq_true c17
                  clear c17
                  obtain ⟨ji18, hji18⟩ : ∃ j_ : Int, (wrap64 (((rdOf ByteArray.empty l1_0 x19_1).size : Int) - (t535.size : Int))) = j_ := ⟨_, rfl⟩
                  replace H : (if 0 ≤ (ji18) then (if (ji18) ≤ ((rdOf ByteArray.empty l1_0 x19_1).size : Int) then (if x6_1.length < 4398046511104 then (pattern_Bind.l0 k1 (x6_1 ++ [(⟨(([(rdOf ByteArray.empty l1_0 x19_1).extract 0 ((ji18) : Int).toNat] : List ByteArray)), false⟩ : S39)]) l0_0 (l0_0.length : Int) (wrap64 (x19_1 + 1)) l0_0 a0_1 l1_0 a1_1) else (none)) else (none)) else (none)) = some (r1, r2) := by first | (rw [hji18] at H; exact H) | (simp only [hji18] at H ⊢; exact H)
                  (try rw [hji18] at A15)
                  have hji18w : (IntKind.i64.wrap (((rdOf ByteArray.empty l1_0 x19_1).size : Int) - (t535.size : Int))) = ji18 := (i64_w _).trans hji18
                  by_cases c19 : 0 ≤ (ji18)
                  · rw [if_pos c19] at H
                    have c19b0 := eq_true c19
                    have c19b1 : decide (0 ≤ (ji18)) = true := decide_eq_true c19
                    clear c19
                    by_cases c20 : (ji18) ≤ ((rdOf ByteArray.empty l1_0 x19_1).size : Int)
                    · rw [if_pos c20] at H
                      have c20b0 := eq_true c20
                      have c20b1 : decide ((ji18) ≤ ((rdOf ByteArray.empty l1_0 x19_1).size : Int)) = true := decide_eq_true c20
                      clear c20
                      obtain ⟨y537, hy537⟩ : ∃ y_ : List ByteArray, y_ = (([(rdOf ByteArray.empty l1_0 x19_1).extract 0 ((ji18) : Int).toNat] : List ByteArray)) := ⟨_, rfl⟩
                      replace H : (if x6_1.length < 4398046511104 then (pattern_Bind.l0 k1 (x6_1 ++ [(⟨y537, false⟩ : S39)]) l0_0 (l0_0.length : Int) (wrap64 (x19_1 + 1)) l0_0 a0_1 l1_0 a1_1) else (none)) = some (r1, r2) := by first | (rw [hy537]; with_reducible exact H) | (have H2_ := (Option.bind_some _ _).symm.trans H; rw [hy537]; with_reducible exact H2_) | (have H2_ := (Option.bind_some _ _).symm.trans H; with_reducible exact H2_) | with_reducible exact H | (rw [hy537]; exact H) | exact H
                      have Ny537 := Aside0.mk hy537
                      clear hy537
                      by_cases c21 : x6_1.length < 4398046511104
                      · rw [if_pos c21] at H
                        have LMc21 := Aside0.mk c21
                        clear c21
                        obtain ⟨y540, hy540⟩ : ∃ y_ : List (S39), y_ = (x6_1 ++ [(⟨y537, false⟩ : S39)]) := ⟨_, rfl⟩
                        replace H : (pattern_Bind.l0 k1 y540 l0_0 (l0_0.length : Int) (wrap64 (x19_1 + 1)) l0_0 a0_1 l1_0 a1_1) = some (r1, r2) := by first | (rw [hy540]; with_reducible exact H) | (have H2_ := (Option.bind_some _ _).symm.trans H; rw [hy540]; with_reducible exact H2_) | (have H2_ := (Option.bind_some _ _).symm.trans H; with_reducible exact H2_) | with_reducible exact H | (rw [hy540]; exact H) | exact H
                        have Ny540 := Aside0.mk hy540
                        clear hy540
                        have H' := Aside0.mk H
                        clear H
                        have p533 : 0 ≤ (x19_1 : Int) := of_decide_eq_true (by first | (with_reducible assumption) | assumption)
                        have q533 : x19_1 < (l0_0.length : Int) := of_decide_eq_true (by first | (with_reducible assumption) | assumption)
                        obtain ⟨ad533, e533, hx533_0⟩ := Kd.at_string HR0_0.out x19_1 p533 q533
                        cases e533
                        replace hx533_0 := (HB.out.cell (World.block_lt_of_cell? w _ hx533_0)).trans hx533_0
                        replace p533 := eq_true p533
                        replace q533 := eq_true q533
                        go_wp2_with (first | ((with_reducible refine gate_callee (f := 32) rfl ?_); refine goesL_ (some 26) rfl rfl Tryd.func32 (by kernel_rfl) rfl #[.string (rdOf ByteArray.empty l0_0 x19_1)] rfl (by (try simp only [List.map_toArray, List.map_cons, List.map_nil]); first | done | rfl | (simp only [List.length_drop, List.length_take]; rfl)) ?_; (with_reducible refine (pattern_formOf.calls k1 (rdOf ByteArray.empty l0_0 x19_1) t534 t535 _ A15.out).mono ?_); rintro e w' ⟨rfl, ⟨nd, rfl⟩⟩; refine ⟨_, rfl, ?_⟩; have hnb22 := NB531_530.out; have hnc22 := NB530_531.out; have hcz23_0 : wr.cell? ⟨gb531, 0, none⟩ = some (.slice A1_0 l1_0.length c1_0) := (blk_cell BK531.out 0).trans rfl; have hcz23_1 : wr.cell? ⟨gb531, 1, none⟩ = some (.bool a1_1) := (blk_cell BK531.out 1).trans rfl; have hfz23_0 := blk_frozen BK531.out 0; have hfz23_1 := blk_frozen BK531.out 1; have p536 : 0 ≤ (x19_1 : Int) := of_decide_eq_true (by first | (with_reducible assumption) | assumption); have q536 : x19_1 < (l1_0.length : Int) := of_decide_eq_true (by first | (with_reducible assumption) | assumption); obtain ⟨ad536, e536, hx536_0⟩ := Kd.at_string HR1_0.out x19_1 p536 q536; cases e536; replace hx536_0 := (HB.out.cell (World.block_lt_of_cell? w _ hx536_0)).trans hx536_0; replace p536 := eq_true p536; replace q536 := eq_true q536) | ((with_reducible refine gate_dst (N := 44) rfl ?_); refine Kd.R_lit Kd.string _ 9 ?hg (N := 44) ?hd (xs := ([(rdOf ByteArray.empty l1_0 x19_1).extract 0 ((ji18) : Int).toNat] : List ByteArray)) (inner := [.string ((rdOf ByteArray.empty l1_0 x19_1).extract 0 ((ji18) : Int).toNat)]) (ok := fun _ => True) (okp := fun _ => True) ?hr ?hp (fun _ hk => hk) trivial (Below.refl _ _) (Nat.le_refl _) (by simp) ?_; (case hd => rfl); (case hg => rfl); (case hr => first | (go_simp; done) | (go_simp; rfl)); (case hp => exact (Reps.one (show Kd.M Kd.string _ _ _ ((rdOf ByteArray.empty l1_0 x19_1).extract 0 ((ji18) : Int).toNat) [.string ((rdOf ByteArray.empty l1_0 x19_1).extract 0 ((ji18) : Int).toNat)] from rfl) (Reps.none _ _))); intro v538 w24 ho25 hb hg_ hnew_; clear hg_ hnew_; (first | rw [← Ny537.out] at ho25 | (simp only [Int.reduceToNat] at ho25; rw [← Ny537.out] at ho25)); have n0_ := Aside0.mk (Kd.S_elder' (by (with_reducible repeat (first | apply Kd.S_alloc | apply Kd.S_drewN | apply Kd.S_drew)); exact HO_6.out) (Kd.R_base ho25) hb); have n1_ := Aside0.mk (Kd.R_lower ho25 (below_size (by repeat (first | (with_reducible first | exact HB.out | apply below_alloc | apply pw_below_drewN | apply below_drew1 | refine below_set ?_ GE530.out | refine below_set ?_ GE531.out) | exact HB.out)))); have n2_ := Aside0.mk (blk_below (g := gb530) (o := .cells #[.slice (some ad533) l0_0.length c0_0, .bool a0_1] 24 (0, 0)) (by (with_reducible repeat (first | refine blk_drewN ?_ _ | refine blk_drew ?_ | refine blk_alloc ?_ _)); exact BK530.out) hb); have n3_ := Aside0.mk (blk_below (g := gb531) (o := .cells #[.slice (some ad536) l1_0.length c1_0, .bool a1_1] 24 (0, 0)) (by (with_reducible repeat (first | refine blk_drewN ?_ _ | refine blk_drew ?_ | refine blk_alloc ?_ _)); exact BK531.out) hb); have n4_ := Aside0.mk (below_step (by repeat (first | (with_reducible first | exact HB.out | apply below_alloc | apply pw_below_drewN | apply below_drew1 | refine below_set ?_ GE530.out | refine below_set ?_ GE531.out) | exact HB.out)) hb); clear HO_6; clear BK530; clear BK531; clear HB; have HO_6 := n0_; have HO539 := n1_; have BK530 := n2_; have BK531 := n3_; have HB := n4_; clear n0_ n1_ n2_ n3_ n4_; clear hb ho25; obtain ⟨Ao26, co26, eo26⟩ := Kd.R_slice HO539.out; subst eo26) | ((with_reducible refine gate_builtin (b := .append) (xs := #[.tmp 36, .tmp 46]) rfl ?_); at_builtin; refine Kd.S_append k39 (w0 := w) w.heap.size rfl (.tmp 36) (.tmp 46) 38 39 (.agg #[(.slice none 0 0), (.bool false)]) 32 rfl Tryd.underlying38 info39 rfl (by decide) (by omega) u6 x6_1 (⟨y537, false⟩ : S39) [.slice Ao26 y537.length co26, .bool false] (fun _ => True) (fun k_ => some k_ = (.slice Ao26 y537.length co26 : Value).ownBlock) rfl rfl ?aP (fun k_ hk_ => ((Kd.R_mono (ok' := fun k_ => ((fun _ => True)) k_ ∧ some k_ ≠ (u6 : Value).ownBlock) (Kd.R_apart' (HO539.out) (Kd.S_typed HO_6.out) (by decide)) (fun k_ hk => ⟨trivial, hk.2⟩))).1 k_ hk_.symm) ?aF ?aO ?aB ?aS ?aL ?_; (case aP => exact k39_mkM _ _ _ (⟨y537, false⟩ : S39) (Kd.R_mono (Kd.R_tight rfl (Kd.R_mono (ok' := fun k_ => ((fun _ => True)) k_ ∧ some k_ ≠ (u6 : Value).ownBlock) (Kd.R_apart' (HO539.out) (Kd.S_typed HO_6.out) (by decide)) (fun k_ hk => ⟨trivial, hk.2⟩))) (fun _ h_ => h_))); (case aB => exact (by repeat (first | (with_reducible first | exact HB.out | apply below_alloc | apply pw_below_drewN | apply below_drew1 | refine below_set ?_ GE530.out | refine below_set ?_ GE531.out) | exact HB.out))); (case aF => exact (fun _ _ => trivial)); (case aO => exact (by (with_reducible repeat (first | apply Kd.S_alloc | apply Kd.S_drewN | apply Kd.S_drew)); exact Kd.S_mono HO_6.out (fun k_ hk => ⟨trivial, fun e_ => hk.2 e_⟩))); (case aS => exact (below_size (by repeat (first | (with_reducible first | exact HB.out | apply below_alloc | apply pw_below_drewN | apply below_drew1 | refine below_set ?_ GE530.out | refine below_set ?_ GE531.out) | exact HB.out)))); (case aL => have := LMc21.out; omega); intro v541 w27 ho hb hg hat; rw [← Ny540.out] at ho; have n0_ := Aside0.mk (blk_grown (g := gb530) (o := .cells #[.slice (some ad533) l0_0.length c0_0, .bool a0_1] 24 (0, 0)) (by (with_reducible repeat (first | refine blk_drewN ?_ _ | refine blk_drew ?_ | refine blk_alloc ?_ _)); exact BK530.out) hg (Kd.S_ne HO_6.out BK530.out (by decide))); have n1_ := Aside0.mk (blk_grown (g := gb531) (o := .cells #[.slice (some ad536) l1_0.length c1_0, .bool a1_1] 24 (0, 0)) (by (with_reducible repeat (first | refine blk_drewN ?_ _ | refine blk_drew ?_ | refine blk_alloc ?_ _)); exact BK531.out) hg (Kd.S_ne HO_6.out BK531.out (by decide))); have n2_ := Aside0.mk (hb); have n3_ := Aside0.mk (ho); clear BK530; clear BK531; clear HB; clear HO_6; clear HO539; have BK530 := n0_; have BK531 := n1_; have HB := n2_; have HO542 := n3_; clear n0_ n1_ n2_ n3_; clear ho hb hg hat))
                        go_roundg k1
                        case measure => have := HK1.out; omega
                        case rel => exact ⟨(y540), (wrap64 (x19_1 + 1)), (by first | rfl | (simp; done) | (simp [*]; done)), H', ⟨by have := HK1.out; omega⟩, ⟨by (with_reducible repeat (first | apply Kd.S_alloc | apply Kd.S_drewN | apply Kd.S_drew)); exact HO542.out⟩, ⟨by (with_reducible repeat (first | refine blk_drewN ?_ _ | refine blk_drew ?_ | refine blk_alloc ?_ _)); exact BK530.out⟩, ⟨by (with_reducible repeat (first | refine blk_drewN ?_ _ | refine blk_drew ?_ | refine blk_alloc ?_ _)); exact BK531.out⟩, ⟨by repeat (first | (with_reducible first | exact HB.out | apply below_alloc | apply pw_below_drewN | apply below_drew1 | refine below_set ?_ GE530.out | refine below_set ?_ GE531.out) | exact HB.out)⟩⟩
                      · rw [if_neg c21] at H
                        exact absurd H (by simp)
                    · rw [if_neg c20] at H
                      exact absurd H (by simp)
                  · rw [if_neg c19] at H
                    exact absurd H (by simp)
                · rw [if_neg c17] at H
                  exact absurd H (by simp)
              · rw [if_neg c16] at H
                have c16b0 : (t534 == 2) = false := beq_eq_false_iff_ne.mpr c16
                have c16b1 : (t534 != 2) = true := bne_iff_ne.mpr c16
                have H' := Aside0.mk H
                clear H
                have p533 : 0 ≤ (x19_1 : Int) := of_decide_eq_true (by first | (with_reducible assumption) | assumption)
                have q533 : x19_1 < (l0_0.length : Int) := of_decide_eq_true (by first | (with_reducible assumption) | assumption)
                obtain ⟨ad533, e533, hx533_0⟩ := Kd.at_string HR0_0.out x19_1 p533 q533
                cases e533
                replace hx533_0 := (HB.out.cell (World.block_lt_of_cell? w _ hx533_0)).trans hx533_0
                replace p533 := eq_true p533
                replace q533 := eq_true q533
                go_wp2_with (first | ((with_reducible refine gate_callee (f := 32) rfl ?_); refine goesL_ (some 26) rfl rfl Tryd.func32 (by kernel_rfl) rfl #[.string (rdOf ByteArray.empty l0_0 x19_1)] rfl (by (try simp only [List.map_toArray, List.map_cons, List.map_nil]); first | done | rfl | (simp only [List.length_drop, List.length_take]; rfl)) ?_; (with_reducible refine (pattern_formOf.calls k1 (rdOf ByteArray.empty l0_0 x19_1) t534 t535 _ A15.out).mono ?_); rintro e w' ⟨rfl, ⟨nd, rfl⟩⟩; refine ⟨_, rfl, ?_⟩))
                go_roundg k1
                case measure => have := HK1.out; omega
                case rel => exact ⟨(x6_1), (wrap64 (x19_1 + 1)), (by first | rfl | (simp; done) | (simp [*]; done)), H', ⟨by have := HK1.out; omega⟩, ⟨by (with_reducible repeat (first | apply Kd.S_alloc | apply Kd.S_drewN | apply Kd.S_drew)); exact HO_6.out⟩, ⟨by (with_reducible repeat (first | refine blk_drewN ?_ _ | refine blk_drew ?_ | refine blk_alloc ?_ _)); exact BK530.out⟩, ⟨by (with_reducible repeat (first | refine blk_drewN ?_ _ | refine blk_drew ?_ | refine blk_alloc ?_ _)); exact BK531.out⟩, ⟨by repeat (first | (with_reducible first | exact HB.out | apply below_alloc | apply pw_below_drewN | apply below_drew1 | refine below_set ?_ GE530.out | refine below_set ?_ GE531.out) | exact HB.out)⟩⟩
            · rw [if_neg c14] at H
              exact absurd H (by simp)
          · rw [if_neg c13] at H
            exact absurd H (by simp)
        · rw [if_neg c12] at H
          have c12b0 : decide (x19_1 < (l0_0.length : Int)) = false := decide_eq_false c12
          clear c12
          by_cases c28 : a0_1 = true
          · subst c28
            have H1 : ((some (([] : List ByteArray) : List ByteArray)).bind fun y543 => (if 0 ≤ (l0_0.length : Int) then (if (l0_0.length : Int) ≤ (l1_0.length : Int) then (if y543.length + (l1_0.drop ((l0_0.length : Int) : Int).toNat).length < 8796093022208 then (if x6_1.length < 4398046511104 then (some ((x6_1 ++ [(⟨(y543 ++ (l1_0.drop ((l0_0.length : Int) : Int).toNat)), a1_1⟩ : S39)]), true)) else (none)) else (none)) else (none)) else (none))) = some (r1, r2) := by rw [if_pos rfl] at H; exact H
            clear H
            have H := H1
            clear H1
            obtain ⟨y543, hy543⟩ : ∃ y_ : List ByteArray, y_ = (([] : List ByteArray)) := ⟨_, rfl⟩
            replace H : (if 0 ≤ (l0_0.length : Int) then (if (l0_0.length : Int) ≤ (l1_0.length : Int) then (if y543.length + (l1_0.drop ((l0_0.length : Int) : Int).toNat).length < 8796093022208 then (if x6_1.length < 4398046511104 then (some ((x6_1 ++ [(⟨(y543 ++ (l1_0.drop ((l0_0.length : Int) : Int).toNat)), a1_1⟩ : S39)]), true)) else (none)) else (none)) else (none)) else (none)) = some (r1, r2) := by first | (rw [hy543]; with_reducible exact H) | (have H2_ := (Option.bind_some _ _).symm.trans H; rw [hy543]; with_reducible exact H2_) | (have H2_ := (Option.bind_some _ _).symm.trans H; with_reducible exact H2_) | with_reducible exact H | (rw [hy543]; exact H) | exact H
            have Ny543 := Aside0.mk hy543
            clear hy543
            by_cases c29 : 0 ≤ (l0_0.length : Int)
            · rw [if_pos c29] at H
              have c29b0 := eq_true c29
              have c29b1 : decide (0 ≤ (l0_0.length : Int)) = true := decide_eq_true c29
              clear c29
              by_cases c30 : (l0_0.length : Int) ≤ (l1_0.length : Int)
              · rw [if_pos c30] at H
                have c30b0 := eq_true c30
                have c30b1 : decide ((l0_0.length : Int) ≤ (l1_0.length : Int)) = true := decide_eq_true c30
                clear c30
                by_cases c31 : y543.length + (l1_0.drop ((l0_0.length : Int) : Int).toNat).length < 8796093022208
                · rw [if_pos c31] at H
                  have LMc31 := Aside0.mk c31
                  clear c31
                  obtain ⟨y547, hy547⟩ : ∃ y_ : List ByteArray, y_ = (y543 ++ (l1_0.drop ((l0_0.length : Int) : Int).toNat)) := ⟨_, rfl⟩
                  replace H : (if x6_1.length < 4398046511104 then (some ((x6_1 ++ [(⟨y547, a1_1⟩ : S39)]), true)) else (none)) = some (r1, r2) := by first | (rw [hy547]; with_reducible exact H) | (have H2_ := (Option.bind_some _ _).symm.trans H; rw [hy547]; with_reducible exact H2_) | (have H2_ := (Option.bind_some _ _).symm.trans H; with_reducible exact H2_) | with_reducible exact H | (rw [hy547]; exact H) | exact H
                  have Ny547 := Aside0.mk hy547
                  clear hy547
                  by_cases c32 : x6_1.length < 4398046511104
                  · rw [if_pos c32] at H
                    have LMc32 := Aside0.mk c32
                    clear c32
                    obtain ⟨y550, hy550⟩ : ∃ y_ : List (S39), y_ = (x6_1 ++ [(⟨y547, a1_1⟩ : S39)]) := ⟨_, rfl⟩
                    replace H : (some (y550, true)) = some (r1, r2) := by first | (rw [hy550]; with_reducible exact H) | (have H2_ := (Option.bind_some _ _).symm.trans H; rw [hy550]; with_reducible exact H2_) | (have H2_ := (Option.bind_some _ _).symm.trans H; with_reducible exact H2_) | with_reducible exact H | (rw [hy550]; exact H) | exact H
                    have Ny550 := Aside0.mk hy550
                    clear hy550
                    simp only [Option.some.injEq, Prod.mk.injEq] at H
                    obtain ⟨rfl, rfl⟩ := H
                    have hnb33 := NB530_531.out
                    have hnc33 := NB531_530.out
                    have hcz34_0 : wr.cell? ⟨gb530, 0, none⟩ = some (.slice A0_0 l0_0.length c0_0) := (blk_cell BK530.out 0).trans rfl
                    have hcz34_1 : wr.cell? ⟨gb530, 1, none⟩ = some (.bool true) := (blk_cell BK530.out 1).trans rfl
                    have hfz34_0 := blk_frozen BK530.out 0
                    have hfz34_1 := blk_frozen BK530.out 1
                    try go_wp2
                    have n0_ := Aside0.mk (Kd.S_drew HO_6.out)
                    have n1_ := Aside0.mk (blk_drew BK530.out)
                    have n2_ := Aside0.mk (blk_drew BK531.out)
                    have n3_ := Aside0.mk (below_drew1 HB.out)
                    clear HO_6
                    clear BK530
                    clear BK531
                    clear HB
                    have HO_6 := n0_
                    have BK530 := n1_
                    have BK531 := n2_
                    have HB := n3_
                    clear n0_ n1_ n2_ n3_
                    obtain ⟨i036, hi036, _, hsz36, _⟩ := info_parts info9
                    obtain ⟨A36, hcut36, hA36, hC36⟩ := print_drop_of (P := Tryd.prog) Value.string (⟨#[]⟩ : ByteArray) 22 9 .i64 Tryd.underlying22 hi036 hsz36 A1_0 c1_0 l1_0 (l0_0.length : Int) (of_decide_eq_true (by first | (with_reducible assumption) | assumption)) (of_decide_eq_true (by first | (with_reducible assumption) | assumption)) HC1_0.out
                    have HR546 := Aside0.mk (Kd.C_of_reads (h1 := fun _ => rfl) (hA36 _ (Kd.reads_of_C HR1_0.out)))
                    have HC546 := Aside0.mk hC36
                    clear hA36 hC36 hi036 hsz36
                    refine start_ (n := 15) (S := fun w' => w'.cell? ⟨gb531, 0, none⟩ = some (.slice A1_0 l1_0.length c1_0) ∧ w'.cell? ⟨gb531, 1, none⟩ = some (.bool a1_1) ∧ w'.cell? ⟨gb530, 0, none⟩ = some (.slice A0_0 l0_0.length c0_0) ∧ w'.cell? ⟨gb530, 1, none⟩ = some (.bool true)) (ds := []) #[false, false, false, false, false, false, false, false, false, false, false, false, false, false, false] (by kernel_rfl) rfl rfl ⟨(blk_cell BK531.out 0).trans rfl, (blk_cell BK531.out 1).trans rfl, (blk_cell BK530.out 0).trans rfl, (blk_cell BK530.out 1).trans rfl⟩ (fun hHeld => ?_); refine with_tabW pattern_Bind.tab13 pattern_Bind.bits13 (fun HT_ HW_ => ?_)
                    generalize wr.drew = w35 at HO_6 BK530 BK531 HB HR546 hHeld ⊢
                    refine pure_ (i := 0) (N := some 51) (v := ?_) (a' := ?_) #[true, false, false, false, false, false, false, false, false, false, false, false, false, false, false] rfl rfl (any_of HT_.out (by kernel_rfl)) (fun _ _ _ h => h) (Or.inl ⟨by rfl, ?_⟩) ?_ ?_
                    rotate_left
                    · intro w'
                      go_simp
                      with_reducible rfl
                    rotate_left
                    · simp only [Act.put, List.setIfInBounds_toArray, List.set_cons_zero, List.set_cons_succ, i64_w, i32_w]
                      rfl
                    refine pure_ (i := 2) (N := some 53) (v := ?_) (a' := ?_) #[true, false, true, false, false, false, false, false, false, false, false, false, false, false, false] rfl rfl (any_of HT_.out (by kernel_rfl)) (fun _ _ _ h => h) (Or.inl ⟨by rfl, ?_⟩) ?_ ?_
                    rotate_left
                    · intro w'
                      go_simp
                      with_reducible rfl
                    rotate_left
                    · simp only [Act.put, List.setIfInBounds_toArray, List.set_cons_zero, List.set_cons_succ, i64_w, i32_w]
                      rfl
                    refine pure_ (i := 4) (N := some 55) (v := ?_) (a' := ?_) #[true, false, true, false, true, false, false, false, false, false, false, false, false, false, false] rfl rfl (any_of HT_.out (by kernel_rfl)) (fun _ _ _ h => h) (Or.inl ⟨by rfl, ?_⟩) ?_ ?_
                    rotate_left
                    · intro w'
                      go_simp
                      with_reducible rfl
                    rotate_left
                    · simp only [Act.put, List.setIfInBounds_toArray, List.set_cons_zero, List.set_cons_succ, i64_w, i32_w]
                      rfl
                    refine pure_ (i := 9) (N := some 60) (v := ?_) (a' := ?_) #[true, false, true, false, true, false, false, false, false, true, false, false, false, false, false] rfl rfl (any_of HT_.out (by kernel_rfl)) (fun _ _ _ h => h) (Or.inl ⟨by rfl, ?_⟩) ?_ ?_
                    rotate_left
                    · intro w'
                      go_simp
                      with_reducible rfl
                    rotate_left
                    · simp only [Act.put, List.setIfInBounds_toArray, List.set_cons_zero, List.set_cons_succ, i64_w, i32_w]
                      rfl
                    refine take_ (i := 3) (N := some 54) (v := ?_) (a' := ?_) #[true, false, true, true, true, false, false, false, false, true, false, false, false, false, false] rfl rfl (take_ofW HT_.out HW_.out (by kernel_rfl)) (fun _ _ _ h => h) (Or.inl ⟨by rfl, ?_⟩) hHeld ?_ ?_
                    rotate_left
                    · rintro w' ⟨s0, s1, s2, s3⟩
                      go_simp
                      with_reducible rfl
                    rotate_left
                    · simp only [Act.put, List.setIfInBounds_toArray, List.set_cons_zero, List.set_cons_succ, i64_w, i32_w]
                      rfl
                    refine take_ (i := 5) (N := some 56) (v := ?_) (a' := ?_) #[true, false, true, true, true, true, false, false, false, true, false, false, false, false, false] rfl rfl (take_ofW HT_.out HW_.out (by kernel_rfl)) (fun _ _ _ h => h) (Or.inl ⟨by rfl, ?_⟩) hHeld ?_ ?_
                    rotate_left
                    · rintro w' ⟨s0, s1, s2, s3⟩
                      go_simp
                      with_reducible rfl
                    rotate_left
                    · simp only [Act.put, List.setIfInBounds_toArray, List.set_cons_zero, List.set_cons_succ, i64_w, i32_w]
                      rfl
                    refine pure_ (i := 6) (N := some 57) (v := ?_) (a' := ?_) #[true, false, true, true, true, true, true, false, false, true, false, false, false, false, false] rfl rfl (any_of HT_.out (by kernel_rfl)) (fun _ _ _ h => h) (Or.inl ⟨by rfl, ?_⟩) ?_ ?_
                    rotate_left
                    · intro w'
                      go_simp
                      with_reducible rfl
                    rotate_left
                    · simp only [Act.put, List.setIfInBounds_toArray, List.set_cons_zero, List.set_cons_succ, i64_w, i32_w]
                      rfl
                    refine pure_ (i := 7) (N := some 58) (v := ?_) (a' := ?_) #[true, false, true, true, true, true, true, true, false, true, false, false, false, false, false] rfl rfl (any_of HT_.out (by kernel_rfl)) (fun _ _ _ h => h) (Or.inl ⟨by rfl, ?_⟩) ?_ ?_
                    rotate_left
                    · intro w'
                      go_simp
                      with_reducible rfl
                    rotate_left
                    · simp only [Act.put, List.setIfInBounds_toArray, List.set_cons_zero, List.set_cons_succ, i64_w, i32_w]
                      rfl
                    refine take_ (i := 10) (N := some 61) (v := ?_) (a' := ?_) #[true, false, true, true, true, true, true, true, false, true, true, false, false, false, false] rfl rfl (take_ofW HT_.out HW_.out (by kernel_rfl)) (fun _ _ _ h => h) (Or.inl ⟨by rfl, ?_⟩) hHeld ?_ ?_
                    rotate_left
                    · rintro w' ⟨s0, s1, s2, s3⟩
                      go_simp
                      with_reducible rfl
                    rotate_left
                    · simp only [Act.put, List.setIfInBounds_toArray, List.set_cons_zero, List.set_cons_succ, i64_w, i32_w]
                      rfl
                    refine one_ (i := 1) (N := some 52) #[true, true, true, true, true, true, true, true, false, true, true, false, false, false, false] rfl rfl (one_of HT_.out (by kernel_rfl)) (by decide) (fun K hK => ?_)
                    refine Kd.R_lit_step Kd.string _ 9 ?hg (N := 52) ?hd (xs := ([] : List ByteArray)) (inner := []) (ok := fun _ => True) (okp := fun _ => True) ?hr ?hp (fun _ hk => hk) trivial (Below.refl _ _) (Nat.le_refl _) (by simp) ?_; (case hd => rfl); (case hg => rfl); (case hr => first | (go_simp; done) | (go_simp; rfl)); (case hp => exact (Reps.none _ _))
                    intro v544 w37 ho38 hb hg_ hnew_
                    clear hg_ hnew_
                    (first | rw [← Ny543.out] at ho38 | (simp only [Int.reduceToNat] at ho38; rw [← Ny543.out] at ho38))
                    have n0_ := Aside0.mk (Kd.S_elder' (by (with_reducible repeat (first | apply Kd.S_alloc | apply Kd.S_drewN | apply Kd.S_drew)); exact HO_6.out) (Kd.R_base ho38) hb)
                    have n1_ := Aside0.mk (Kd.R_lower ho38 (below_size (by repeat (first | (with_reducible first | exact HB.out | apply below_alloc | apply pw_below_drewN | apply below_drew1 | refine below_set ?_ GE530.out | refine below_set ?_ GE531.out) | exact HB.out))))
                    have n2_ := Aside0.mk (blk_below (g := gb530) (o := .cells #[.slice A0_0 l0_0.length c0_0, .bool true] 24 (0, 0)) (by (with_reducible repeat (first | refine blk_drewN ?_ _ | refine blk_drew ?_ | refine blk_alloc ?_ _)); exact BK530.out) hb)
                    have n3_ := Aside0.mk (blk_below (g := gb531) (o := .cells #[.slice A1_0 l1_0.length c1_0, .bool a1_1] 24 (0, 0)) (by (with_reducible repeat (first | refine blk_drewN ?_ _ | refine blk_drew ?_ | refine blk_alloc ?_ _)); exact BK531.out) hb)
                    have n4_ := Aside0.mk (below_step (by repeat (first | (with_reducible first | exact HB.out | apply below_alloc | apply pw_below_drewN | apply below_drew1 | refine below_set ?_ GE530.out | refine below_set ?_ GE531.out) | exact HB.out)) hb)
                    clear HO_6
                    clear BK530
                    clear BK531
                    clear HB
                    have HO_6 := n0_
                    have HO545 := n1_
                    have BK530 := n2_
                    have BK531 := n3_
                    have HB := n4_
                    clear n0_ n1_ n2_ n3_ n4_
                    clear hb ho38
                    refine hK.out _ _ ⟨(blk_cell BK531.out 0).trans rfl, (blk_cell BK531.out 1).trans rfl, (blk_cell BK530.out 0).trans rfl, (blk_cell BK530.out 1).trans rfl⟩ (fun hHeld => ?_)
                    clear hK K
                    refine norm_ (a' := ?_) ?_ ?_
                    rotate_left
                    · show Act.put _ (some 52) _ = _
                      simp only [Act.put, List.setIfInBounds_toArray, List.set_cons_zero, List.set_cons_succ, i64_w, i32_w]
                      rfl
                    refine one_ (i := 8) (N := some 59) #[true, true, true, true, true, true, true, true, true, true, true, false, false, false, false] rfl rfl (one_of HT_.out (by kernel_rfl)) (by decide) (fun K hK => ?_)
                    refine Kd.R_append_rows_step Kd.string (w0 := w) w.heap.size (by rfl) (.tmp 52) (.tmp 58) 22 9 (.string ⟨#[]⟩) 16 rfl Tryd.underlying22 info9 rfl (by decide) (by omega) v544 y543 (l1_0.drop ((l0_0.length : Int) : Int).toNat) _ _ _ (fun _ => True) (fun _ => False) rfl rfl ?aO ?aR (fun _ _ h => h) (fun _ h => h.elim) ?aF ?aB ?aS ?aL ?_
                    (case aR => first | (rw [show (l1_0.length - l0_0.length) = (l1_0.drop ((l0_0.length : Int) : Int).toNat).length from List.length_drop.symm]; repeat (first | exact (Kd.C_below HR546.out HB.out) | (with_reducible refine Kd.C_alloc ?_ _) | (with_reducible refine Kd.C_drewN ?_ _) | (with_reducible refine Kd.C_drew ?_))) | (rw [← show (l1_0.drop ((l0_0.length : Int) : Int).toNat).length = (l1_0.length - (l0_0.length : Int).toNat) from List.length_drop]; repeat (first | exact (Kd.C_below HR546.out HB.out) | (with_reducible refine Kd.C_alloc ?_ _) | (with_reducible refine Kd.C_drewN ?_ _) | (with_reducible refine Kd.C_drew ?_))) | (repeat (first | exact (Kd.C_below HR546.out HB.out) | (with_reducible refine Kd.C_alloc ?_ _) | (with_reducible refine Kd.C_drewN ?_ _) | (with_reducible refine Kd.C_drew ?_))))
                    (case aB => exact (by repeat (first | (with_reducible first | exact HB.out | apply below_alloc | apply pw_below_drewN | apply below_drew1 | refine below_set ?_ GE530.out | refine below_set ?_ GE531.out) | exact HB.out)))
                    (case aF => exact (fun _ _ => trivial))
                    (case aO => exact (by (with_reducible repeat (first | apply Kd.R_alloc | apply Kd.R_drewN | apply Kd.R_drew)); exact HO545.out))
                    (case aS => exact (below_size (by repeat (first | (with_reducible first | exact HB.out | apply below_alloc | apply pw_below_drewN | apply below_drew1 | refine below_set ?_ GE530.out | refine below_set ?_ GE531.out) | exact HB.out))))
                    (case aL => have := LMc31.out; have hlx_ := (show (l1_0.drop ((l0_0.length : Int) : Int).toNat).length = (l1_0.length - (l0_0.length : Int).toNat) from List.length_drop); omega)
                    intro v548 w39 ho hb hg hat
                    rw [← Ny547.out] at ho
                    have n0_ := Aside0.mk (Kd.S_after (ok := (fun _ => True)) (by (with_reducible repeat (first | apply Kd.S_alloc | apply Kd.S_drewN | apply Kd.S_drew)); exact HO_6.out) hg hat)
                    have n1_ := Aside0.mk (blk_grown (g := gb530) (o := .cells #[.slice A0_0 l0_0.length c0_0, .bool true] 24 (0, 0)) (by (with_reducible repeat (first | refine blk_drewN ?_ _ | refine blk_drew ?_ | refine blk_alloc ?_ _)); exact BK530.out) hg (Kd.R_ne HO545.out BK530.out (by decide)))
                    have n2_ := Aside0.mk (blk_grown (g := gb531) (o := .cells #[.slice A1_0 l1_0.length c1_0, .bool a1_1] 24 (0, 0)) (by (with_reducible repeat (first | refine blk_drewN ?_ _ | refine blk_drew ?_ | refine blk_alloc ?_ _)); exact BK531.out) hg (Kd.R_ne HO545.out BK531.out (by decide)))
                    have n3_ := Aside0.mk (hb)
                    have n4_ := Aside0.mk (ho)
                    clear HO_6
                    clear BK530
                    clear BK531
                    clear HB
                    clear HO545
                    have HO_6 := n0_
                    have BK530 := n1_
                    have BK531 := n2_
                    have HB := n3_
                    have HO549 := n4_
                    clear n0_ n1_ n2_ n3_ n4_
                    clear ho hb hg hat
                    obtain ⟨Ao40, co40, eo40⟩ := Kd.R_slice HO549.out
                    (first | subst eo40 | (injection eo40 with f1_ f2_ f3_; have f4_ := f1_.symm; have f5_ := f3_.symm; clear f1_ f2_ f3_; subst f4_; subst f5_))
                    refine hK.out _ _ ⟨(blk_cell BK531.out 0).trans rfl, (blk_cell BK531.out 1).trans rfl, (blk_cell BK530.out 0).trans rfl, (blk_cell BK530.out 1).trans rfl⟩ (fun hHeld => ?_)
                    clear hK K
                    refine norm_ (a' := ?_) ?_ ?_
                    rotate_left
                    · show Act.put _ (some 59) _ = _
                      simp only [Act.put, List.setIfInBounds_toArray, List.set_cons_zero, List.set_cons_succ, i64_w, i32_w]
                      rfl
                    refine pure_ (i := 11) (N := some 62) (v := ?_) (a' := ?_) #[true, true, true, true, true, true, true, true, true, true, true, true, false, false, false] rfl rfl (any_of HT_.out (by kernel_rfl)) (fun _ _ _ h => h) (Or.inl ⟨by rfl, ?_⟩) ?_ ?_
                    rotate_left
                    · intro w'
                      go_simp
                      with_reducible rfl
                    rotate_left
                    · simp only [Act.put, List.setIfInBounds_toArray, List.set_cons_zero, List.set_cons_succ, i64_w, i32_w]
                      rfl
                    refine one_ (i := 12) (N := some 63) #[true, true, true, true, true, true, true, true, true, true, true, true, true, false, false] rfl rfl (one_of HT_.out (by kernel_rfl)) (by decide) (fun K hK => ?_)
                    refine value_ (w1 := ?_) (v := ?_) (by rfl) rfl ?_ ?_
                    rotate_left 2
                    · go_simp
                      constructor
                      · rfl
                      · rfl
                    refine hK.out _ _ ⟨(blk_cell (blk_alloc BK531.out _) 0).trans rfl, (blk_cell (blk_alloc BK531.out _) 1).trans rfl, (blk_cell (blk_alloc BK530.out _) 0).trans rfl, (blk_cell (blk_alloc BK530.out _) 1).trans rfl⟩ (fun hHeld => ?_)
                    clear hK K
                    refine norm_ (a' := ?_) ?_ ?_
                    rotate_left
                    · show Act.put _ (some 63) _ = _
                      simp only [Act.put, List.setIfInBounds_toArray, List.set_cons_zero, List.set_cons_succ, i64_w, i32_w]
                      rfl
                    refine one_ (i := 13) (N := some 64) #[true, true, true, true, true, true, true, true, true, true, true, true, true, true, false] rfl rfl (one_of HT_.out (by kernel_rfl)) (by decide) (fun K hK => ?_)
                    refine Kd.S_append_step k39 (w0 := w) w.heap.size (by rfl) (.tmp 51) (.tmp 63) 38 39 (.agg #[(.slice none 0 0), (.bool false)]) 32 rfl Tryd.underlying38 info39 rfl (by decide) (by omega) u6 x6_1 (⟨y547, a1_1⟩ : S39) [.slice Ao40 y547.length co40, .bool a1_1] (fun _ => True) (fun k_ => some k_ = (.slice Ao40 y547.length co40 : Value).ownBlock) rfl rfl ?aP (fun k_ hk_ => ((Kd.R_mono (ok' := fun k_ => ((fun _ => True)) k_ ∧ some k_ ≠ (u6 : Value).ownBlock) (Kd.R_apart' (HO549.out) (Kd.S_typed HO_6.out) (by decide)) (fun k_ hk => ⟨trivial, hk.2⟩))).1 k_ hk_.symm) ?aF ?aO ?aB ?aS ?aL ?_
                    (case aP => exact k39_mkM _ _ _ (⟨y547, a1_1⟩ : S39) (Kd.R_mono (Kd.R_tight rfl (Kd.R_mono (ok' := fun k_ => ((fun _ => True)) k_ ∧ some k_ ≠ (u6 : Value).ownBlock) (Kd.R_apart' (HO549.out) (Kd.S_typed HO_6.out) (by decide)) (fun k_ hk => ⟨trivial, hk.2⟩))) (fun _ h_ => h_)))
                    (case aB => exact (by repeat (first | (with_reducible first | exact HB.out | apply below_alloc | apply pw_below_drewN | apply below_drew1 | refine below_set ?_ GE530.out | refine below_set ?_ GE531.out) | exact HB.out)))
                    (case aF => exact (fun _ _ => trivial))
                    (case aO => exact (by (with_reducible repeat (first | apply Kd.S_alloc | apply Kd.S_drewN | apply Kd.S_drew)); exact Kd.S_mono HO_6.out (fun k_ hk => ⟨trivial, fun e_ => hk.2 e_⟩)))
                    (case aS => exact (below_size (by repeat (first | (with_reducible first | exact HB.out | apply below_alloc | apply pw_below_drewN | apply below_drew1 | refine below_set ?_ GE530.out | refine below_set ?_ GE531.out) | exact HB.out))))
                    (case aL => have := LMc32.out; omega)
                    intro v551 w41 ho hb hg hat
                    rw [← Ny550.out] at ho
                    have n0_ := Aside0.mk (blk_grown (g := gb530) (o := .cells #[.slice A0_0 l0_0.length c0_0, .bool true] 24 (0, 0)) (by (with_reducible repeat (first | refine blk_drewN ?_ _ | refine blk_drew ?_ | refine blk_alloc ?_ _)); exact BK530.out) hg (Kd.S_ne HO_6.out BK530.out (by decide)))
                    have n1_ := Aside0.mk (blk_grown (g := gb531) (o := .cells #[.slice A1_0 l1_0.length c1_0, .bool a1_1] 24 (0, 0)) (by (with_reducible repeat (first | refine blk_drewN ?_ _ | refine blk_drew ?_ | refine blk_alloc ?_ _)); exact BK531.out) hg (Kd.S_ne HO_6.out BK531.out (by decide)))
                    have n2_ := Aside0.mk (hb)
                    have n3_ := Aside0.mk (ho)
                    clear BK530
                    clear BK531
                    clear HB
                    clear HO_6
                    clear HO549
                    have BK530 := n0_
                    have BK531 := n1_
                    have HB := n2_
                    have HO552 := n3_
                    clear n0_ n1_ n2_ n3_
                    clear ho hb hg hat
                    refine hK.out _ _ ⟨(blk_cell BK531.out 0).trans rfl, (blk_cell BK531.out 1).trans rfl, (blk_cell BK530.out 0).trans rfl, (blk_cell BK530.out 1).trans rfl⟩ (fun hHeld => ?_)
                    clear hK K
                    refine norm_ (a' := ?_) ?_ ?_
                    rotate_left
                    · show Act.put _ (some 64) _ = _
                      simp only [Act.put, List.setIfInBounds_toArray, List.set_cons_zero, List.set_cons_succ, i64_w, i32_w]
                      rfl
                    refine pure_ (i := 14) (N := some 6) (v := ?_) (a' := ?_) #[true, true, true, true, true, true, true, true, true, true, true, true, true, true, true] rfl rfl (any_of HT_.out (by kernel_rfl)) (fun _ _ _ h => h) (Or.inl ⟨by rfl, ?_⟩) ?_ ?_
                    rotate_left
                    · intro w'
                      go_simp
                      with_reducible rfl
                    rotate_left
                    · simp only [Act.put, List.setIfInBounds_toArray, List.set_cons_zero, List.set_cons_succ, i64_w, i32_w]
                      rfl
                    refine done_ (done_of HT_.out (by kernel_rfl)) ?_
                    try go_wp2
                    go_ret2
                    exact ⟨_, by first | rfl | (simp [errW_none, errW_some] <;> rfl) | (simp [*, errW_none, errW_some] <;> rfl), by (with_reducible repeat (first | apply Kd.S_alloc | apply Kd.S_drewN | apply Kd.S_drew)); exact HO552.out, by repeat (first | (with_reducible first | exact HB.out | apply below_alloc | apply pw_below_drewN | apply below_drew1 | refine below_set ?_ GE530.out | refine below_set ?_ GE531.out) | exact HB.out)⟩
                  · rw [if_neg c32] at H
                    exact absurd H (by simp)
                · rw [if_neg c31] at H
                  exact absurd H (by simp)
              · rw [if_neg c30] at H
                exact absurd H (by simp)
            · rw [if_neg c29] at H
              exact absurd H (by simp)
          · replace c28 := Bool.eq_false_iff.mpr c28
            subst c28
            have H1 : (some (x6_1, true)) = some (r1, r2) := by rw [if_neg (show ¬ (false = true) by decide)] at H; exact H
            clear H
            have H := H1
            clear H1
            simp only [Option.some.injEq, Prod.mk.injEq] at H
            obtain ⟨rfl, rfl⟩ := H
            have hnb42 := NB530_531.out
            have hnc42 := NB531_530.out
            have hcz43_0 : wr.cell? ⟨gb530, 0, none⟩ = some (.slice A0_0 l0_0.length c0_0) := (blk_cell BK530.out 0).trans rfl
            have hcz43_1 : wr.cell? ⟨gb530, 1, none⟩ = some (.bool false) := (blk_cell BK530.out 1).trans rfl
            have hfz43_0 := blk_frozen BK530.out 0
            have hfz43_1 := blk_frozen BK530.out 1
            go_wp2
            go_ret2
            exact ⟨_, by first | rfl | (simp [errW_none, errW_some] <;> rfl) | (simp [*, errW_none, errW_some] <;> rfl), by (with_reducible repeat (first | apply Kd.S_alloc | apply Kd.S_drewN | apply Kd.S_drew)); exact HO_6.out, by repeat (first | (with_reducible first | exact HB.out | apply below_alloc | apply pw_below_drewN | apply below_drew1 | refine below_set ?_ GE530.out | refine below_set ?_ GE531.out) | exact HB.out)⟩
  · replace c4 := Bool.eq_false_iff.mpr c4
    subst c4
    have H1 : (some (([] : List (S39)), false)) = some (r1, r2) := by rw [if_neg (show ¬ (false = true) by decide)] at H; exact H
    clear H
    have H := H1
    clear H1
    simp only [Option.some.injEq, Prod.mk.injEq] at H
    obtain ⟨rfl, rfl⟩ := H
    go_enter Tryd.func25, Tryd.ntmps25
    go_wp2_with (first | ((with_reducible refine gate_dst (N := 2) rfl ?_); refine box_event ?hg (N := 2) ?hd (cs := #[.slice A0_0 l0_0.length c0_0, .bool a0_1]) (t := 24) ?hr ?_; (case hd => rfl); (case hg => rfl); (case hr => first | (go_simp; done) | (go_simp; rfl)); intro gb530 hg w44 hbox hb; have n0_ := Aside0.mk (below_step (by repeat (first | (with_reducible first | exact HB.out | apply below_alloc | apply pw_below_drewN | apply below_drew1) | exact HB.out)) hb); have n1_ := Aside0.mk (hbox); have n2_ := Aside0.mk ((by rw [hg]; exact (below_size (by repeat (first | (with_reducible first | exact HB.out | apply below_alloc | apply pw_below_drewN | apply below_drew1) | exact HB.out))) : w.heap.size ≤ gb530)); have n3_ := Aside0.mk ((by rw [hg]; exact (below_size (by repeat (first | (with_reducible first | exact HB.out | apply below_alloc | apply pw_below_drewN | apply below_drew1) | exact HB.out))) : w.heap.size ≤ gb530)); clear HB; have HB := n0_; have BK530 := n1_; have GW530 := n2_; have GE530 := n3_; clear n0_ n1_ n2_ n3_; clear hb hbox hg) | ((with_reducible refine gate_dst (N := 3) rfl ?_); refine box_event ?hg (N := 3) ?hd (cs := #[.slice A1_0 l1_0.length c1_0, .bool a1_1]) (t := 24) ?hr ?_; (case hd => rfl); (case hg => rfl); (case hr => first | (go_simp; done) | (go_simp; rfl)); intro gb531 hg w45 hbox hb; have n0_ := Aside0.mk (blk_below (g := gb530) (o := .cells #[.slice A0_0 l0_0.length c0_0, .bool a0_1] 24 (0, 0)) (by (with_reducible repeat (first | refine blk_drewN ?_ _ | refine blk_drew ?_ | refine blk_alloc ?_ _)); exact BK530.out) hb); have n1_ := Aside0.mk (below_step (by repeat (first | (with_reducible first | exact HB.out | apply below_alloc | apply pw_below_drewN | apply below_drew1 | refine below_set ?_ GE530.out) | exact HB.out)) hb); have n2_ := Aside0.mk (hbox); have n3_ := Aside0.mk ((by rw [hg]; exact (below_size (by repeat (first | (with_reducible first | exact HB.out | apply below_alloc | apply pw_below_drewN | apply below_drew1 | refine below_set ?_ GE530.out) | exact HB.out))) : w.heap.size ≤ gb531)); have n4_ := Aside0.mk ((by rw [hg]; exact (below_size (by repeat (first | (with_reducible first | exact HB.out | apply below_alloc | apply pw_below_drewN | apply below_drew1 | refine below_set ?_ GE530.out) | exact HB.out))) : w.heap.size ≤ gb531)); have n5_ := Aside0.mk ((by rw [hg]; exact Nat.ne_of_lt (blk_lt (g := gb530) (o := .cells #[.slice A0_0 l0_0.length c0_0, .bool a0_1] 24 (0, 0)) (by (with_reducible repeat (first | refine blk_drewN ?_ _ | refine blk_drew ?_ | refine blk_alloc ?_ _)); exact BK530.out)) : gb530 ≠ gb531)); have n6_ := Aside0.mk ((by rw [hg]; exact Nat.ne_of_gt (blk_lt (g := gb530) (o := .cells #[.slice A0_0 l0_0.length c0_0, .bool a0_1] 24 (0, 0)) (by (with_reducible repeat (first | refine blk_drewN ?_ _ | refine blk_drew ?_ | refine blk_alloc ?_ _)); exact BK530.out)) : gb531 ≠ gb530)); clear BK530; clear HB; have BK530 := n0_; have HB := n1_; have BK531 := n2_; have GW531 := n3_; have GE531 := n4_; have NB530_531 := n5_; have NB531_530 := n6_; clear n0_ n1_ n2_ n3_ n4_ n5_ n6_; clear hb hbox hg; have hnb46 := NB531_530.out; have hnc46 := NB530_531.out; have hcz47_0 : w45.cell? ⟨gb531, 0, none⟩ = some (.slice A1_0 l1_0.length c1_0) := (blk_cell BK531.out 0).trans rfl; have hcz47_1 : w45.cell? ⟨gb531, 1, none⟩ = some (.bool a1_1) := (blk_cell BK531.out 1).trans rfl; have hfz47_0 := blk_frozen BK531.out 0; have hfz47_1 := blk_frozen BK531.out 1; have hcz48_0 : w45.cell? ⟨gb530, 0, none⟩ = some (.slice A0_0 l0_0.length c0_0) := (blk_cell BK530.out 0).trans rfl; have hcz48_1 : w45.cell? ⟨gb530, 1, none⟩ = some (.bool a0_1) := (blk_cell BK530.out 1).trans rfl; have hfz48_0 := blk_frozen BK530.out 0; have hfz48_1 := blk_frozen BK530.out 1) | ((with_reducible refine gate_callee (f := 18) rfl ?_); refine goesL_ (some 14) rfl rfl Tryd.func18 (by kernel_rfl) rfl #[.agg #[.slice A1_0 l1_0.length c1_0, .bool a1_1], .agg #[.slice A0_0 l0_0.length c0_0, .bool a0_1]] rfl (by (try simp only [List.map_toArray, List.map_cons, List.map_nil]); first | done | rfl | (simp only [List.length_drop, List.length_take]; rfl)) ?_; (with_reducible refine (pattern_Within.calls k _ _ l1_0 a1_1 _ _ l0_0 a0_1 false _ ?side1 ?side2 ?side3 ?side4 A3.out).mono ?_); (case side1 => repeat (first | exact (Kd.C_below HR1_0.out HB.out) | (with_reducible refine Kd.C_alloc ?_ _) | (with_reducible refine Kd.C_drewN ?_ _) | (with_reducible refine Kd.C_drew ?_))); (case side2 => exact HC1_0.out); (case side3 => repeat (first | exact (Kd.C_below HR0_0.out HB.out) | (with_reducible refine Kd.C_alloc ?_ _) | (with_reducible refine Kd.C_drewN ?_ _) | (with_reducible refine Kd.C_drew ?_))); (case side4 => exact HC0_0.out); rintro e w49 ⟨rfl, hb⟩; refine ⟨_, rfl, ?_⟩; have n0_ := Aside0.mk (blk_below (g := gb530) (o := .cells #[.slice A0_0 l0_0.length c0_0, .bool a0_1] 24 (0, 0)) (by (with_reducible repeat (first | refine blk_drewN ?_ _ | refine blk_drew ?_ | refine blk_alloc ?_ _)); exact BK530.out) hb); have n1_ := Aside0.mk (blk_below (g := gb531) (o := .cells #[.slice A1_0 l1_0.length c1_0, .bool a1_1] 24 (0, 0)) (by (with_reducible repeat (first | refine blk_drewN ?_ _ | refine blk_drew ?_ | refine blk_alloc ?_ _)); exact BK531.out) hb); have n2_ := Aside0.mk (below_step (by repeat (first | (with_reducible first | exact HB.out | apply below_alloc | apply pw_below_drewN | apply below_drew1 | refine below_set ?_ GE530.out | refine below_set ?_ GE531.out) | exact HB.out)) hb); clear BK530; clear BK531; clear HB; have BK530 := n0_; have BK531 := n1_; have HB := n2_; clear n0_ n1_ n2_; (try clear hb); (try clear hb2); (try clear hk); (try clear hi)))
    go_ret2
    exact ⟨_, by first | rfl | (simp [errW_none, errW_some] <;> rfl) | (simp [*, errW_none, errW_some] <;> rfl), by first | exact Kd.S_nil _ _ _ _ _ | exact Kd.N_nil _ _ _ _ _ | exact Kd.V_nil _ _ _ _ _ | exact Kd.Q_nil _ _ _ _ _ | exact Kd.R_nil _ _ _ _ _, by repeat (first | (with_reducible first | exact HB.out | apply below_alloc | apply pw_below_drewN | apply below_drew1 | refine below_set ?_ GE530.out | refine below_set ?_ GE531.out) | exact HB.out)⟩

/-! ### stockyardref03_Bind: function 26 -/
def stockyardref03_Bind.l0 : Nat → List (S39) → List ByteArray → Int → Int → List ByteArray → Bool → List ByteArray → Bool → Option ((List (S39)) × Bool)
  | 0, _, _, _, _, _, _, _, _ => none
  | k + 1, x6, x17, x18, x19, x554000, x554001, x555000, x555001 => if x19 < x18 then (if 0 ≤ x19 then (if x19 < (x17.length : Int) then ((stockyardref03_Star.f k (rdOf ByteArray.empty x17 x19)).bind fun bt557 => (if bt557.2 = true then (if x19 < (x555000.length : Int) then (if 0 ≤ (wrap64 (((rdOf ByteArray.empty x555000 x19).size : Int) - (bt557.1.size : Int))) then (if (wrap64 (((rdOf ByteArray.empty x555000 x19).size : Int) - (bt557.1.size : Int))) ≤ ((rdOf ByteArray.empty x555000 x19).size : Int) then (if x6.length < 4398046511104 then (stockyardref03_Bind.l0 k (x6 ++ [(⟨(([(rdOf ByteArray.empty x555000 x19).extract 0 ((wrap64 (((rdOf ByteArray.empty x555000 x19).size : Int) - (bt557.1.size : Int))) : Int).toNat] : List ByteArray)), false⟩ : S39)]) x17 x18 (wrap64 (x19 + 1)) x554000 x554001 x555000 x555001) else (none)) else (none)) else (none)) else (none)) else (stockyardref03_Bind.l0 k x6 x17 x18 (wrap64 (x19 + 1)) x554000 x554001 x555000 x555001))) else (none)) else (none)) else (if x554001 = true then (if 0 ≤ (x554000.length : Int) then (if (x554000.length : Int) ≤ (x555000.length : Int) then (if ([] : List ByteArray).length + (x555000.drop ((x554000.length : Int) : Int).toNat).length < 8796093022208 then (if x6.length < 4398046511104 then (some ((x6 ++ [(⟨(([] : List ByteArray) ++ (x555000.drop ((x554000.length : Int) : Int).toNat)), x555001⟩ : S39)]), true)) else (none)) else (none)) else (none)) else (none)) else (some (x6, true)))
def stockyardref03_Bind.f (k : Nat) (l0_0 : List ByteArray) (a0_1 : Bool) (l1_0 : List ByteArray) (a1_1 : Bool) : Option ((List (S39)) × Bool) := (stockyardref03_Within.f k l1_0 a1_1 l0_0 a0_1).bind fun t555 => (if t555 = true then (stockyardref03_Bind.l0 k ([] : List (S39)) l0_0 (l0_0.length : Int) 0 l0_0 a0_1 l1_0 a1_1) else (some (([] : List (S39)), false)))
theorem stockyardref03_Bind.mono_l : ∀ k, (∀ y0 y1 y2 y3 y4 y5 y6 y7, LeO (stockyardref03_Bind.l0 k y0 y1 y2 y3 y4 y5 y6 y7) (stockyardref03_Bind.l0 (k + 1) y0 y1 y2 y3 y4 y5 y6 y7))
  | 0 => fun _ _ _ _ _ _ _ _ r h => by simp [stockyardref03_Bind.l0] at h
  | k + 1 => by
    have ih0 := stockyardref03_Bind.mono_l k
    · intro y0 y1 y2 y3 y4 y5 y6 y7
      unfold stockyardref03_Bind.l0
      repeat' first
      | (with_reducible exact ih0 _ _ _ _ _ _ _ _)
      | (with_reducible exact stockyardref03_Star.mono _ _)
      | (with_reducible exact stockyardref03_Within.mono _ _ _ _ _)
      | (with_reducible exact LeO.refl _)
      | (with_reducible exact LeO.none _)
      | (with_reducible refine LeO.ite ?_ ?_)
      | (with_reducible refine LeO.bind ?_ (fun _ => ?_))
      | exact ih0 _ _ _ _ _ _ _ _
      | exact stockyardref03_Star.mono _ _
      | exact stockyardref03_Within.mono _ _ _ _ _
      | exact LeO.none _
      | refine LeO.ite ?_ ?_
      | refine LeO.bind ?_ (fun _ => ?_)
theorem stockyardref03_Bind.mono : ∀ a0 a1 a2 a3 k, LeO (stockyardref03_Bind.f k a0 a1 a2 a3) (stockyardref03_Bind.f (k + 1) a0 a1 a2 a3) := by
  intro a0 a1 a2 a3 k
  have ih0 := stockyardref03_Bind.mono_l k
  unfold stockyardref03_Bind.f
  repeat' first
      | (with_reducible exact ih0 _ _ _ _ _ _ _ _)
      | (with_reducible exact stockyardref03_Star.mono _ _)
      | (with_reducible exact stockyardref03_Within.mono _ _ _ _ _)
      | (with_reducible exact LeO.refl _)
      | (with_reducible exact LeO.none _)
      | (with_reducible refine LeO.ite ?_ ?_)
      | (with_reducible refine LeO.bind ?_ (fun _ => ?_))
      | exact ih0 _ _ _ _ _ _ _ _
      | exact stockyardref03_Star.mono _ _
      | exact stockyardref03_Within.mono _ _ _ _ _
      | exact LeO.none _
      | refine LeO.ite ?_ ?_
      | refine LeO.bind ?_ (fun _ => ?_)
def stockyardref03_Bind.T13 : Bool × List (List Nat × List Nat) := (true, [([], []), ([], []), ([1], [1]), ([], []), ([3], [3]), ([4], [4]), ([2, 5], [2, 5]), ([6], [6]), ([], []), ([8], [8]), ([7, 9], [7, 9]), ([10], [10]), ([0, 11, 7], [0, 11]), ([12, 12, 0, 1, 2, 3, 4, 5, 6, 7, 8, 9, 10, 11, 12], [0, 12])])
def stockyardref03_Bind.B13 : List Nat := [0, 0, 2, 0, 8, 24, 62, 126, 0, 256, 1022, 2046, 4095, 8191]
theorem stockyardref03_Bind.tab13 : rtab .any (opsOf Tryd.f26 13) = stockyardref03_Bind.T13 := by kernel_rfl
theorem stockyardref03_Bind.bits13 : waitsOk stockyardref03_Bind.T13.2 stockyardref03_Bind.B13 = true := by kernel_rfl
set_option maxHeartbeats 8000000 in
set_option maxRecDepth 100000 in
theorem stockyardref03_Bind.calls (k : Nat) (A0_0 : Option Addr) (c0_0 : Nat) (l0_0 : List ByteArray) (a0_1 : Bool) (A1_0 : Option Addr) (c1_0 : Nat) (l1_0 : List ByteArray) (a1_1 : Bool) (r1 : List (S39)) (r2 : Bool) (w : World) (hr0_0 : Kd.C Kd.string w A0_0 l0_0.length l0_0) (hc0_0 : l0_0.length ≤ c0_0) (hr1_0 : Kd.C Kd.string w A1_0 l1_0.length l1_0) (hc1_0 : l1_0.length ≤ c1_0) (h : stockyardref03_Bind.f k l0_0 a0_1 l1_0 a1_1 = some (r1, r2)) :
    Calls Tryd.prog 26 #[.agg #[.slice A0_0 l0_0.length c0_0, .bool a0_1], .agg #[.slice A1_0 l1_0.length c1_0, .bool a1_1]] w fun e w' => ∃ v0_ : Value, e = .returned (.tuple #[v0_, .bool r2]) ∧ Kd.S k39 39 w' w.heap.size (fun _ => True) v0_ r1 ∧ Below w.heap.size w w' := by
  have hu24 := Tryd.underlying24
  have hu39 := Tryd.underlying39
  have HR0_0 := Aside0.mk hr0_0
  have HC0_0 := Aside0.mk hc0_0
  clear hr0_0 hc0_0
  have HR1_0 := Aside0.mk hr1_0
  have HC1_0 := Aside0.mk hc1_0
  clear hr1_0 hc1_0
  have HB := Aside0.mk (Below.refl w.heap.size w)
  have H : ((stockyardref03_Within.f k l1_0 a1_1 l0_0 a0_1).bind fun t555 => (if t555 = true then (stockyardref03_Bind.l0 k ([] : List (S39)) l0_0 (l0_0.length : Int) 0 l0_0 a0_1 l1_0 a1_1) else (some (([] : List (S39)), false)))) = some (r1, r2) := h
  clear h
  replace H := Option.bind_eq_some_iff.mp H
  obtain ⟨t555, A30, H⟩ := H
  replace H : (if t555 = true then (stockyardref03_Bind.l0 k ([] : List (S39)) l0_0 (l0_0.length : Int) 0 l0_0 a0_1 l1_0 a1_1) else (some (([] : List (S39)), false))) = some (r1, r2) := H
  have A3 := Aside0.mk A30
  clear A30
  by_cases c4 : t555 = true
  · subst c4
    have H1 : (stockyardref03_Bind.l0 k ([] : List (S39)) l0_0 (l0_0.length : Int) 0 l0_0 a0_1 l1_0 a1_1) = some (r1, r2) := by rw [if_pos rfl] at H; exact H
    clear H
    have H := H1
    clear H1
    have H' := Aside0.mk H
    clear H
    go_enter Tryd.func26, Tryd.ntmps26
    go_wp2_with (first | ((with_reducible refine gate_dst (N := 2) rfl ?_); refine box_event ?hg (N := 2) ?hd (cs := #[.slice A0_0 l0_0.length c0_0, .bool a0_1]) (t := 24) ?hr ?_; (case hd => rfl); (case hg => rfl); (case hr => first | (go_simp; done) | (go_simp; rfl)); intro gb553 hg w5 hbox hb; have n0_ := Aside0.mk (below_step (by repeat (first | (with_reducible first | exact HB.out | apply below_alloc | apply pw_below_drewN | apply below_drew1) | exact HB.out)) hb); have n1_ := Aside0.mk (hbox); have n2_ := Aside0.mk ((by rw [hg]; exact (below_size (by repeat (first | (with_reducible first | exact HB.out | apply below_alloc | apply pw_below_drewN | apply below_drew1) | exact HB.out))) : w.heap.size ≤ gb553)); have n3_ := Aside0.mk ((by rw [hg]; exact (below_size (by repeat (first | (with_reducible first | exact HB.out | apply below_alloc | apply pw_below_drewN | apply below_drew1) | exact HB.out))) : w.heap.size ≤ gb553)); clear HB; have HB := n0_; have BK553 := n1_; have GW553 := n2_; have GE553 := n3_; clear n0_ n1_ n2_ n3_; clear hb hbox hg) | ((with_reducible refine gate_dst (N := 3) rfl ?_); refine box_event ?hg (N := 3) ?hd (cs := #[.slice A1_0 l1_0.length c1_0, .bool a1_1]) (t := 24) ?hr ?_; (case hd => rfl); (case hg => rfl); (case hr => first | (go_simp; done) | (go_simp; rfl)); intro gb554 hg w6 hbox hb; have n0_ := Aside0.mk (blk_below (g := gb553) (o := .cells #[.slice A0_0 l0_0.length c0_0, .bool a0_1] 24 (0, 0)) (by (with_reducible repeat (first | refine blk_drewN ?_ _ | refine blk_drew ?_ | refine blk_alloc ?_ _)); exact BK553.out) hb); have n1_ := Aside0.mk (below_step (by repeat (first | (with_reducible first | exact HB.out | apply below_alloc | apply pw_below_drewN | apply below_drew1 | refine below_set ?_ GE553.out) | exact HB.out)) hb); have n2_ := Aside0.mk (hbox); have n3_ := Aside0.mk ((by rw [hg]; exact (below_size (by repeat (first | (with_reducible first | exact HB.out | apply below_alloc | apply pw_below_drewN | apply below_drew1 | refine below_set ?_ GE553.out) | exact HB.out))) : w.heap.size ≤ gb554)); have n4_ := Aside0.mk ((by rw [hg]; exact (below_size (by repeat (first | (with_reducible first | exact HB.out | apply below_alloc | apply pw_below_drewN | apply below_drew1 | refine below_set ?_ GE553.out) | exact HB.out))) : w.heap.size ≤ gb554)); have n5_ := Aside0.mk ((by rw [hg]; exact Nat.ne_of_lt (blk_lt (g := gb553) (o := .cells #[.slice A0_0 l0_0.length c0_0, .bool a0_1] 24 (0, 0)) (by (with_reducible repeat (first | refine blk_drewN ?_ _ | refine blk_drew ?_ | refine blk_alloc ?_ _)); exact BK553.out)) : gb553 ≠ gb554)); have n6_ := Aside0.mk ((by rw [hg]; exact Nat.ne_of_gt (blk_lt (g := gb553) (o := .cells #[.slice A0_0 l0_0.length c0_0, .bool a0_1] 24 (0, 0)) (by (with_reducible repeat (first | refine blk_drewN ?_ _ | refine blk_drew ?_ | refine blk_alloc ?_ _)); exact BK553.out)) : gb554 ≠ gb553)); clear BK553; clear HB; have BK553 := n0_; have HB := n1_; have BK554 := n2_; have GW554 := n3_; have GE554 := n4_; have NB553_554 := n5_; have NB554_553 := n6_; clear n0_ n1_ n2_ n3_ n4_ n5_ n6_; clear hb hbox hg; have hnb7 := NB554_553.out; have hnc7 := NB553_554.out; have hcz8_0 : w6.cell? ⟨gb554, 0, none⟩ = some (.slice A1_0 l1_0.length c1_0) := (blk_cell BK554.out 0).trans rfl; have hcz8_1 : w6.cell? ⟨gb554, 1, none⟩ = some (.bool a1_1) := (blk_cell BK554.out 1).trans rfl; have hfz8_0 := blk_frozen BK554.out 0; have hfz8_1 := blk_frozen BK554.out 1; have hcz9_0 : w6.cell? ⟨gb553, 0, none⟩ = some (.slice A0_0 l0_0.length c0_0) := (blk_cell BK553.out 0).trans rfl; have hcz9_1 : w6.cell? ⟨gb553, 1, none⟩ = some (.bool a0_1) := (blk_cell BK553.out 1).trans rfl; have hfz9_0 := blk_frozen BK553.out 0; have hfz9_1 := blk_frozen BK553.out 1) | ((with_reducible refine gate_callee (f := 23) rfl ?_); refine goesL_ (some 14) rfl rfl Tryd.func23 (by kernel_rfl) rfl #[.agg #[.slice A1_0 l1_0.length c1_0, .bool a1_1], .agg #[.slice A0_0 l0_0.length c0_0, .bool a0_1]] rfl (by (try simp only [List.map_toArray, List.map_cons, List.map_nil]); first | done | rfl | (simp only [List.length_drop, List.length_take]; rfl)) ?_; (with_reducible refine (stockyardref03_Within.calls k _ _ l1_0 a1_1 _ _ l0_0 a0_1 true _ ?side1 ?side2 ?side3 ?side4 A3.out).mono ?_); (case side1 => repeat (first | exact (Kd.C_below HR1_0.out HB.out) | (with_reducible refine Kd.C_alloc ?_ _) | (with_reducible refine Kd.C_drewN ?_ _) | (with_reducible refine Kd.C_drew ?_))); (case side2 => exact HC1_0.out); (case side3 => repeat (first | exact (Kd.C_below HR0_0.out HB.out) | (with_reducible refine Kd.C_alloc ?_ _) | (with_reducible refine Kd.C_drewN ?_ _) | (with_reducible refine Kd.C_drew ?_))); (case side4 => exact HC0_0.out); rintro e w10 ⟨rfl, hb⟩; refine ⟨_, rfl, ?_⟩; have n0_ := Aside0.mk (blk_below (g := gb553) (o := .cells #[.slice A0_0 l0_0.length c0_0, .bool a0_1] 24 (0, 0)) (by (with_reducible repeat (first | refine blk_drewN ?_ _ | refine blk_drew ?_ | refine blk_alloc ?_ _)); exact BK553.out) hb); have n1_ := Aside0.mk (blk_below (g := gb554) (o := .cells #[.slice A1_0 l1_0.length c1_0, .bool a1_1] 24 (0, 0)) (by (with_reducible repeat (first | refine blk_drewN ?_ _ | refine blk_drew ?_ | refine blk_alloc ?_ _)); exact BK554.out) hb); have n2_ := Aside0.mk (below_step (by repeat (first | (with_reducible first | exact HB.out | apply below_alloc | apply pw_below_drewN | apply below_drew1 | refine below_set ?_ GE553.out | refine below_set ?_ GE554.out) | exact HB.out)) hb); clear BK553; clear BK554; clear HB; have BK553 := n0_; have BK554 := n1_; have HB := n2_; clear n0_ n1_ n2_; (try clear hb); (try clear hb2); (try clear hk); (try clear hi); have hcz11_0 : w10.cell? ⟨gb553, 0, none⟩ = some (.slice A0_0 l0_0.length c0_0) := (blk_cell BK553.out 0).trans rfl; have hcz11_1 : w10.cell? ⟨gb553, 1, none⟩ = some (.bool a0_1) := (blk_cell BK553.out 1).trans rfl; have hfz11_0 := blk_frozen BK553.out 0; have hfz11_1 := blk_frozen BK553.out 1))
    go_loopg [6, 19] k (fun kq v6 v19 w' => ∃ (x6_1 : List (S39)) (x19_1 : Int), v19 = .int .i64 x19_1 ∧ Aside0 (stockyardref03_Bind.l0 kq x6_1 l0_0 (l0_0.length : Int) x19_1 l0_0 a0_1 l1_0 a1_1 = some (r1, r2)) ∧ Aside0 (kq ≤ k) ∧ Aside0 (Kd.S k39 39 w' w.heap.size (fun _ => True) v6 x6_1) ∧ Aside0 (w'.heap[gb553]? = some (.cells #[(.slice A0_0 l0_0.length c0_0), .bool a0_1] 24 (0, 0))) ∧ Aside0 (w'.heap[gb554]? = some (.cells #[(.slice A1_0 l1_0.length c1_0), .bool a1_1] 24 (0, 0))) ∧ Aside0 (Below w.heap.size w w'))
    case atStart => exact ⟨(([] : List (S39))), (0), (by first | rfl | (simp; done) | (simp [*]; done)), H', ⟨Nat.le_refl _⟩, ⟨by first | exact Kd.S_nil _ _ _ _ _ | exact Kd.N_nil _ _ _ _ _ | exact Kd.V_nil _ _ _ _ _ | exact Kd.Q_nil _ _ _ _ _ | exact Kd.R_nil _ _ _ _ _⟩, ⟨by (with_reducible repeat (first | refine blk_drewN ?_ _ | refine blk_drew ?_ | refine blk_alloc ?_ _)); exact BK553.out⟩, ⟨by (with_reducible repeat (first | refine blk_drewN ?_ _ | refine blk_drew ?_ | refine blk_alloc ?_ _)); exact BK554.out⟩, ⟨by repeat (first | (with_reducible first | exact HB.out | apply below_alloc | apply pw_below_drewN | apply below_drew1 | refine below_set ?_ GE553.out | refine below_set ?_ GE554.out) | exact HB.out)⟩⟩
    case round =>
      clear H'
      try clear c1
      try clear c2
      try clear p2
      try clear c4
      try clear c7
      try clear hcz11_0
      try clear hcz11_1
      try clear hcz8_0
      try clear hcz8_1
      try clear hcz9_0
      try clear hcz9_1
      try clear hfz11_0
      try clear hfz11_1
      try clear hfz8_0
      try clear hfz8_1
      try clear hfz9_0
      try clear hfz9_1
      obtain ⟨x6_1, x19_1, rfl, HA, HK1, HO_6, BK553, BK554, HB⟩ := hrel
      cases gk with
      | zero => exact absurd HA.out (by simp [stockyardref03_Bind.l0])
      | succ k1 =>
        have H := HA.out
        clear HA
        simp only [stockyardref03_Bind.l0] at H
        by_cases c12 : x19_1 < (l0_0.length : Int)
        · rw [if_pos c12] at H
          have c12b0 : decide (x19_1 < (l0_0.length : Int)) = true := decide_eq_true c12
          clear c12
          by_cases c13 : 0 ≤ x19_1
          · rw [if_pos c13] at H
            have c13b0 : decide (0 ≤ x19_1) = true := decide_eq_true c13
            clear c13
            by_cases c14 : x19_1 < (l0_0.length : Int)
            · rw [if_pos c14] at H
              have c14b0 : decide (x19_1 < (l0_0.length : Int)) = true := decide_eq_true c14
              clear c14
              replace H := Option.bind_eq_some_iff.mp H
              obtain ⟨⟨t557, t558⟩, A150, H⟩ := H
              replace H : (if t558 = true then (if x19_1 < (l1_0.length : Int) then (if 0 ≤ (wrap64 (((rdOf ByteArray.empty l1_0 x19_1).size : Int) - (t557.size : Int))) then (if (wrap64 (((rdOf ByteArray.empty l1_0 x19_1).size : Int) - (t557.size : Int))) ≤ ((rdOf ByteArray.empty l1_0 x19_1).size : Int) then (if x6_1.length < 4398046511104 then (stockyardref03_Bind.l0 k1 (x6_1 ++ [(⟨(([(rdOf ByteArray.empty l1_0 x19_1).extract 0 ((wrap64 (((rdOf ByteArray.empty l1_0 x19_1).size : Int) - (t557.size : Int))) : Int).toNat] : List ByteArray)), false⟩ : S39)]) l0_0 (l0_0.length : Int) (wrap64 (x19_1 + 1)) l0_0 a0_1 l1_0 a1_1) else (none)) else (none)) else (none)) else (none)) else (stockyardref03_Bind.l0 k1 x6_1 l0_0 (l0_0.length : Int) (wrap64 (x19_1 + 1)) l0_0 a0_1 l1_0 a1_1)) = some (r1, r2) := H
              have A15 := Aside0.mk A150
              clear A150
              by_cases c16 : t558 = true
              · subst c16
                have H1 : (if x19_1 < (l1_0.length : Int) then (if 0 ≤ (wrap64 (((rdOf ByteArray.empty l1_0 x19_1).size : Int) - (t557.size : Int))) then (if (wrap64 (((rdOf ByteArray.empty l1_0 x19_1).size : Int) - (t557.size : Int))) ≤ ((rdOf ByteArray.empty l1_0 x19_1).size : Int) then (if x6_1.length < 4398046511104 then (stockyardref03_Bind.l0 k1 (x6_1 ++ [(⟨(([(rdOf ByteArray.empty l1_0 x19_1).extract 0 ((wrap64 (((rdOf ByteArray.empty l1_0 x19_1).size : Int) - (t557.size : Int))) : Int).toNat] : List ByteArray)), false⟩ : S39)]) l0_0 (l0_0.length : Int) (wrap64 (x19_1 + 1)) l0_0 a0_1 l1_0 a1_1) else (none)) else (none)) else (none)) else (none)) = some (r1, r2) := by rw [if_pos rfl] at H; exact H
                clear H
                have H := H1
                clear H1
                by_cases c17 : x19_1 < (l1_0.length : Int)
                · rw [if_pos c17] at H
                  have c17b0 : decide (x19_1 < (l1_0.length : Int)) = true := decide_eq_true c17
                  clear c17
                  obtain ⟨ji18, hji18⟩ : ∃ j_ : Int, (wrap64 (((rdOf ByteArray.empty l1_0 x19_1).size : Int) - (t557.size : Int))) = j_ := ⟨_, rfl⟩
                  replace H : (if 0 ≤ (ji18) then (if (ji18) ≤ ((rdOf ByteArray.empty l1_0 x19_1).size : Int) then (if x6_1.length < 4398046511104 then (stockyardref03_Bind.l0 k1 (x6_1 ++ [(⟨(([(rdOf ByteArray.empty l1_0 x19_1).extract 0 ((ji18) : Int).toNat] : List ByteArray)), false⟩ : S39)]) l0_0 (l0_0.length : Int) (wrap64 (x19_1 + 1)) l0_0 a0_1 l1_0 a1_1) else (none)) else (none)) else (none)) = some (r1, r2) := by first | (rw [hji18] at H; exact H) | (simp only [hji18] at H ⊢; exact H)
                  (try rw [hji18] at A15)
                  have hji18w : (IntKind.i64.wrap (((rdOf ByteArray.empty l1_0 x19_1).size : Int) - (t557.size : Int))) = ji18 := (i64_w _).trans hji18
                  by_cases c19 : 0 ≤ (ji18)
                  · rw [if_pos c19] at H
                    have c19b0 := eq_true c19
                    have c19b1 : decide (0 ≤ (ji18)) = true := decide_eq_true c19
                    clear c19
                    by_cases c20 : (ji18) ≤ ((rdOf ByteArray.empty l1_0 x19_1).size : Int)
                    · rw [if_pos c20] at H
                      have c20b0 := eq_true c20
                      have c20b1 : decide ((ji18) ≤ ((rdOf ByteArray.empty l1_0 x19_1).size : Int)) = true := decide_eq_true c20
                      clear c20
                      obtain ⟨y560, hy560⟩ : ∃ y_ : List ByteArray, y_ = (([(rdOf ByteArray.empty l1_0 x19_1).extract 0 ((ji18) : Int).toNat] : List ByteArray)) := ⟨_, rfl⟩
                      replace H : (if x6_1.length < 4398046511104 then (stockyardref03_Bind.l0 k1 (x6_1 ++ [(⟨y560, false⟩ : S39)]) l0_0 (l0_0.length : Int) (wrap64 (x19_1 + 1)) l0_0 a0_1 l1_0 a1_1) else (none)) = some (r1, r2) := by first | (rw [hy560]; with_reducible exact H) | (have H2_ := (Option.bind_some _ _).symm.trans H; rw [hy560]; with_reducible exact H2_) | (have H2_ := (Option.bind_some _ _).symm.trans H; with_reducible exact H2_) | with_reducible exact H | (rw [hy560]; exact H) | exact H
                      have Ny560 := Aside0.mk hy560
                      clear hy560
                      by_cases c21 : x6_1.length < 4398046511104
                      · rw [if_pos c21] at H
                        have LMc21 := Aside0.mk c21
                        clear c21
                        obtain ⟨y563, hy563⟩ : ∃ y_ : List (S39), y_ = (x6_1 ++ [(⟨y560, false⟩ : S39)]) := ⟨_, rfl⟩
                        replace H : (stockyardref03_Bind.l0 k1 y563 l0_0 (l0_0.length : Int) (wrap64 (x19_1 + 1)) l0_0 a0_1 l1_0 a1_1) = some (r1, r2) := by first | (rw [hy563]; with_reducible exact H) | (have H2_ := (Option.bind_some _ _).symm.trans H; rw [hy563]; with_reducible exact H2_) | (have H2_ := (Option.bind_some _ _).symm.trans H; with_reducible exact H2_) | with_reducible exact H | (rw [hy563]; exact H) | exact H
                        have Ny563 := Aside0.mk hy563
                        clear hy563
                        have H' := Aside0.mk H
                        clear H
                        have p556 : 0 ≤ (x19_1 : Int) := of_decide_eq_true (by first | (with_reducible assumption) | assumption)
                        have q556 : x19_1 < (l0_0.length : Int) := of_decide_eq_true (by first | (with_reducible assumption) | assumption)
                        obtain ⟨ad556, e556, hx556_0⟩ := Kd.at_string HR0_0.out x19_1 p556 q556
                        cases e556
                        replace hx556_0 := (HB.out.cell (World.block_lt_of_cell? w _ hx556_0)).trans hx556_0
                        replace p556 := eq_true p556
                        replace q556 := eq_true q556
                        go_wp2_with (first | ((with_reducible refine gate_callee (f := 39) rfl ?_); refine goesL_ (some 26) rfl rfl Tryd.func39 (by kernel_rfl) rfl #[.string (rdOf ByteArray.empty l0_0 x19_1)] rfl (by (try simp only [List.map_toArray, List.map_cons, List.map_nil]); first | done | rfl | (simp only [List.length_drop, List.length_take]; rfl)) ?_; (with_reducible refine (stockyardref03_Star.calls k1 (rdOf ByteArray.empty l0_0 x19_1) t557 true _ A15.out).mono ?_); rintro e w' ⟨rfl, ⟨nd, rfl⟩⟩; refine ⟨_, rfl, ?_⟩; have hnb22 := NB554_553.out; have hnc22 := NB553_554.out; have hcz23_0 : wr.cell? ⟨gb554, 0, none⟩ = some (.slice A1_0 l1_0.length c1_0) := (blk_cell BK554.out 0).trans rfl; have hcz23_1 : wr.cell? ⟨gb554, 1, none⟩ = some (.bool a1_1) := (blk_cell BK554.out 1).trans rfl; have hfz23_0 := blk_frozen BK554.out 0; have hfz23_1 := blk_frozen BK554.out 1; have p559 : 0 ≤ (x19_1 : Int) := of_decide_eq_true (by first | (with_reducible assumption) | assumption); have q559 : x19_1 < (l1_0.length : Int) := of_decide_eq_true (by first | (with_reducible assumption) | assumption); obtain ⟨ad559, e559, hx559_0⟩ := Kd.at_string HR1_0.out x19_1 p559 q559; cases e559; replace hx559_0 := (HB.out.cell (World.block_lt_of_cell? w _ hx559_0)).trans hx559_0; replace p559 := eq_true p559; replace q559 := eq_true q559) | ((with_reducible refine gate_dst (N := 44) rfl ?_); refine Kd.R_lit Kd.string _ 9 ?hg (N := 44) ?hd (xs := ([(rdOf ByteArray.empty l1_0 x19_1).extract 0 ((ji18) : Int).toNat] : List ByteArray)) (inner := [.string ((rdOf ByteArray.empty l1_0 x19_1).extract 0 ((ji18) : Int).toNat)]) (ok := fun _ => True) (okp := fun _ => True) ?hr ?hp (fun _ hk => hk) trivial (Below.refl _ _) (Nat.le_refl _) (by simp) ?_; (case hd => rfl); (case hg => rfl); (case hr => first | (go_simp; done) | (go_simp; rfl)); (case hp => exact (Reps.one (show Kd.M Kd.string _ _ _ ((rdOf ByteArray.empty l1_0 x19_1).extract 0 ((ji18) : Int).toNat) [.string ((rdOf ByteArray.empty l1_0 x19_1).extract 0 ((ji18) : Int).toNat)] from rfl) (Reps.none _ _))); intro v561 w24 ho25 hb hg_ hnew_; clear hg_ hnew_; (first | rw [← Ny560.out] at ho25 | (simp only [Int.reduceToNat] at ho25; rw [← Ny560.out] at ho25)); have n0_ := Aside0.mk (Kd.S_elder' (by (with_reducible repeat (first | apply Kd.S_alloc | apply Kd.S_drewN | apply Kd.S_drew)); exact HO_6.out) (Kd.R_base ho25) hb); have n1_ := Aside0.mk (Kd.R_lower ho25 (below_size (by repeat (first | (with_reducible first | exact HB.out | apply below_alloc | apply pw_below_drewN | apply below_drew1 | refine below_set ?_ GE553.out | refine below_set ?_ GE554.out) | exact HB.out)))); have n2_ := Aside0.mk (blk_below (g := gb553) (o := .cells #[.slice (some ad556) l0_0.length c0_0, .bool a0_1] 24 (0, 0)) (by (with_reducible repeat (first | refine blk_drewN ?_ _ | refine blk_drew ?_ | refine blk_alloc ?_ _)); exact BK553.out) hb); have n3_ := Aside0.mk (blk_below (g := gb554) (o := .cells #[.slice (some ad559) l1_0.length c1_0, .bool a1_1] 24 (0, 0)) (by (with_reducible repeat (first | refine blk_drewN ?_ _ | refine blk_drew ?_ | refine blk_alloc ?_ _)); exact BK554.out) hb); have n4_ := Aside0.mk (below_step (by repeat (first | (with_reducible first | exact HB.out | apply below_alloc | apply pw_below_drewN | apply below_drew1 | refine below_set ?_ GE553.out | refine below_set ?_ GE554.out) | exact HB.out)) hb); clear HO_6; clear BK553; clear BK554; clear HB; have HO_6 := n0_; have HO562 := n1_; have BK553 := n2_; have BK554 := n3_; have HB := n4_; clear n0_ n1_ n2_ n3_ n4_; clear hb ho25; obtain ⟨Ao26, co26, eo26⟩ := Kd.R_slice HO562.out; subst eo26) | ((with_reducible refine gate_builtin (b := .append) (xs := #[.tmp 36, .tmp 46]) rfl ?_); at_builtin; refine Kd.S_append k39 (w0 := w) w.heap.size rfl (.tmp 36) (.tmp 46) 38 39 (.agg #[(.slice none 0 0), (.bool false)]) 32 rfl Tryd.underlying38 info39 rfl (by decide) (by omega) u6 x6_1 (⟨y560, false⟩ : S39) [.slice Ao26 y560.length co26, .bool false] (fun _ => True) (fun k_ => some k_ = (.slice Ao26 y560.length co26 : Value).ownBlock) rfl rfl ?aP (fun k_ hk_ => ((Kd.R_mono (ok' := fun k_ => ((fun _ => True)) k_ ∧ some k_ ≠ (u6 : Value).ownBlock) (Kd.R_apart' (HO562.out) (Kd.S_typed HO_6.out) (by decide)) (fun k_ hk => ⟨trivial, hk.2⟩))).1 k_ hk_.symm) ?aF ?aO ?aB ?aS ?aL ?_; (case aP => exact k39_mkM _ _ _ (⟨y560, false⟩ : S39) (Kd.R_mono (Kd.R_tight rfl (Kd.R_mono (ok' := fun k_ => ((fun _ => True)) k_ ∧ some k_ ≠ (u6 : Value).ownBlock) (Kd.R_apart' (HO562.out) (Kd.S_typed HO_6.out) (by decide)) (fun k_ hk => ⟨trivial, hk.2⟩))) (fun _ h_ => h_))); (case aB => exact (by repeat (first | (with_reducible first | exact HB.out | apply below_alloc | apply pw_below_drewN | apply below_drew1 | refine below_set ?_ GE553.out | refine below_set ?_ GE554.out) | exact HB.out))); (case aF => exact (fun _ _ => trivial)); (case aO => exact (by (with_reducible repeat (first | apply Kd.S_alloc | apply Kd.S_drewN | apply Kd.S_drew)); exact Kd.S_mono HO_6.out (fun k_ hk => ⟨trivial, fun e_ => hk.2 e_⟩))); (case aS => exact (below_size (by repeat (first | (with_reducible first | exact HB.out | apply below_alloc | apply pw_below_drewN | apply below_drew1 | refine below_set ?_ GE553.out | refine below_set ?_ GE554.out) | exact HB.out)))); (case aL => have := LMc21.out; omega); intro v564 w27 ho hb hg hat; rw [← Ny563.out] at ho; have n0_ := Aside0.mk (blk_grown (g := gb553) (o := .cells #[.slice (some ad556) l0_0.length c0_0, .bool a0_1] 24 (0, 0)) (by (with_reducible repeat (first | refine blk_drewN ?_ _ | refine blk_drew ?_ | refine blk_alloc ?_ _)); exact BK553.out) hg (Kd.S_ne HO_6.out BK553.out (by decide))); have n1_ := Aside0.mk (blk_grown (g := gb554) (o := .cells #[.slice (some ad559) l1_0.length c1_0, .bool a1_1] 24 (0, 0)) (by (with_reducible repeat (first | refine blk_drewN ?_ _ | refine blk_drew ?_ | refine blk_alloc ?_ _)); exact BK554.out) hg (Kd.S_ne HO_6.out BK554.out (by decide))); have n2_ := Aside0.mk (hb); have n3_ := Aside0.mk (ho); clear BK553; clear BK554; clear HB; clear HO_6; clear HO562; have BK553 := n0_; have BK554 := n1_; have HB := n2_; have HO565 := n3_; clear n0_ n1_ n2_ n3_; clear ho hb hg hat))
                        go_roundg k1
                        case measure => have := HK1.out; omega
                        case rel => exact ⟨(y563), (wrap64 (x19_1 + 1)), (by first | rfl | (simp; done) | (simp [*]; done)), H', ⟨by have := HK1.out; omega⟩, ⟨by (with_reducible repeat (first | apply Kd.S_alloc | apply Kd.S_drewN | apply Kd.S_drew)); exact HO565.out⟩, ⟨by (with_reducible repeat (first | refine blk_drewN ?_ _ | refine blk_drew ?_ | refine blk_alloc ?_ _)); exact BK553.out⟩, ⟨by (with_reducible repeat (first | refine blk_drewN ?_ _ | refine blk_drew ?_ | refine blk_alloc ?_ _)); exact BK554.out⟩, ⟨by repeat (first | (with_reducible first | exact HB.out | apply below_alloc | apply pw_below_drewN | apply below_drew1 | refine below_set ?_ GE553.out | refine below_set ?_ GE554.out) | exact HB.out)⟩⟩
                      · rw [if_neg c21] at H
                        exact absurd H (by simp)
                    · rw [if_neg c20] at H
                      exact absurd H (by simp)
                  · rw [if_neg c19] at H
                    exact absurd H (by simp)
                · rw [if_neg c17] at H
                  exact absurd H (by simp)
              · replace c16 := Bool.eq_false_iff.mpr c16
                subst c16
                have H1 : (stockyardref03_Bind.l0 k1 x6_1 l0_0 (l0_0.length : Int) (wrap64 (x19_1 + 1)) l0_0 a0_1 l1_0 a1_1) = some (r1, r2) := by rw [if_neg (show ¬ (false = true) by decide)] at H; exact H
                clear H
                have H := H1
                clear H1
                have H' := Aside0.mk H
                clear H
                have p556 : 0 ≤ (x19_1 : Int) := of_decide_eq_true (by first | (with_reducible assumption) | assumption)
                have q556 : x19_1 < (l0_0.length : Int) := of_decide_eq_true (by first | (with_reducible assumption) | assumption)
                obtain ⟨ad556, e556, hx556_0⟩ := Kd.at_string HR0_0.out x19_1 p556 q556
                cases e556
                replace hx556_0 := (HB.out.cell (World.block_lt_of_cell? w _ hx556_0)).trans hx556_0
                replace p556 := eq_true p556
                replace q556 := eq_true q556
                go_wp2_with (first | ((with_reducible refine gate_callee (f := 39) rfl ?_); refine goesL_ (some 26) rfl rfl Tryd.func39 (by kernel_rfl) rfl #[.string (rdOf ByteArray.empty l0_0 x19_1)] rfl (by (try simp only [List.map_toArray, List.map_cons, List.map_nil]); first | done | rfl | (simp only [List.length_drop, List.length_take]; rfl)) ?_; (with_reducible refine (stockyardref03_Star.calls k1 (rdOf ByteArray.empty l0_0 x19_1) t557 false _ A15.out).mono ?_); rintro e w' ⟨rfl, ⟨nd, rfl⟩⟩; refine ⟨_, rfl, ?_⟩))
                go_roundg k1
                case measure => have := HK1.out; omega
                case rel => exact ⟨(x6_1), (wrap64 (x19_1 + 1)), (by first | rfl | (simp; done) | (simp [*]; done)), H', ⟨by have := HK1.out; omega⟩, ⟨by (with_reducible repeat (first | apply Kd.S_alloc | apply Kd.S_drewN | apply Kd.S_drew)); exact HO_6.out⟩, ⟨by (with_reducible repeat (first | refine blk_drewN ?_ _ | refine blk_drew ?_ | refine blk_alloc ?_ _)); exact BK553.out⟩, ⟨by (with_reducible repeat (first | refine blk_drewN ?_ _ | refine blk_drew ?_ | refine blk_alloc ?_ _)); exact BK554.out⟩, ⟨by repeat (first | (with_reducible first | exact HB.out | apply below_alloc | apply pw_below_drewN | apply below_drew1 | refine below_set ?_ GE553.out | refine below_set ?_ GE554.out) | exact HB.out)⟩⟩
            · rw [if_neg c14] at H
              exact absurd H (by simp)
          · rw [if_neg c13] at H
            exact absurd H (by simp)
        · rw [if_neg c12] at H
          have c12b0 : decide (x19_1 < (l0_0.length : Int)) = false := decide_eq_false c12
          clear c12
          by_cases c28 : a0_1 = true
          · subst c28
            have H1 : (if 0 ≤ (l0_0.length : Int) then (if (l0_0.length : Int) ≤ (l1_0.length : Int) then (if ([] : List ByteArray).length + (l1_0.drop ((l0_0.length : Int) : Int).toNat).length < 8796093022208 then (if x6_1.length < 4398046511104 then (some ((x6_1 ++ [(⟨(([] : List ByteArray) ++ (l1_0.drop ((l0_0.length : Int) : Int).toNat)), a1_1⟩ : S39)]), true)) else (none)) else (none)) else (none)) else (none)) = some (r1, r2) := by rw [if_pos rfl] at H; exact H
            clear H
            have H := H1
            clear H1
            by_cases c29 : 0 ≤ (l0_0.length : Int)
            · rw [if_pos c29] at H
              have c29b0 := eq_true c29
              have c29b1 : decide (0 ≤ (l0_0.length : Int)) = true := decide_eq_true c29
              clear c29
              by_cases c30 : (l0_0.length : Int) ≤ (l1_0.length : Int)
              · rw [if_pos c30] at H
                have c30b0 := eq_true c30
                have c30b1 : decide ((l0_0.length : Int) ≤ (l1_0.length : Int)) = true := decide_eq_true c30
                clear c30
                by_cases c31 : ([] : List ByteArray).length + (l1_0.drop ((l0_0.length : Int) : Int).toNat).length < 8796093022208
                · rw [if_pos c31] at H
                  have LMc31 := Aside0.mk c31
                  clear c31
                  obtain ⟨y567, hy567⟩ : ∃ y_ : List ByteArray, y_ = (([] : List ByteArray) ++ (l1_0.drop ((l0_0.length : Int) : Int).toNat)) := ⟨_, rfl⟩
                  replace H : (if x6_1.length < 4398046511104 then (some ((x6_1 ++ [(⟨y567, a1_1⟩ : S39)]), true)) else (none)) = some (r1, r2) := by first | (rw [hy567]; with_reducible exact H) | (have H2_ := (Option.bind_some _ _).symm.trans H; rw [hy567]; with_reducible exact H2_) | (have H2_ := (Option.bind_some _ _).symm.trans H; with_reducible exact H2_) | with_reducible exact H | (rw [hy567]; exact H) | exact H
                  have Ny567 := Aside0.mk hy567
                  clear hy567
                  by_cases c32 : x6_1.length < 4398046511104
                  · rw [if_pos c32] at H
                    have LMc32 := Aside0.mk c32
                    clear c32
                    obtain ⟨y570, hy570⟩ : ∃ y_ : List (S39), y_ = (x6_1 ++ [(⟨y567, a1_1⟩ : S39)]) := ⟨_, rfl⟩
                    replace H : (some (y570, true)) = some (r1, r2) := by first | (rw [hy570]; with_reducible exact H) | (have H2_ := (Option.bind_some _ _).symm.trans H; rw [hy570]; with_reducible exact H2_) | (have H2_ := (Option.bind_some _ _).symm.trans H; with_reducible exact H2_) | with_reducible exact H | (rw [hy570]; exact H) | exact H
                    have Ny570 := Aside0.mk hy570
                    clear hy570
                    simp only [Option.some.injEq, Prod.mk.injEq] at H
                    obtain ⟨rfl, rfl⟩ := H
                    have hnb33 := NB553_554.out
                    have hnc33 := NB554_553.out
                    have hcz34_0 : wr.cell? ⟨gb553, 0, none⟩ = some (.slice A0_0 l0_0.length c0_0) := (blk_cell BK553.out 0).trans rfl
                    have hcz34_1 : wr.cell? ⟨gb553, 1, none⟩ = some (.bool true) := (blk_cell BK553.out 1).trans rfl
                    have hfz34_0 := blk_frozen BK553.out 0
                    have hfz34_1 := blk_frozen BK553.out 1
                    try go_wp2
                    have n0_ := Aside0.mk (Kd.S_drew HO_6.out)
                    have n1_ := Aside0.mk (blk_drew BK553.out)
                    have n2_ := Aside0.mk (blk_drew BK554.out)
                    have n3_ := Aside0.mk (below_drew1 HB.out)
                    clear HO_6
                    clear BK553
                    clear BK554
                    clear HB
                    have HO_6 := n0_
                    have BK553 := n1_
                    have BK554 := n2_
                    have HB := n3_
                    clear n0_ n1_ n2_ n3_
                    obtain ⟨i036, hi036, _, hsz36, _⟩ := info_parts info9
                    obtain ⟨A36, hcut36, hA36, hC36⟩ := print_drop_of (P := Tryd.prog) Value.string (⟨#[]⟩ : ByteArray) 22 9 .i64 Tryd.underlying22 hi036 hsz36 A1_0 c1_0 l1_0 (l0_0.length : Int) (of_decide_eq_true (by first | (with_reducible assumption) | assumption)) (of_decide_eq_true (by first | (with_reducible assumption) | assumption)) HC1_0.out
                    have HR566 := Aside0.mk (Kd.C_of_reads (h1 := fun _ => rfl) (hA36 _ (Kd.reads_of_C HR1_0.out)))
                    have HC566 := Aside0.mk hC36
                    clear hA36 hC36 hi036 hsz36
                    refine start_ (n := 14) (S := fun w' => w'.cell? ⟨gb554, 0, none⟩ = some (.slice A1_0 l1_0.length c1_0) ∧ w'.cell? ⟨gb554, 1, none⟩ = some (.bool a1_1) ∧ w'.cell? ⟨gb553, 0, none⟩ = some (.slice A0_0 l0_0.length c0_0) ∧ w'.cell? ⟨gb553, 1, none⟩ = some (.bool true)) (ds := []) #[false, false, false, false, false, false, false, false, false, false, false, false, false, false] (by kernel_rfl) rfl rfl ⟨(blk_cell BK554.out 0).trans rfl, (blk_cell BK554.out 1).trans rfl, (blk_cell BK553.out 0).trans rfl, (blk_cell BK553.out 1).trans rfl⟩ (fun hHeld => ?_); refine with_tabW stockyardref03_Bind.tab13 stockyardref03_Bind.bits13 (fun HT_ HW_ => ?_)
                    generalize wr.drew = w35 at HO_6 BK553 BK554 HB HR566 hHeld ⊢
                    refine pure_ (i := 0) (N := some 51) (v := ?_) (a' := ?_) #[true, false, false, false, false, false, false, false, false, false, false, false, false, false] rfl rfl (any_of HT_.out (by kernel_rfl)) (fun _ _ _ h => h) (Or.inl ⟨by rfl, ?_⟩) ?_ ?_
                    rotate_left
                    · intro w'
                      go_simp
                      with_reducible rfl
                    rotate_left
                    · simp only [Act.put, List.setIfInBounds_toArray, List.set_cons_zero, List.set_cons_succ, i64_w, i32_w]
                      rfl
                    refine pure_ (i := 1) (N := some 52) (v := ?_) (a' := ?_) #[true, true, false, false, false, false, false, false, false, false, false, false, false, false] rfl rfl (any_of HT_.out (by kernel_rfl)) (fun _ _ _ h => h) (Or.inl ⟨by rfl, ?_⟩) ?_ ?_
                    rotate_left
                    · intro w'
                      go_simp
                      with_reducible rfl
                    rotate_left
                    · simp only [Act.put, List.setIfInBounds_toArray, List.set_cons_zero, List.set_cons_succ, i64_w, i32_w]
                      rfl
                    refine pure_ (i := 3) (N := some 54) (v := ?_) (a' := ?_) #[true, true, false, true, false, false, false, false, false, false, false, false, false, false] rfl rfl (any_of HT_.out (by kernel_rfl)) (fun _ _ _ h => h) (Or.inl ⟨by rfl, ?_⟩) ?_ ?_
                    rotate_left
                    · intro w'
                      go_simp
                      with_reducible rfl
                    rotate_left
                    · simp only [Act.put, List.setIfInBounds_toArray, List.set_cons_zero, List.set_cons_succ, i64_w, i32_w]
                      rfl
                    refine pure_ (i := 8) (N := some 59) (v := ?_) (a' := ?_) #[true, true, false, true, false, false, false, false, true, false, false, false, false, false] rfl rfl (any_of HT_.out (by kernel_rfl)) (fun _ _ _ h => h) (Or.inl ⟨by rfl, ?_⟩) ?_ ?_
                    rotate_left
                    · intro w'
                      go_simp
                      with_reducible rfl
                    rotate_left
                    · simp only [Act.put, List.setIfInBounds_toArray, List.set_cons_zero, List.set_cons_succ, i64_w, i32_w]
                      rfl
                    refine take_ (i := 2) (N := some 53) (v := ?_) (a' := ?_) #[true, true, true, true, false, false, false, false, true, false, false, false, false, false] rfl rfl (take_ofW HT_.out HW_.out (by kernel_rfl)) (fun _ _ _ h => h) (Or.inl ⟨by rfl, ?_⟩) hHeld ?_ ?_
                    rotate_left
                    · rintro w' ⟨s0, s1, s2, s3⟩
                      go_simp
                      with_reducible rfl
                    rotate_left
                    · simp only [Act.put, List.setIfInBounds_toArray, List.set_cons_zero, List.set_cons_succ, i64_w, i32_w]
                      rfl
                    refine take_ (i := 4) (N := some 55) (v := ?_) (a' := ?_) #[true, true, true, true, true, false, false, false, true, false, false, false, false, false] rfl rfl (take_ofW HT_.out HW_.out (by kernel_rfl)) (fun _ _ _ h => h) (Or.inl ⟨by rfl, ?_⟩) hHeld ?_ ?_
                    rotate_left
                    · rintro w' ⟨s0, s1, s2, s3⟩
                      go_simp
                      with_reducible rfl
                    rotate_left
                    · simp only [Act.put, List.setIfInBounds_toArray, List.set_cons_zero, List.set_cons_succ, i64_w, i32_w]
                      rfl
                    refine pure_ (i := 5) (N := some 56) (v := ?_) (a' := ?_) #[true, true, true, true, true, true, false, false, true, false, false, false, false, false] rfl rfl (any_of HT_.out (by kernel_rfl)) (fun _ _ _ h => h) (Or.inl ⟨by rfl, ?_⟩) ?_ ?_
                    rotate_left
                    · intro w'
                      go_simp
                      with_reducible rfl
                    rotate_left
                    · simp only [Act.put, List.setIfInBounds_toArray, List.set_cons_zero, List.set_cons_succ, i64_w, i32_w]
                      rfl
                    refine pure_ (i := 6) (N := some 57) (v := ?_) (a' := ?_) #[true, true, true, true, true, true, true, false, true, false, false, false, false, false] rfl rfl (any_of HT_.out (by kernel_rfl)) (fun _ _ _ h => h) (Or.inl ⟨by rfl, ?_⟩) ?_ ?_
                    rotate_left
                    · intro w'
                      go_simp
                      with_reducible rfl
                    rotate_left
                    · simp only [Act.put, List.setIfInBounds_toArray, List.set_cons_zero, List.set_cons_succ, i64_w, i32_w]
                      rfl
                    refine take_ (i := 9) (N := some 60) (v := ?_) (a' := ?_) #[true, true, true, true, true, true, true, false, true, true, false, false, false, false] rfl rfl (take_ofW HT_.out HW_.out (by kernel_rfl)) (fun _ _ _ h => h) (Or.inl ⟨by rfl, ?_⟩) hHeld ?_ ?_
                    rotate_left
                    · rintro w' ⟨s0, s1, s2, s3⟩
                      go_simp
                      with_reducible rfl
                    rotate_left
                    · simp only [Act.put, List.setIfInBounds_toArray, List.set_cons_zero, List.set_cons_succ, i64_w, i32_w]
                      rfl
                    refine one_ (i := 7) (N := some 58) #[true, true, true, true, true, true, true, true, true, true, false, false, false, false] rfl rfl (one_of HT_.out (by kernel_rfl)) (by decide) (fun K hK => ?_)
                    refine Kd.R_append_rows_step Kd.string (w0 := w) w.heap.size (by rfl) (.const (.slice none 0 0)) (.tmp 57) 22 9 (.string ⟨#[]⟩) 16 rfl Tryd.underlying22 info9 rfl (by decide) (by omega) (.slice none 0 0) ([] : List ByteArray) (l1_0.drop ((l0_0.length : Int) : Int).toNat) _ _ _ (fun _ => True) (fun _ => False) rfl rfl ?aO ?aR (fun _ _ h => h) (fun _ h => h.elim) ?aF ?aB ?aS ?aL ?_
                    (case aR => first | (rw [show (l1_0.length - l0_0.length) = (l1_0.drop ((l0_0.length : Int) : Int).toNat).length from List.length_drop.symm]; repeat (first | exact (Kd.C_below HR566.out HB.out) | (with_reducible refine Kd.C_alloc ?_ _) | (with_reducible refine Kd.C_drewN ?_ _) | (with_reducible refine Kd.C_drew ?_))) | (rw [← show (l1_0.drop ((l0_0.length : Int) : Int).toNat).length = (l1_0.length - (l0_0.length : Int).toNat) from List.length_drop]; repeat (first | exact (Kd.C_below HR566.out HB.out) | (with_reducible refine Kd.C_alloc ?_ _) | (with_reducible refine Kd.C_drewN ?_ _) | (with_reducible refine Kd.C_drew ?_))) | (repeat (first | exact (Kd.C_below HR566.out HB.out) | (with_reducible refine Kd.C_alloc ?_ _) | (with_reducible refine Kd.C_drewN ?_ _) | (with_reducible refine Kd.C_drew ?_))))
                    (case aB => exact (by repeat (first | (with_reducible first | exact HB.out | apply below_alloc | apply pw_below_drewN | apply below_drew1 | refine below_set ?_ GE553.out | refine below_set ?_ GE554.out) | exact HB.out)))
                    (case aF => exact (fun _ _ => trivial))
                    (case aO => exact ((Kd.R_nil _ _ _ _ (fun _ => True))))
                    (case aS => exact (below_size (by repeat (first | (with_reducible first | exact HB.out | apply below_alloc | apply pw_below_drewN | apply below_drew1 | refine below_set ?_ GE553.out | refine below_set ?_ GE554.out) | exact HB.out))))
                    (case aL => have := LMc31.out; have hlx_ := (show (l1_0.drop ((l0_0.length : Int) : Int).toNat).length = (l1_0.length - (l0_0.length : Int).toNat) from List.length_drop); omega)
                    intro v568 w37 ho hb hg hat
                    rw [← Ny567.out] at ho
                    have n0_ := Aside0.mk (Kd.S_after (Kd.S_apart_nil (by (with_reducible repeat (first | apply Kd.S_alloc | apply Kd.S_drewN | apply Kd.S_drew)); exact HO_6.out)) hg hat)
                    have n1_ := Aside0.mk (blk_grown (g := gb553) (o := .cells #[.slice A0_0 l0_0.length c0_0, .bool true] 24 (0, 0)) (by (with_reducible repeat (first | refine blk_drewN ?_ _ | refine blk_drew ?_ | refine blk_alloc ?_ _)); exact BK553.out) hg (by simp [Value.ownBlock]))
                    have n2_ := Aside0.mk (blk_grown (g := gb554) (o := .cells #[.slice A1_0 l1_0.length c1_0, .bool a1_1] 24 (0, 0)) (by (with_reducible repeat (first | refine blk_drewN ?_ _ | refine blk_drew ?_ | refine blk_alloc ?_ _)); exact BK554.out) hg (by simp [Value.ownBlock]))
                    have n3_ := Aside0.mk (hb)
                    have n4_ := Aside0.mk (ho)
                    clear HO_6
                    clear BK553
                    clear BK554
                    clear HB
                    have HO_6 := n0_
                    have BK553 := n1_
                    have BK554 := n2_
                    have HB := n3_
                    have HO569 := n4_
                    clear n0_ n1_ n2_ n3_ n4_
                    clear ho hb hg hat
                    obtain ⟨Ao38, co38, eo38⟩ := Kd.R_slice HO569.out
                    (first | subst eo38 | (injection eo38 with f1_ f2_ f3_; have f4_ := f1_.symm; have f5_ := f3_.symm; clear f1_ f2_ f3_; subst f4_; subst f5_))
                    refine hK.out _ _ ⟨(blk_cell BK554.out 0).trans rfl, (blk_cell BK554.out 1).trans rfl, (blk_cell BK553.out 0).trans rfl, (blk_cell BK553.out 1).trans rfl⟩ (fun hHeld => ?_)
                    clear hK K
                    refine norm_ (a' := ?_) ?_ ?_
                    rotate_left
                    · show Act.put _ (some 58) _ = _
                      simp only [Act.put, List.setIfInBounds_toArray, List.set_cons_zero, List.set_cons_succ, i64_w, i32_w]
                      rfl
                    refine pure_ (i := 10) (N := some 61) (v := ?_) (a' := ?_) #[true, true, true, true, true, true, true, true, true, true, true, false, false, false] rfl rfl (any_of HT_.out (by kernel_rfl)) (fun _ _ _ h => h) (Or.inl ⟨by rfl, ?_⟩) ?_ ?_
                    rotate_left
                    · intro w'
                      go_simp
                      with_reducible rfl
                    rotate_left
                    · simp only [Act.put, List.setIfInBounds_toArray, List.set_cons_zero, List.set_cons_succ, i64_w, i32_w]
                      rfl
                    refine one_ (i := 11) (N := some 62) #[true, true, true, true, true, true, true, true, true, true, true, true, false, false] rfl rfl (one_of HT_.out (by kernel_rfl)) (by decide) (fun K hK => ?_)
                    refine value_ (w1 := ?_) (v := ?_) (by rfl) rfl ?_ ?_
                    rotate_left 2
                    · go_simp
                      constructor
                      · rfl
                      · rfl
                    refine hK.out _ _ ⟨(blk_cell (blk_alloc BK554.out _) 0).trans rfl, (blk_cell (blk_alloc BK554.out _) 1).trans rfl, (blk_cell (blk_alloc BK553.out _) 0).trans rfl, (blk_cell (blk_alloc BK553.out _) 1).trans rfl⟩ (fun hHeld => ?_)
                    clear hK K
                    refine norm_ (a' := ?_) ?_ ?_
                    rotate_left
                    · show Act.put _ (some 62) _ = _
                      simp only [Act.put, List.setIfInBounds_toArray, List.set_cons_zero, List.set_cons_succ, i64_w, i32_w]
                      rfl
                    refine one_ (i := 12) (N := some 63) #[true, true, true, true, true, true, true, true, true, true, true, true, true, false] rfl rfl (one_of HT_.out (by kernel_rfl)) (by decide) (fun K hK => ?_)
                    refine Kd.S_append_step k39 (w0 := w) w.heap.size (by rfl) (.tmp 51) (.tmp 62) 38 39 (.agg #[(.slice none 0 0), (.bool false)]) 32 rfl Tryd.underlying38 info39 rfl (by decide) (by omega) u6 x6_1 (⟨y567, a1_1⟩ : S39) [.slice Ao38 y567.length co38, .bool a1_1] (fun _ => True) (fun k_ => some k_ = (.slice Ao38 y567.length co38 : Value).ownBlock) rfl rfl ?aP (fun k_ hk_ => ((Kd.R_mono (ok' := fun k_ => ((fun _ => True)) k_ ∧ some k_ ≠ (u6 : Value).ownBlock) (Kd.R_apart' (HO569.out) (Kd.S_typed HO_6.out) (by decide)) (fun k_ hk => ⟨trivial, hk.2⟩))).1 k_ hk_.symm) ?aF ?aO ?aB ?aS ?aL ?_
                    (case aP => exact k39_mkM _ _ _ (⟨y567, a1_1⟩ : S39) (Kd.R_mono (Kd.R_tight rfl (Kd.R_mono (ok' := fun k_ => ((fun _ => True)) k_ ∧ some k_ ≠ (u6 : Value).ownBlock) (Kd.R_apart' (HO569.out) (Kd.S_typed HO_6.out) (by decide)) (fun k_ hk => ⟨trivial, hk.2⟩))) (fun _ h_ => h_)))
                    (case aB => exact (by repeat (first | (with_reducible first | exact HB.out | apply below_alloc | apply pw_below_drewN | apply below_drew1 | refine below_set ?_ GE553.out | refine below_set ?_ GE554.out) | exact HB.out)))
                    (case aF => exact (fun _ _ => trivial))
                    (case aO => exact (by (with_reducible repeat (first | apply Kd.S_alloc | apply Kd.S_drewN | apply Kd.S_drew)); exact Kd.S_mono HO_6.out (fun k_ hk => ⟨trivial, fun e_ => hk.2 e_⟩)))
                    (case aS => exact (below_size (by repeat (first | (with_reducible first | exact HB.out | apply below_alloc | apply pw_below_drewN | apply below_drew1 | refine below_set ?_ GE553.out | refine below_set ?_ GE554.out) | exact HB.out))))
                    (case aL => have := LMc32.out; omega)
                    intro v571 w39 ho hb hg hat
                    rw [← Ny570.out] at ho
                    have n0_ := Aside0.mk (blk_grown (g := gb553) (o := .cells #[.slice A0_0 l0_0.length c0_0, .bool true] 24 (0, 0)) (by (with_reducible repeat (first | refine blk_drewN ?_ _ | refine blk_drew ?_ | refine blk_alloc ?_ _)); exact BK553.out) hg (Kd.S_ne HO_6.out BK553.out (by decide)))
                    have n1_ := Aside0.mk (blk_grown (g := gb554) (o := .cells #[.slice A1_0 l1_0.length c1_0, .bool a1_1] 24 (0, 0)) (by (with_reducible repeat (first | refine blk_drewN ?_ _ | refine blk_drew ?_ | refine blk_alloc ?_ _)); exact BK554.out) hg (Kd.S_ne HO_6.out BK554.out (by decide)))
                    have n2_ := Aside0.mk (hb)
                    have n3_ := Aside0.mk (ho)
                    clear BK553
                    clear BK554
                    clear HB
                    clear HO_6
                    clear HO569
                    have BK553 := n0_
                    have BK554 := n1_
                    have HB := n2_
                    have HO572 := n3_
                    clear n0_ n1_ n2_ n3_
                    clear ho hb hg hat
                    refine hK.out _ _ ⟨(blk_cell BK554.out 0).trans rfl, (blk_cell BK554.out 1).trans rfl, (blk_cell BK553.out 0).trans rfl, (blk_cell BK553.out 1).trans rfl⟩ (fun hHeld => ?_)
                    clear hK K
                    refine norm_ (a' := ?_) ?_ ?_
                    rotate_left
                    · show Act.put _ (some 63) _ = _
                      simp only [Act.put, List.setIfInBounds_toArray, List.set_cons_zero, List.set_cons_succ, i64_w, i32_w]
                      rfl
                    refine pure_ (i := 13) (N := some 6) (v := ?_) (a' := ?_) #[true, true, true, true, true, true, true, true, true, true, true, true, true, true] rfl rfl (any_of HT_.out (by kernel_rfl)) (fun _ _ _ h => h) (Or.inl ⟨by rfl, ?_⟩) ?_ ?_
                    rotate_left
                    · intro w'
                      go_simp
                      with_reducible rfl
                    rotate_left
                    · simp only [Act.put, List.setIfInBounds_toArray, List.set_cons_zero, List.set_cons_succ, i64_w, i32_w]
                      rfl
                    refine done_ (done_of HT_.out (by kernel_rfl)) ?_
                    try go_wp2
                    go_ret2
                    exact ⟨_, by first | rfl | (simp [errW_none, errW_some] <;> rfl) | (simp [*, errW_none, errW_some] <;> rfl), by (with_reducible repeat (first | apply Kd.S_alloc | apply Kd.S_drewN | apply Kd.S_drew)); exact HO572.out, by repeat (first | (with_reducible first | exact HB.out | apply below_alloc | apply pw_below_drewN | apply below_drew1 | refine below_set ?_ GE553.out | refine below_set ?_ GE554.out) | exact HB.out)⟩
                  · rw [if_neg c32] at H
                    exact absurd H (by simp)
                · rw [if_neg c31] at H
                  exact absurd H (by simp)
              · rw [if_neg c30] at H
                exact absurd H (by simp)
            · rw [if_neg c29] at H
              exact absurd H (by simp)
          · replace c28 := Bool.eq_false_iff.mpr c28
            subst c28
            have H1 : (some (x6_1, true)) = some (r1, r2) := by rw [if_neg (show ¬ (false = true) by decide)] at H; exact H
            clear H
            have H := H1
            clear H1
            simp only [Option.some.injEq, Prod.mk.injEq] at H
            obtain ⟨rfl, rfl⟩ := H
            have hnb40 := NB553_554.out
            have hnc40 := NB554_553.out
            have hcz41_0 : wr.cell? ⟨gb553, 0, none⟩ = some (.slice A0_0 l0_0.length c0_0) := (blk_cell BK553.out 0).trans rfl
            have hcz41_1 : wr.cell? ⟨gb553, 1, none⟩ = some (.bool false) := (blk_cell BK553.out 1).trans rfl
            have hfz41_0 := blk_frozen BK553.out 0
            have hfz41_1 := blk_frozen BK553.out 1
            go_wp2
            go_ret2
            exact ⟨_, by first | rfl | (simp [errW_none, errW_some] <;> rfl) | (simp [*, errW_none, errW_some] <;> rfl), by (with_reducible repeat (first | apply Kd.S_alloc | apply Kd.S_drewN | apply Kd.S_drew)); exact HO_6.out, by repeat (first | (with_reducible first | exact HB.out | apply below_alloc | apply pw_below_drewN | apply below_drew1 | refine below_set ?_ GE553.out | refine below_set ?_ GE554.out) | exact HB.out)⟩
  · replace c4 := Bool.eq_false_iff.mpr c4
    subst c4
    have H1 : (some (([] : List (S39)), false)) = some (r1, r2) := by rw [if_neg (show ¬ (false = true) by decide)] at H; exact H
    clear H
    have H := H1
    clear H1
    simp only [Option.some.injEq, Prod.mk.injEq] at H
    obtain ⟨rfl, rfl⟩ := H
    go_enter Tryd.func26, Tryd.ntmps26
    go_wp2_with (first | ((with_reducible refine gate_dst (N := 2) rfl ?_); refine box_event ?hg (N := 2) ?hd (cs := #[.slice A0_0 l0_0.length c0_0, .bool a0_1]) (t := 24) ?hr ?_; (case hd => rfl); (case hg => rfl); (case hr => first | (go_simp; done) | (go_simp; rfl)); intro gb553 hg w42 hbox hb; have n0_ := Aside0.mk (below_step (by repeat (first | (with_reducible first | exact HB.out | apply below_alloc | apply pw_below_drewN | apply below_drew1) | exact HB.out)) hb); have n1_ := Aside0.mk (hbox); have n2_ := Aside0.mk ((by rw [hg]; exact (below_size (by repeat (first | (with_reducible first | exact HB.out | apply below_alloc | apply pw_below_drewN | apply below_drew1) | exact HB.out))) : w.heap.size ≤ gb553)); have n3_ := Aside0.mk ((by rw [hg]; exact (below_size (by repeat (first | (with_reducible first | exact HB.out | apply below_alloc | apply pw_below_drewN | apply below_drew1) | exact HB.out))) : w.heap.size ≤ gb553)); clear HB; have HB := n0_; have BK553 := n1_; have GW553 := n2_; have GE553 := n3_; clear n0_ n1_ n2_ n3_; clear hb hbox hg) | ((with_reducible refine gate_dst (N := 3) rfl ?_); refine box_event ?hg (N := 3) ?hd (cs := #[.slice A1_0 l1_0.length c1_0, .bool a1_1]) (t := 24) ?hr ?_; (case hd => rfl); (case hg => rfl); (case hr => first | (go_simp; done) | (go_simp; rfl)); intro gb554 hg w43 hbox hb; have n0_ := Aside0.mk (blk_below (g := gb553) (o := .cells #[.slice A0_0 l0_0.length c0_0, .bool a0_1] 24 (0, 0)) (by (with_reducible repeat (first | refine blk_drewN ?_ _ | refine blk_drew ?_ | refine blk_alloc ?_ _)); exact BK553.out) hb); have n1_ := Aside0.mk (below_step (by repeat (first | (with_reducible first | exact HB.out | apply below_alloc | apply pw_below_drewN | apply below_drew1 | refine below_set ?_ GE553.out) | exact HB.out)) hb); have n2_ := Aside0.mk (hbox); have n3_ := Aside0.mk ((by rw [hg]; exact (below_size (by repeat (first | (with_reducible first | exact HB.out | apply below_alloc | apply pw_below_drewN | apply below_drew1 | refine below_set ?_ GE553.out) | exact HB.out))) : w.heap.size ≤ gb554)); have n4_ := Aside0.mk ((by rw [hg]; exact (below_size (by repeat (first | (with_reducible first | exact HB.out | apply below_alloc | apply pw_below_drewN | apply below_drew1 | refine below_set ?_ GE553.out) | exact HB.out))) : w.heap.size ≤ gb554)); have n5_ := Aside0.mk ((by rw [hg]; exact Nat.ne_of_lt (blk_lt (g := gb553) (o := .cells #[.slice A0_0 l0_0.length c0_0, .bool a0_1] 24 (0, 0)) (by (with_reducible repeat (first | refine blk_drewN ?_ _ | refine blk_drew ?_ | refine blk_alloc ?_ _)); exact BK553.out)) : gb553 ≠ gb554)); have n6_ := Aside0.mk ((by rw [hg]; exact Nat.ne_of_gt (blk_lt (g := gb553) (o := .cells #[.slice A0_0 l0_0.length c0_0, .bool a0_1] 24 (0, 0)) (by (with_reducible repeat (first | refine blk_drewN ?_ _ | refine blk_drew ?_ | refine blk_alloc ?_ _)); exact BK553.out)) : gb554 ≠ gb553)); clear BK553; clear HB; have BK553 := n0_; have HB := n1_; have BK554 := n2_; have GW554 := n3_; have GE554 := n4_; have NB553_554 := n5_; have NB554_553 := n6_; clear n0_ n1_ n2_ n3_ n4_ n5_ n6_; clear hb hbox hg; have hnb44 := NB554_553.out; have hnc44 := NB553_554.out; have hcz45_0 : w43.cell? ⟨gb554, 0, none⟩ = some (.slice A1_0 l1_0.length c1_0) := (blk_cell BK554.out 0).trans rfl; have hcz45_1 : w43.cell? ⟨gb554, 1, none⟩ = some (.bool a1_1) := (blk_cell BK554.out 1).trans rfl; have hfz45_0 := blk_frozen BK554.out 0; have hfz45_1 := blk_frozen BK554.out 1; have hcz46_0 : w43.cell? ⟨gb553, 0, none⟩ = some (.slice A0_0 l0_0.length c0_0) := (blk_cell BK553.out 0).trans rfl; have hcz46_1 : w43.cell? ⟨gb553, 1, none⟩ = some (.bool a0_1) := (blk_cell BK553.out 1).trans rfl; have hfz46_0 := blk_frozen BK553.out 0; have hfz46_1 := blk_frozen BK553.out 1) | ((with_reducible refine gate_callee (f := 23) rfl ?_); refine goesL_ (some 14) rfl rfl Tryd.func23 (by kernel_rfl) rfl #[.agg #[.slice A1_0 l1_0.length c1_0, .bool a1_1], .agg #[.slice A0_0 l0_0.length c0_0, .bool a0_1]] rfl (by (try simp only [List.map_toArray, List.map_cons, List.map_nil]); first | done | rfl | (simp only [List.length_drop, List.length_take]; rfl)) ?_; (with_reducible refine (stockyardref03_Within.calls k _ _ l1_0 a1_1 _ _ l0_0 a0_1 false _ ?side1 ?side2 ?side3 ?side4 A3.out).mono ?_); (case side1 => repeat (first | exact (Kd.C_below HR1_0.out HB.out) | (with_reducible refine Kd.C_alloc ?_ _) | (with_reducible refine Kd.C_drewN ?_ _) | (with_reducible refine Kd.C_drew ?_))); (case side2 => exact HC1_0.out); (case side3 => repeat (first | exact (Kd.C_below HR0_0.out HB.out) | (with_reducible refine Kd.C_alloc ?_ _) | (with_reducible refine Kd.C_drewN ?_ _) | (with_reducible refine Kd.C_drew ?_))); (case side4 => exact HC0_0.out); rintro e w47 ⟨rfl, hb⟩; refine ⟨_, rfl, ?_⟩; have n0_ := Aside0.mk (blk_below (g := gb553) (o := .cells #[.slice A0_0 l0_0.length c0_0, .bool a0_1] 24 (0, 0)) (by (with_reducible repeat (first | refine blk_drewN ?_ _ | refine blk_drew ?_ | refine blk_alloc ?_ _)); exact BK553.out) hb); have n1_ := Aside0.mk (blk_below (g := gb554) (o := .cells #[.slice A1_0 l1_0.length c1_0, .bool a1_1] 24 (0, 0)) (by (with_reducible repeat (first | refine blk_drewN ?_ _ | refine blk_drew ?_ | refine blk_alloc ?_ _)); exact BK554.out) hb); have n2_ := Aside0.mk (below_step (by repeat (first | (with_reducible first | exact HB.out | apply below_alloc | apply pw_below_drewN | apply below_drew1 | refine below_set ?_ GE553.out | refine below_set ?_ GE554.out) | exact HB.out)) hb); clear BK553; clear BK554; clear HB; have BK553 := n0_; have BK554 := n1_; have HB := n2_; clear n0_ n1_ n2_; (try clear hb); (try clear hb2); (try clear hk); (try clear hi)))
    go_ret2
    exact ⟨_, by first | rfl | (simp [errW_none, errW_some] <;> rfl) | (simp [*, errW_none, errW_some] <;> rfl), by first | exact Kd.S_nil _ _ _ _ _ | exact Kd.N_nil _ _ _ _ _ | exact Kd.V_nil _ _ _ _ _ | exact Kd.Q_nil _ _ _ _ _ | exact Kd.R_nil _ _ _ _ _, by repeat (first | (with_reducible first | exact HB.out | apply below_alloc | apply pw_below_drewN | apply below_drew1 | refine below_set ?_ GE553.out | refine below_set ?_ GE554.out) | exact HB.out)⟩

end Go.Proofs.YtcpnmcbgcgkieaaDoor.P

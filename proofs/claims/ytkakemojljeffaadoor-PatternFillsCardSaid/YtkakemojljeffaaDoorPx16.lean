-- Written by a program of this session (wip/gen.py) over the kit's print: each Go function as a plain Lean function, and the proof that the Go code comes to it. Nothing here is trusted: Lean checks it.
import Derived.Test.YtkakemojljeffaaDoorPx0
import Derived.Test.YtkakemojljeffaaDoorPx4
namespace Go.Proofs.YtkakemojljeffaaDoor.P
open Go.RowKit Go.Proofs.YtkakemojljeffaaDoorW.PrintWords Go.Proofs.YtkakemojljeffaaDoorW.PrintLast Go.Proofs.YtkakemojljeffaaDoorW.PrintMore
attribute [local go_sem] str_gtr str_leq str_geq max2_int min2_int max_two min_two max_three min_three max_four min_four   -- for this text's walks alone
set_option linter.unusedVariables false
set_option linter.unusedSimpArgs false

/-! ### stockyardref03_Kinds: function 33 -/
def stockyardref03_Kinds.l0 : Nat → Int → List ByteArray → Int → Int → List ByteArray → Bool → Option (Int × Bool)
  | 0, _, _, _, _, _, _ => none
  | k + 1, x4, x10, x11, x12, x339000, x339001 => if x12 < x11 then (if 0 ≤ x12 then (if x12 < (x10.length : Int) then ((stockyardref03_Star.f k (rdOf ByteArray.empty x10 x12)).bind fun bt340 => (if bt340.2 = true then (stockyardref03_Kinds.l0 k (wrap64 (x4 + 1)) x10 x11 (wrap64 (x12 + 1)) x339000 x339001) else (stockyardref03_Kinds.l0 k x4 x10 x11 (wrap64 (x12 + 1)) x339000 x339001))) else (none)) else (none)) else (some (x4, x339001))
def stockyardref03_Kinds.f (k : Nat) (l0_0 : List ByteArray) (a0_1 : Bool) : Option (Int × Bool) := stockyardref03_Kinds.l0 k 0 l0_0 (l0_0.length : Int) 0 l0_0 a0_1
theorem stockyardref03_Kinds.mono_l : ∀ k, (∀ y0 y1 y2 y3 y4 y5, LeO (stockyardref03_Kinds.l0 k y0 y1 y2 y3 y4 y5) (stockyardref03_Kinds.l0 (k + 1) y0 y1 y2 y3 y4 y5))
  | 0 => fun _ _ _ _ _ _ r h => by simp [stockyardref03_Kinds.l0] at h
  | k + 1 => by
    have ih0 := stockyardref03_Kinds.mono_l k
    · intro y0 y1 y2 y3 y4 y5
      unfold stockyardref03_Kinds.l0
      repeat' first
      | (with_reducible exact ih0 _ _ _ _ _ _)
      | (with_reducible exact stockyardref03_Star.mono _ _)
      | (with_reducible exact LeO.refl _)
      | (with_reducible exact LeO.none _)
      | (with_reducible refine LeO.ite ?_ ?_)
      | (with_reducible refine LeO.bind ?_ (fun _ => ?_))
      | exact ih0 _ _ _ _ _ _
      | exact stockyardref03_Star.mono _ _
      | exact LeO.none _
      | refine LeO.ite ?_ ?_
      | refine LeO.bind ?_ (fun _ => ?_)
theorem stockyardref03_Kinds.mono : ∀ a0 a1 k, LeO (stockyardref03_Kinds.f k a0 a1) (stockyardref03_Kinds.f (k + 1) a0 a1) := by
  intro a0 a1 k
  have ih0 := stockyardref03_Kinds.mono_l k
  unfold stockyardref03_Kinds.f
  repeat' first
      | (with_reducible exact ih0 _ _ _ _ _ _)
      | (with_reducible exact stockyardref03_Star.mono _ _)
      | (with_reducible exact LeO.refl _)
      | (with_reducible exact LeO.none _)
      | (with_reducible refine LeO.ite ?_ ?_)
      | (with_reducible refine LeO.bind ?_ (fun _ => ?_))
      | exact ih0 _ _ _ _ _ _
      | exact stockyardref03_Star.mono _ _
      | exact LeO.none _
      | refine LeO.ite ?_ ?_
      | refine LeO.bind ?_ (fun _ => ?_)
set_option maxHeartbeats 8000000 in
set_option maxRecDepth 100000 in
theorem stockyardref03_Kinds.calls (k : Nat) (A0_0 : Option Addr) (c0_0 : Nat) (l0_0 : List ByteArray) (a0_1 : Bool) (r1 : Int) (r2 : Bool) (w : World) (hr0_0 : Kd.C Kd.string w A0_0 l0_0.length l0_0) (hc0_0 : l0_0.length ≤ c0_0) (h : stockyardref03_Kinds.f k l0_0 a0_1 = some (r1, r2)) :
    Calls Tryd.prog 33 #[.agg #[.slice A0_0 l0_0.length c0_0, .bool a0_1]] w fun e w' => e = .returned (.tuple #[.int .i64 r1, .bool r2]) ∧ Below w.heap.size w w' := by
  have hu25 := Tryd.underlying25
  have HR0_0 := Aside0.mk hr0_0
  have HC0_0 := Aside0.mk hc0_0
  clear hr0_0 hc0_0
  have HB := Aside0.mk (Below.refl w.heap.size w)
  have H : (stockyardref03_Kinds.l0 k 0 l0_0 (l0_0.length : Int) 0 l0_0 a0_1) = some (r1, r2) := h
  clear h
  have H' := Aside0.mk H
  clear H
  go_enter Tryd.func33, Tryd.ntmps33
  go_wp2_with (first | ((with_reducible refine gate_dst (N := 1) rfl ?_); refine box_event ?hg (N := 1) ?hd (cs := #[.slice A0_0 l0_0.length c0_0, .bool a0_1]) (t := 25) ?hr ?_; (case hd => rfl); (case hg => rfl); (case hr => first | (go_simp; done) | (go_simp; rfl)); intro gb338 hg w2 hbox hb; have n0_ := Aside0.mk (below_step (by repeat (first | (with_reducible first | exact HB.out | apply below_alloc | apply pw_below_drewN | apply below_drew1) | exact HB.out)) hb); have n1_ := Aside0.mk (hbox); have n2_ := Aside0.mk ((by rw [hg]; exact (below_size (by repeat (first | (with_reducible first | exact HB.out | apply below_alloc | apply pw_below_drewN | apply below_drew1) | exact HB.out))) : w.heap.size ≤ gb338)); have n3_ := Aside0.mk ((by rw [hg]; exact (below_size (by repeat (first | (with_reducible first | exact HB.out | apply below_alloc | apply pw_below_drewN | apply below_drew1) | exact HB.out))) : w.heap.size ≤ gb338)); clear HB; have HB := n0_; have BK338 := n1_; have GW338 := n2_; have GE338 := n3_; clear n0_ n1_ n2_ n3_; clear hb hbox hg; have hcz3_0 : w2.cell? ⟨gb338, 0, none⟩ = some (.slice A0_0 l0_0.length c0_0) := (blk_cell BK338.out 0).trans rfl; have hcz3_1 : w2.cell? ⟨gb338, 1, none⟩ = some (.bool a0_1) := (blk_cell BK338.out 1).trans rfl; have hfz3_0 := blk_frozen BK338.out 0; have hfz3_1 := blk_frozen BK338.out 1))
  repeat (go_quiet (first | ((with_reducible refine gate_dst (N := 1) rfl ?_); refine box_event ?hg (N := 1) ?hd (cs := #[.slice A0_0 l0_0.length c0_0, .bool a0_1]) (t := 25) ?hr ?_; (case hd => rfl); (case hg => rfl); (case hr => first | (go_simp; done) | (go_simp; rfl)); intro gb338 hg w2 hbox hb; have n0_ := Aside0.mk (below_step (by repeat (first | (with_reducible first | exact HB.out | apply below_alloc | apply pw_below_drewN | apply below_drew1) | exact HB.out)) hb); have n1_ := Aside0.mk (hbox); have n2_ := Aside0.mk ((by rw [hg]; exact (below_size (by repeat (first | (with_reducible first | exact HB.out | apply below_alloc | apply pw_below_drewN | apply below_drew1) | exact HB.out))) : w.heap.size ≤ gb338)); have n3_ := Aside0.mk ((by rw [hg]; exact (below_size (by repeat (first | (with_reducible first | exact HB.out | apply below_alloc | apply pw_below_drewN | apply below_drew1) | exact HB.out))) : w.heap.size ≤ gb338)); clear HB; have HB := n0_; have BK338 := n1_; have GW338 := n2_; have GE338 := n3_; clear n0_ n1_ n2_ n3_; clear hb hbox hg; have hcz3_0 : w2.cell? ⟨gb338, 0, none⟩ = some (.slice A0_0 l0_0.length c0_0) := (blk_cell BK338.out 0).trans rfl; have hcz3_1 : w2.cell? ⟨gb338, 1, none⟩ = some (.bool a0_1) := (blk_cell BK338.out 1).trans rfl; have hfz3_0 := blk_frozen BK338.out 0; have hfz3_1 := blk_frozen BK338.out 1)); try go_wp2_with (first | ((with_reducible refine gate_dst (N := 1) rfl ?_); refine box_event ?hg (N := 1) ?hd (cs := #[.slice A0_0 l0_0.length c0_0, .bool a0_1]) (t := 25) ?hr ?_; (case hd => rfl); (case hg => rfl); (case hr => first | (go_simp; done) | (go_simp; rfl)); intro gb338 hg w2 hbox hb; have n0_ := Aside0.mk (below_step (by repeat (first | (with_reducible first | exact HB.out | apply below_alloc | apply pw_below_drewN | apply below_drew1) | exact HB.out)) hb); have n1_ := Aside0.mk (hbox); have n2_ := Aside0.mk ((by rw [hg]; exact (below_size (by repeat (first | (with_reducible first | exact HB.out | apply below_alloc | apply pw_below_drewN | apply below_drew1) | exact HB.out))) : w.heap.size ≤ gb338)); have n3_ := Aside0.mk ((by rw [hg]; exact (below_size (by repeat (first | (with_reducible first | exact HB.out | apply below_alloc | apply pw_below_drewN | apply below_drew1) | exact HB.out))) : w.heap.size ≤ gb338)); clear HB; have HB := n0_; have BK338 := n1_; have GW338 := n2_; have GE338 := n3_; clear n0_ n1_ n2_ n3_; clear hb hbox hg; have hcz3_0 : w2.cell? ⟨gb338, 0, none⟩ = some (.slice A0_0 l0_0.length c0_0) := (blk_cell BK338.out 0).trans rfl; have hcz3_1 : w2.cell? ⟨gb338, 1, none⟩ = some (.bool a0_1) := (blk_cell BK338.out 1).trans rfl; have hfz3_0 := blk_frozen BK338.out 0; have hfz3_1 := blk_frozen BK338.out 1)))
  go_loopg [4, 12] k (fun kq v4 v12 w' => ∃ (x4_1 : Int) (x12_1 : Int), v4 = .int .i64 x4_1 ∧ v12 = .int .i64 x12_1 ∧ Aside0 (stockyardref03_Kinds.l0 kq x4_1 l0_0 (l0_0.length : Int) x12_1 l0_0 a0_1 = some (r1, r2)) ∧ Aside0 (kq ≤ k) ∧ Aside0 (w'.heap[gb338]? = some (.cells #[(.slice A0_0 l0_0.length c0_0), .bool a0_1] 25 (0, 0))) ∧ Aside0 (Below w.heap.size w w'))
  case atStart => exact ⟨(0), (0), (by first | rfl | (simp; done) | (simp [*]; done)), (by first | rfl | (simp; done) | (simp [*]; done)), H', ⟨Nat.le_refl _⟩, ⟨by (with_reducible repeat (first | refine blk_drewN ?_ _ | refine blk_drew ?_ | refine blk_alloc ?_ _)); exact BK338.out⟩, ⟨by repeat (first | (with_reducible first | exact HB.out | apply below_alloc | apply pw_below_drewN | apply below_drew1 | refine below_set ?_ GE338.out) | exact HB.out)⟩⟩
  case round =>
    clear H'
    try clear p2
    try clear c3
    try clear hcz3_0
    try clear hcz3_1
    try clear hfz3_0
    try clear hfz3_1
    obtain ⟨x4_1, x12_1, rfl, rfl, HA, HK1, BK338, HB⟩ := hrel
    cases gk with
    | zero => exact absurd HA.out (by simp [stockyardref03_Kinds.l0])
    | succ k1 =>
      have H := HA.out
      clear HA
      simp only [stockyardref03_Kinds.l0] at H
      by_cases c4 : x12_1 < (l0_0.length : Int)
      · rw [if_pos c4] at H
        have c4b0 : decide (x12_1 < (l0_0.length : Int)) = true := decide_eq_true c4
        clear c4
        by_cases c5 : 0 ≤ x12_1
        · rw [if_pos c5] at H
          have c5b0 : decide (0 ≤ x12_1) = true := decide_eq_true c5
          clear c5
          by_cases c6 : x12_1 < (l0_0.length : Int)
          · rw [if_pos c6] at H
            have c6b0 : decide (x12_1 < (l0_0.length : Int)) = true := decide_eq_true c6
            clear c6
            replace H := Option.bind_eq_some_iff.mp H
            obtain ⟨⟨t340, t341⟩, A70, H⟩ := H
            replace H : (if t341 = true then (stockyardref03_Kinds.l0 k1 (wrap64 (x4_1 + 1)) l0_0 (l0_0.length : Int) (wrap64 (x12_1 + 1)) l0_0 a0_1) else (stockyardref03_Kinds.l0 k1 x4_1 l0_0 (l0_0.length : Int) (wrap64 (x12_1 + 1)) l0_0 a0_1)) = some (r1, r2) := H
            have A7 := Aside0.mk A70
            clear A70
            by_cases c8 : t341 = true
            · subst c8
              have H1 : (stockyardref03_Kinds.l0 k1 (wrap64 (x4_1 + 1)) l0_0 (l0_0.length : Int) (wrap64 (x12_1 + 1)) l0_0 a0_1) = some (r1, r2) := by rw [if_pos rfl] at H; exact H
              clear H
              have H := H1
              clear H1
              have H' := Aside0.mk H
              clear H
              have p339 : 0 ≤ (x12_1 : Int) := of_decide_eq_true (by first | (with_reducible assumption) | assumption)
              have q339 : x12_1 < (l0_0.length : Int) := of_decide_eq_true (by first | (with_reducible assumption) | assumption)
              obtain ⟨ad339, e339, hx339_0⟩ := Kd.at_string HR0_0.out x12_1 p339 q339
              cases e339
              replace hx339_0 := (HB.out.cell (World.block_lt_of_cell? w _ hx339_0)).trans hx339_0
              replace p339 := eq_true p339
              replace q339 := eq_true q339
              go_wp2_with (first | (go_at_call 55; (with_reducible refine (stockyardref03_Star.calls k1 (rdOf ByteArray.empty l0_0 x12_1) t340 true _ A7.out).mono ?_); rintro e w' ⟨rfl, ⟨nd, rfl⟩⟩; (try first | exact ⟨rfl, _, World.drewN_drewN _ _ _⟩ | exact ⟨rfl, _, Eq.trans (World.drewN_drewN _ _ _) (congrArg (World.drewN _) (Nat.add_assoc _ _ _))⟩)))
              repeat (go_quiet (first | (go_at_call 55; (with_reducible refine (stockyardref03_Star.calls k1 (rdOf ByteArray.empty l0_0 x12_1) t340 true _ A7.out).mono ?_); rintro e w' ⟨rfl, ⟨nd, rfl⟩⟩; (try first | exact ⟨rfl, _, World.drewN_drewN _ _ _⟩ | exact ⟨rfl, _, Eq.trans (World.drewN_drewN _ _ _) (congrArg (World.drewN _) (Nat.add_assoc _ _ _))⟩))); try go_wp2_with (first | (go_at_call 55; (with_reducible refine (stockyardref03_Star.calls k1 (rdOf ByteArray.empty l0_0 x12_1) t340 true _ A7.out).mono ?_); rintro e w' ⟨rfl, ⟨nd, rfl⟩⟩; (try first | exact ⟨rfl, _, World.drewN_drewN _ _ _⟩ | exact ⟨rfl, _, Eq.trans (World.drewN_drewN _ _ _) (congrArg (World.drewN _) (Nat.add_assoc _ _ _))⟩))))
              go_roundg k1
              case measure => have := HK1.out; omega
              case rel => exact ⟨(wrap64 (x4_1 + 1)), (wrap64 (x12_1 + 1)), (by first | rfl | (simp; done) | (simp [*]; done)), (by first | rfl | (simp; done) | (simp [*]; done)), H', ⟨by have := HK1.out; omega⟩, ⟨by (with_reducible repeat (first | refine blk_drewN ?_ _ | refine blk_drew ?_ | refine blk_alloc ?_ _)); exact BK338.out⟩, ⟨by repeat (first | (with_reducible first | exact HB.out | apply below_alloc | apply pw_below_drewN | apply below_drew1 | refine below_set ?_ GE338.out) | exact HB.out)⟩⟩
            · replace c8 := Bool.eq_false_iff.mpr c8
              subst c8
              have H1 : (stockyardref03_Kinds.l0 k1 x4_1 l0_0 (l0_0.length : Int) (wrap64 (x12_1 + 1)) l0_0 a0_1) = some (r1, r2) := by rw [if_neg (show ¬ (false = true) by decide)] at H; exact H
              clear H
              have H := H1
              clear H1
              have H' := Aside0.mk H
              clear H
              have p339 : 0 ≤ (x12_1 : Int) := of_decide_eq_true (by first | (with_reducible assumption) | assumption)
              have q339 : x12_1 < (l0_0.length : Int) := of_decide_eq_true (by first | (with_reducible assumption) | assumption)
              obtain ⟨ad339, e339, hx339_0⟩ := Kd.at_string HR0_0.out x12_1 p339 q339
              cases e339
              replace hx339_0 := (HB.out.cell (World.block_lt_of_cell? w _ hx339_0)).trans hx339_0
              replace p339 := eq_true p339
              replace q339 := eq_true q339
              go_wp2_with (first | (go_at_call 55; (with_reducible refine (stockyardref03_Star.calls k1 (rdOf ByteArray.empty l0_0 x12_1) t340 false _ A7.out).mono ?_); rintro e w' ⟨rfl, ⟨nd, rfl⟩⟩; (try first | exact ⟨rfl, _, World.drewN_drewN _ _ _⟩ | exact ⟨rfl, _, Eq.trans (World.drewN_drewN _ _ _) (congrArg (World.drewN _) (Nat.add_assoc _ _ _))⟩)))
              repeat (go_quiet (first | (go_at_call 55; (with_reducible refine (stockyardref03_Star.calls k1 (rdOf ByteArray.empty l0_0 x12_1) t340 false _ A7.out).mono ?_); rintro e w' ⟨rfl, ⟨nd, rfl⟩⟩; (try first | exact ⟨rfl, _, World.drewN_drewN _ _ _⟩ | exact ⟨rfl, _, Eq.trans (World.drewN_drewN _ _ _) (congrArg (World.drewN _) (Nat.add_assoc _ _ _))⟩))); try go_wp2_with (first | (go_at_call 55; (with_reducible refine (stockyardref03_Star.calls k1 (rdOf ByteArray.empty l0_0 x12_1) t340 false _ A7.out).mono ?_); rintro e w' ⟨rfl, ⟨nd, rfl⟩⟩; (try first | exact ⟨rfl, _, World.drewN_drewN _ _ _⟩ | exact ⟨rfl, _, Eq.trans (World.drewN_drewN _ _ _) (congrArg (World.drewN _) (Nat.add_assoc _ _ _))⟩))))
              go_roundg k1
              case measure => have := HK1.out; omega
              case rel => exact ⟨(x4_1), (wrap64 (x12_1 + 1)), (by first | rfl | (simp; done) | (simp [*]; done)), (by first | rfl | (simp; done) | (simp [*]; done)), H', ⟨by have := HK1.out; omega⟩, ⟨by (with_reducible repeat (first | refine blk_drewN ?_ _ | refine blk_drew ?_ | refine blk_alloc ?_ _)); exact BK338.out⟩, ⟨by repeat (first | (with_reducible first | exact HB.out | apply below_alloc | apply pw_below_drewN | apply below_drew1 | refine below_set ?_ GE338.out) | exact HB.out)⟩⟩
          · rw [if_neg c6] at H
            exact absurd H (by simp)
        · rw [if_neg c5] at H
          exact absurd H (by simp)
      · rw [if_neg c4] at H
        have c4b0 : decide (x12_1 < (l0_0.length : Int)) = false := decide_eq_false c4
        clear c4
        simp only [Option.some.injEq, Prod.mk.injEq] at H
        obtain ⟨rfl, rfl⟩ := H
        have hcz9_0 : wr.cell? ⟨gb338, 0, none⟩ = some (.slice A0_0 l0_0.length c0_0) := (blk_cell BK338.out 0).trans rfl
        have hcz9_1 : wr.cell? ⟨gb338, 1, none⟩ = some (.bool a0_1) := (blk_cell BK338.out 1).trans rfl
        have hfz9_0 := blk_frozen BK338.out 0
        have hfz9_1 := blk_frozen BK338.out 1
        go_wp2
        repeat (go_quiet (fail); try go_wp2)
        go_ret2
        exact ⟨by first | rfl | (simp [errW_none, errW_some] <;> rfl) | (simp [*, errW_none, errW_some] <;> rfl), by repeat (first | (with_reducible first | exact HB.out | apply below_alloc | apply pw_below_drewN | apply below_drew1 | refine below_set ?_ GE338.out) | exact HB.out)⟩

end Go.Proofs.YtkakemojljeffaaDoor.P

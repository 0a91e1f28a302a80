-- Written by a program of this session (wip/gen.py) over the kit's print: each Go function as a plain Lean function, and the proof that the Go code comes to it. Nothing here is trusted: Lean checks it.
import Derived.Test.YtnfpbnnhijiflaaDoorPx0
import Derived.Test.YtnfpbnnhijiflaaDoorPx3
import Derived.Test.YtnfpbnnhijiflaaDoorPx6
import Derived.Test.YtnfpbnnhijiflaaDoorPx7
import Derived.Test.YtnfpbnnhijiflaaDoorPx13
namespace Go.Proofs.YtnfpbnnhijiflaaDoor.P
open Go.RowKit Go.Proofs.YtnfpbnnhijiflaaDoorW.PrintWords Go.Proofs.YtnfpbnnhijiflaaDoorW.PrintLast Go.Proofs.YtnfpbnnhijiflaaDoorW.PrintMore
attribute [local go_sem] str_gtr str_leq str_geq max2_int min2_int max_two min_two max_three min_three max_four min_four   -- for this text's walks alone
set_option linter.unusedVariables false
set_option linter.unusedSimpArgs false

/-! ### stockyardref03_Match: function 26 -/
mutual
def stockyardref03_Match.j0 : Nat → List ByteArray → Int → Bool → List ByteArray → Bool → Option (List ByteArray × Bool)
  | 0, _, _, _, _, _ => none
  | k + 1, x6, x8, x57, x375000, x375001 => if x57 = true then (some (([] : List ByteArray), false)) else (stockyardref03_Match.l0 k x6 x8 ([] : List ByteArray) x375000 (x375000.length : Int) 0 x375000 x375001)
def stockyardref03_Match.l0 : Nat → List ByteArray → Int → List ByteArray → List ByteArray → Int → Int → List ByteArray → Bool → Option (List ByteArray × Bool)
  | 0, _, _, _, _, _, _, _, _ => none
  | k + 1, x6, x8, x9, x59, x60, x61, x375000, x375001 => if x61 < x60 then (if 0 ≤ x61 then (if x61 < (x59.length : Int) then (if x61 < (x6.length : Int) then ((stockyardref03_Capture.f k (rdOf ByteArray.empty x59 x61) (rdOf ByteArray.empty x6 x61)).bind fun bt390 => (if bt390.2 = true then ((stockyardref03_Star.f k (rdOf ByteArray.empty x59 x61)).bind fun bt392 => (if bt392.2 = true then (if x9.length < 8796093022208 then (stockyardref03_Match.l0 k x6 x8 (x9 ++ [bt390.1]) x59 x60 (wrap64 (x61 + 1)) x375000 x375001) else (none)) else (stockyardref03_Match.l0 k x6 x8 x9 x59 x60 (wrap64 (x61 + 1)) x375000 x375001))) else (some (([] : List ByteArray), false)))) else (none)) else (none)) else (none)) else (if x375001 = true then (if 0 ≤ x8 then (if x8 ≤ (x6.length : Int) then ((strings_Join.f (x6.drop (x8 : Int).toNat) (⟨#[47]⟩ : ByteArray)).bind fun t384 => (if x9.length < 8796093022208 then (some ((x9 ++ [t384]), true)) else (none))) else (none)) else (none)) else (some (x9, true)))
end
def stockyardref03_Match.f (k : Nat) (l0_0 : List ByteArray) (a0_1 : Bool) (a1 : ByteArray) : Option (List ByteArray × Bool) := (stockyardref02_Path.f k a1).bind fun bt375 => ((stockyardref03_Check.f k l0_0 a0_1).bind fun t379 => (if t379 = 0 then (if bt375.2 = true then (if (bt375.1.length : Int) < (l0_0.length : Int) then (stockyardref03_Match.j0 k bt375.1 (l0_0.length : Int) true l0_0 a0_1) else (if a0_1 = true then (stockyardref03_Match.j0 k bt375.1 (l0_0.length : Int) ((bt375.1.length : Int) == (l0_0.length : Int)) l0_0 a0_1) else (if (bt375.1.length : Int) > (l0_0.length : Int) then (stockyardref03_Match.j0 k bt375.1 (l0_0.length : Int) true l0_0 a0_1) else (stockyardref03_Match.j0 k bt375.1 (l0_0.length : Int) false l0_0 a0_1)))) else (stockyardref03_Match.j0 k bt375.1 (l0_0.length : Int) true l0_0 a0_1)) else (stockyardref03_Match.j0 k bt375.1 (l0_0.length : Int) true l0_0 a0_1)))
theorem stockyardref03_Match.mono_l : ∀ k, (∀ y0 y1 y2 y3 y4, LeO (stockyardref03_Match.j0 k y0 y1 y2 y3 y4) (stockyardref03_Match.j0 (k + 1) y0 y1 y2 y3 y4)) ∧ (∀ y0 y1 y2 y3 y4 y5 y6 y7, LeO (stockyardref03_Match.l0 k y0 y1 y2 y3 y4 y5 y6 y7) (stockyardref03_Match.l0 (k + 1) y0 y1 y2 y3 y4 y5 y6 y7))
  | 0 => ⟨fun _ _ _ _ _ r h => by simp [stockyardref03_Match.j0] at h, fun _ _ _ _ _ _ _ _ r h => by simp [stockyardref03_Match.l0] at h⟩
  | k + 1 => by
    obtain ⟨ih0, ih1⟩ := stockyardref03_Match.mono_l k
    refine ⟨?_, ?_⟩
    · intro y0 y1 y2 y3 y4
      unfold stockyardref03_Match.j0
      repeat' first
      | (with_reducible exact ih0 _ _ _ _ _)
      | (with_reducible exact ih1 _ _ _ _ _ _ _ _)
      | (with_reducible exact stockyardref02_Path.mono _ _)
      | (with_reducible exact stockyardref03_Capture.mono _ _ _)
      | (with_reducible exact stockyardref03_Check.mono _ _ _)
      | (with_reducible exact stockyardref03_Star.mono _ _)
      | (with_reducible exact LeO.refl _)
      | (with_reducible exact LeO.none _)
      | (with_reducible refine LeO.ite ?_ ?_)
      | (with_reducible refine LeO.bind ?_ (fun _ => ?_))
      | exact ih0 _ _ _ _ _
      | exact ih1 _ _ _ _ _ _ _ _
      | exact stockyardref02_Path.mono _ _
      | exact stockyardref03_Capture.mono _ _ _
      | exact stockyardref03_Check.mono _ _ _
      | exact stockyardref03_Star.mono _ _
      | exact LeO.none _
      | refine LeO.ite ?_ ?_
      | refine LeO.bind ?_ (fun _ => ?_)
    · intro y0 y1 y2 y3 y4 y5 y6 y7
      unfold stockyardref03_Match.l0
      repeat' first
      | (with_reducible exact ih0 _ _ _ _ _)
      | (with_reducible exact ih1 _ _ _ _ _ _ _ _)
      | (with_reducible exact stockyardref02_Path.mono _ _)
      | (with_reducible exact stockyardref03_Capture.mono _ _ _)
      | (with_reducible exact stockyardref03_Check.mono _ _ _)
      | (with_reducible exact stockyardref03_Star.mono _ _)
      | (with_reducible exact LeO.refl _)
      | (with_reducible exact LeO.none _)
      | (with_reducible refine LeO.ite ?_ ?_)
      | (with_reducible refine LeO.bind ?_ (fun _ => ?_))
      | exact ih0 _ _ _ _ _
      | exact ih1 _ _ _ _ _ _ _ _
      | exact stockyardref02_Path.mono _ _
      | exact stockyardref03_Capture.mono _ _ _
      | exact stockyardref03_Check.mono _ _ _
      | exact stockyardref03_Star.mono _ _
      | exact LeO.none _
      | refine LeO.ite ?_ ?_
      | refine LeO.bind ?_ (fun _ => ?_)
theorem stockyardref03_Match.mono : ∀ a0 a1 a2 k, LeO (stockyardref03_Match.f k a0 a1 a2) (stockyardref03_Match.f (k + 1) a0 a1 a2) := by
  intro a0 a1 a2 k
  obtain ⟨ih0, ih1⟩ := stockyardref03_Match.mono_l k
  unfold stockyardref03_Match.f
  repeat' first
      | (with_reducible exact ih0 _ _ _ _ _)
      | (with_reducible exact ih1 _ _ _ _ _ _ _ _)
      | (with_reducible exact stockyardref02_Path.mono _ _)
      | (with_reducible exact stockyardref03_Capture.mono _ _ _)
      | (with_reducible exact stockyardref03_Check.mono _ _ _)
      | (with_reducible exact stockyardref03_Star.mono _ _)
      | (with_reducible exact LeO.refl _)
      | (with_reducible exact LeO.none _)
      | (with_reducible refine LeO.ite ?_ ?_)
      | (with_reducible refine LeO.bind ?_ (fun _ => ?_))
      | exact ih0 _ _ _ _ _
      | exact ih1 _ _ _ _ _ _ _ _
      | exact stockyardref02_Path.mono _ _
      | exact stockyardref03_Capture.mono _ _ _
      | exact stockyardref03_Check.mono _ _ _
      | exact stockyardref03_Star.mono _ _
      | exact LeO.none _
      | refine LeO.ite ?_ ?_
      | refine LeO.bind ?_ (fun _ => ?_)
set_option maxHeartbeats 8000000 in
set_option maxRecDepth 100000 in
theorem stockyardref03_Match.calls (k : Nat) (A0_0 : Option Addr) (c0_0 : Nat) (l0_0 : List ByteArray) (a0_1 : Bool) (a1 : ByteArray) (r1 : List ByteArray) (r2 : Bool) (w : World) (hr0_0 : Kd.C Kd.string w A0_0 l0_0.length l0_0) (hc0_0 : l0_0.length ≤ c0_0) (h : stockyardref03_Match.f k l0_0 a0_1 a1 = some (r1, r2)) :
    Calls Tryd.prog 26 #[.agg #[.slice A0_0 l0_0.length c0_0, .bool a0_1], .string a1] w fun e w' => ∃ v0_ : Value, e = .returned (.tuple #[v0_, .bool r2]) ∧ Kd.R Kd.string 9 w' w.heap.size (fun _ => True) v0_ r1 ∧ Below w.heap.size w w' := by
  have hu24 := Tryd.underlying24
  have HR0_0 := Aside0.mk hr0_0
  have HC0_0 := Aside0.mk hc0_0
  clear hr0_0 hc0_0
  have HB := Aside0.mk (Below.refl w.heap.size w)
  have H : ((stockyardref02_Path.f k a1).bind fun bt375 => ((stockyardref03_Check.f k l0_0 a0_1).bind fun t379 => (if t379 = 0 then (if bt375.2 = true then (if (bt375.1.length : Int) < (l0_0.length : Int) then (stockyardref03_Match.j0 k bt375.1 (l0_0.length : Int) true l0_0 a0_1) else (if a0_1 = true then (stockyardref03_Match.j0 k bt375.1 (l0_0.length : Int) ((bt375.1.length : Int) == (l0_0.length : Int)) l0_0 a0_1) else (if (bt375.1.length : Int) > (l0_0.length : Int) then (stockyardref03_Match.j0 k bt375.1 (l0_0.length : Int) true l0_0 a0_1) else (stockyardref03_Match.j0 k bt375.1 (l0_0.length : Int) false l0_0 a0_1)))) else (stockyardref03_Match.j0 k bt375.1 (l0_0.length : Int) true l0_0 a0_1)) else (stockyardref03_Match.j0 k bt375.1 (l0_0.length : Int) true l0_0 a0_1)))) = some (r1, r2) := h
  clear h
  replace H := Option.bind_eq_some_iff.mp H
  obtain ⟨⟨t375, t376⟩, A30, H⟩ := H
  replace H : ((stockyardref03_Check.f k l0_0 a0_1).bind fun t379 => (if t379 = 0 then (if t376 = true then (if (t375.length : Int) < (l0_0.length : Int) then (stockyardref03_Match.j0 k t375 (l0_0.length : Int) true l0_0 a0_1) else (if a0_1 = true then (stockyardref03_Match.j0 k t375 (l0_0.length : Int) ((t375.length : Int) == (l0_0.length : Int)) l0_0 a0_1) else (if (t375.length : Int) > (l0_0.length : Int) then (stockyardref03_Match.j0 k t375 (l0_0.length : Int) true l0_0 a0_1) else (stockyardref03_Match.j0 k t375 (l0_0.length : Int) false l0_0 a0_1)))) else (stockyardref03_Match.j0 k t375 (l0_0.length : Int) true l0_0 a0_1)) else (stockyardref03_Match.j0 k t375 (l0_0.length : Int) true l0_0 a0_1))) = some (r1, r2) := H
  have A3 := Aside0.mk A30
  clear A30
  have HC4 := Aside0.mk H
  clear H
  go_enter Tryd.func26, Tryd.ntmps26
  go_upto_region 3 with (first | ((with_reducible refine gate_dst (N := 2) rfl ?_); (try (refine gate_guard (by rfl) ?_; dsimp only)); refine box_event ?hg (N := 2) ?hd (cs := #[.slice A0_0 l0_0.length c0_0, .bool a0_1]) (t := 24) ?hr ?_; (case hd => rfl); (case hg => rfl); (case hr => first | (go_simp; done) | (go_simp; rfl)); intro gb374 hg w5 hbox hb; have n0_ := Aside0.mk (below_step (by repeat (first | (with_reducible first | exact HB.out | apply below_alloc | apply pw_below_drewN | apply below_drew1) | exact HB.out)) hb); have n1_ := Aside0.mk (hbox); have n2_ := Aside0.mk ((by rw [hg]; exact (below_size (by repeat (first | (with_reducible first | exact HB.out | apply below_alloc | apply pw_below_drewN | apply below_drew1) | exact HB.out))) : w.heap.size ≤ gb374)); have n3_ := Aside0.mk ((by rw [hg]; exact (below_size (by repeat (first | (with_reducible first | exact HB.out | apply below_alloc | apply pw_below_drewN | apply below_drew1) | exact HB.out))) : w.heap.size ≤ gb374)); clear HB; have HB := n0_; have BK374 := n1_; have GW374 := n2_; have GE374 := n3_; clear n0_ n1_ n2_ n3_; clear hb hbox hg) | ((with_reducible refine gate_callee (f := 39) rfl ?_); refine goesL_ (some 18) rfl rfl Tryd.func39 (by kernel_rfl) rfl #[.string a1] rfl (by (try simp only [List.map_toArray, List.map_cons, List.map_nil]); first | done | rfl | (simp only [List.length_drop, List.length_take]; rfl)) ?_; (with_reducible refine (stockyardref02_Path.calls k a1 t375 t376 _ A3.out).mono ?_); rintro e w6 ⟨v377, rfl, ho0, hb⟩; refine ⟨_, rfl, ?_⟩; have n0_ := Aside0.mk (Kd.R_lower ho0 (below_size (by repeat (first | (with_reducible first | exact HB.out | apply below_alloc | apply pw_below_drewN | apply below_drew1 | refine below_set ?_ GE374.out) | exact HB.out)))); have n1_ := Aside0.mk (blk_below (g := gb374) (o := .cells #[.slice A0_0 l0_0.length c0_0, .bool a0_1] 24 (0, 0)) (by (with_reducible repeat (first | refine blk_drewN ?_ _ | refine blk_drew ?_ | refine blk_alloc ?_ _)); exact BK374.out) hb); have n2_ := Aside0.mk (below_step (by repeat (first | (with_reducible first | exact HB.out | apply below_alloc | apply pw_below_drewN | apply below_drew1 | refine below_set ?_ GE374.out) | exact HB.out)) hb); clear BK374; clear HB; have HO378 := n0_; have BK374 := n1_; have HB := n2_; clear n0_ n1_ n2_; (try clear hb); (try clear hb2); (try clear hk); (try clear hi); (try clear ho0); have hcz7_0 : w6.cell? ⟨gb374, 0, none⟩ = some (.slice A0_0 l0_0.length c0_0) := (blk_cell BK374.out 0).trans rfl; have hcz7_1 : w6.cell? ⟨gb374, 1, none⟩ = some (.bool a0_1) := (blk_cell BK374.out 1).trans rfl; have hfz7_0 := blk_frozen BK374.out 0; have hfz7_1 := blk_frozen BK374.out 1))
  (try simp only [Act.put, List.setIfInBounds_toArray, List.set_cons_zero, List.set_cons_succ])
  go_cut [57] (fun v57 wc => ∃ (kq : Nat) (x57_3 : Bool), v57 = .bool x57_3 ∧ Aside0 (stockyardref03_Match.j0 kq t375 (l0_0.length : Int) x57_3 l0_0 a0_1 = some (r1, r2)) ∧ Aside0 (kq ≤ k) ∧ Aside0 (Kd.R Kd.string 9 wc w.heap.size (fun _ => True) v377 t375) ∧ Aside0 (wc.heap[gb374]? = some (.cells #[(.slice A0_0 l0_0.length c0_0), .bool a0_1] 24 (0, 0))) ∧ Aside0 (Below w.heap.size w wc))
  case first =>
    have H := HC4.out
    clear HC4
    replace H := Option.bind_eq_some_iff.mp H
    obtain ⟨t379, A80, H⟩ := H
    replace H : (if t379 = 0 then (if t376 = true then (if (t375.length : Int) < (l0_0.length : Int) then (stockyardref03_Match.j0 k t375 (l0_0.length : Int) true l0_0 a0_1) else (if a0_1 = true then (stockyardref03_Match.j0 k t375 (l0_0.length : Int) ((t375.length : Int) == (l0_0.length : Int)) l0_0 a0_1) else (if (t375.length : Int) > (l0_0.length : Int) then (stockyardref03_Match.j0 k t375 (l0_0.length : Int) true l0_0 a0_1) else (stockyardref03_Match.j0 k t375 (l0_0.length : Int) false l0_0 a0_1)))) else (stockyardref03_Match.j0 k t375 (l0_0.length : Int) true l0_0 a0_1)) else (stockyardref03_Match.j0 k t375 (l0_0.length : Int) true l0_0 a0_1)) = some (r1, r2) := H
    have A8 := Aside0.mk A80
    clear A80
    by_cases c9 : t379 = 0
    · rw [if_pos c9] at H
      have c9b0 : (t379 == 0) = true := beq_iff_eq.mpr c9
      have c9b1 : (t379 != 0) = false := bne_eq_false_iff_eq.mpr c9
      clear c9
      (first | rw [c9b0] | (simp only [i64_w, i32_w]; rw [c9b0]) | skip)
      by_cases c10 : t376 = true
      · subst c10
        have H1 : (if (t375.length : Int) < (l0_0.length : Int) then (stockyardref03_Match.j0 k t375 (l0_0.length : Int) true l0_0 a0_1) else (if a0_1 = true then (stockyardref03_Match.j0 k t375 (l0_0.length : Int) ((t375.length : Int) == (l0_0.length : Int)) l0_0 a0_1) else (if (t375.length : Int) > (l0_0.length : Int) then (stockyardref03_Match.j0 k t375 (l0_0.length : Int) true l0_0 a0_1) else (stockyardref03_Match.j0 k t375 (l0_0.length : Int) false l0_0 a0_1)))) = some (r1, r2) := by rw [if_pos rfl] at H; exact H
        clear H
        have H := H1
        clear H1
        by_cases c11 : (t375.length : Int) < (l0_0.length : Int)
        · rw [if_pos c11] at H
          have c11b0 : decide ((t375.length : Int) < (l0_0.length : Int)) = true := decide_eq_true c11
          have c11b1 : decide (t375.length < l0_0.length) = true := decide_eq_true (Int.ofNat_lt.mp c11)
          clear c11
          have H' := Aside0.mk H
          clear H
          have hcz12_0 : w6.cell? ⟨gb374, 0, none⟩ = some (.slice A0_0 l0_0.length c0_0) := (blk_cell BK374.out 0).trans rfl
          have hcz12_1 : w6.cell? ⟨gb374, 1, none⟩ = some (.bool a0_1) := (blk_cell BK374.out 1).trans rfl
          have hfz12_0 := blk_frozen BK374.out 0
          have hfz12_1 := blk_frozen BK374.out 1
          go_wp2_with (first | ((with_reducible refine gate_callee (f := 20) rfl ?_); refine goesL_ (some 25) rfl rfl Tryd.func20 (by kernel_rfl) rfl #[.agg #[.slice A0_0 l0_0.length c0_0, .bool a0_1]] rfl (by (try simp only [List.map_toArray, List.map_cons, List.map_nil]); first | done | rfl | (simp only [List.length_drop, List.length_take]; rfl)) ?_; (with_reducible refine (stockyardref03_Check.calls k _ _ l0_0 a0_1 t379 _ ?side1 ?side2 A8.out).mono ?_); (case side1 => repeat (first | exact (Kd.C_below HR0_0.out HB.out) | (with_reducible refine Kd.C_alloc ?_ _) | (with_reducible refine Kd.C_drewN ?_ _) | (with_reducible refine Kd.C_drew ?_))); (case side2 => exact HC0_0.out); rintro e w13 ⟨rfl, hb⟩; refine ⟨_, rfl, ?_⟩; have n0_ := Aside0.mk (Kd.R_below (by (with_reducible repeat (first | apply Kd.R_alloc | apply Kd.R_drewN | apply Kd.R_drew)); exact HO378.out) hb); have n1_ := Aside0.mk (blk_below (g := gb374) (o := .cells #[.slice A0_0 l0_0.length c0_0, .bool a0_1] 24 (0, 0)) (by (with_reducible repeat (first | refine blk_drewN ?_ _ | refine blk_drew ?_ | refine blk_alloc ?_ _)); exact BK374.out) hb); have n2_ := Aside0.mk (below_step (by repeat (first | (with_reducible first | exact HB.out | apply below_alloc | apply pw_below_drewN | apply below_drew1 | refine below_set ?_ GE374.out) | exact HB.out)) hb); clear HO378; clear BK374; clear HB; have HO378 := n0_; have BK374 := n1_; have HB := n2_; clear n0_ n1_ n2_; (try clear hb); (try clear hb2); (try clear hk); (try clear hi); obtain ⟨Ao14, co14, eo14⟩ := Kd.R_slice HO378.out; subst eo14))
          go_meet
          case rel => exact ⟨_, (true), (by first | rfl | (simp; done) | (simp [*]; done)), H', ⟨by first | omega | exact Nat.le_refl _⟩, ⟨by (with_reducible repeat (first | apply Kd.R_alloc | apply Kd.R_drewN | apply Kd.R_drew)); exact HO378.out⟩, ⟨by (with_reducible repeat (first | refine blk_drewN ?_ _ | refine blk_drew ?_ | refine blk_alloc ?_ _)); exact BK374.out⟩, ⟨by repeat (first | (with_reducible first | exact HB.out | apply below_alloc | apply pw_below_drewN | apply below_drew1 | refine below_set ?_ GE374.out) | exact HB.out)⟩⟩
        · rw [if_neg c11] at H
          have c11b0 : decide ((t375.length : Int) < (l0_0.length : Int)) = false := decide_eq_false c11
          have c11b1 : decide (t375.length < l0_0.length) = false := decide_eq_false (fun h => c11 (Int.ofNat_lt.mpr h))
          clear c11
          by_cases c15 : a0_1 = true
          · subst c15
            have H1 : (stockyardref03_Match.j0 k t375 (l0_0.length : Int) ((t375.length : Int) == (l0_0.length : Int)) l0_0 true) = some (r1, r2) := by rw [if_pos rfl] at H; exact H
            clear H
            have H := H1
            clear H1
            have H' := Aside0.mk H
            clear H
            have hcz16_0 : w6.cell? ⟨gb374, 0, none⟩ = some (.slice A0_0 l0_0.length c0_0) := (blk_cell BK374.out 0).trans rfl
            have hcz16_1 : w6.cell? ⟨gb374, 1, none⟩ = some (.bool true) := (blk_cell BK374.out 1).trans rfl
            have hfz16_0 := blk_frozen BK374.out 0
            have hfz16_1 := blk_frozen BK374.out 1
            go_wp2_with (first | ((with_reducible refine gate_callee (f := 20) rfl ?_); refine goesL_ (some 25) rfl rfl Tryd.func20 (by kernel_rfl) rfl #[.agg #[.slice A0_0 l0_0.length c0_0, .bool true]] rfl (by (try simp only [List.map_toArray, List.map_cons, List.map_nil]); first | done | rfl | (simp only [List.length_drop, List.length_take]; rfl)) ?_; (with_reducible refine (stockyardref03_Check.calls k _ _ l0_0 true t379 _ ?side1 ?side2 A8.out).mono ?_); (case side1 => repeat (first | exact (Kd.C_below HR0_0.out HB.out) | (with_reducible refine Kd.C_alloc ?_ _) | (with_reducible refine Kd.C_drewN ?_ _) | (with_reducible refine Kd.C_drew ?_))); (case side2 => exact HC0_0.out); rintro e w17 ⟨rfl, hb⟩; refine ⟨_, rfl, ?_⟩; have n0_ := Aside0.mk (Kd.R_below (by (with_reducible repeat (first | apply Kd.R_alloc | apply Kd.R_drewN | apply Kd.R_drew)); exact HO378.out) hb); have n1_ := Aside0.mk (blk_below (g := gb374) (o := .cells #[.slice A0_0 l0_0.length c0_0, .bool true] 24 (0, 0)) (by (with_reducible repeat (first | refine blk_drewN ?_ _ | refine blk_drew ?_ | refine blk_alloc ?_ _)); exact BK374.out) hb); have n2_ := Aside0.mk (below_step (by repeat (first | (with_reducible first | exact HB.out | apply below_alloc | apply pw_below_drewN | apply below_drew1 | refine below_set ?_ GE374.out) | exact HB.out)) hb); clear HO378; clear BK374; clear HB; have HO378 := n0_; have BK374 := n1_; have HB := n2_; clear n0_ n1_ n2_; (try clear hb); (try clear hb2); (try clear hk); (try clear hi); obtain ⟨Ao18, co18, eo18⟩ := Kd.R_slice HO378.out; subst eo18; have hcz19_0 : w17.cell? ⟨gb374, 0, none⟩ = some (.slice A0_0 l0_0.length c0_0) := (blk_cell BK374.out 0).trans rfl; have hcz19_1 : w17.cell? ⟨gb374, 1, none⟩ = some (.bool true) := (blk_cell BK374.out 1).trans rfl; have hfz19_0 := blk_frozen BK374.out 0; have hfz19_1 := blk_frozen BK374.out 1))
            go_meet
            case rel => exact ⟨_, (((t375.length : Int) == (l0_0.length : Int))), (by first | rfl | (simp; done) | (simp [*]; done)), H', ⟨by first | omega | exact Nat.le_refl _⟩, ⟨by (with_reducible repeat (first | apply Kd.R_alloc | apply Kd.R_drewN | apply Kd.R_drew)); exact HO378.out⟩, ⟨by (with_reducible repeat (first | refine blk_drewN ?_ _ | refine blk_drew ?_ | refine blk_alloc ?_ _)); exact BK374.out⟩, ⟨by repeat (first | (with_reducible first | exact HB.out | apply below_alloc | apply pw_below_drewN | apply below_drew1 | refine below_set ?_ GE374.out) | exact HB.out)⟩⟩
          · replace c15 := Bool.eq_false_iff.mpr c15
            subst c15
            have H1 : (if (t375.length : Int) > (l0_0.length : Int) then (stockyardref03_Match.j0 k t375 (l0_0.length : Int) true l0_0 false) else (stockyardref03_Match.j0 k t375 (l0_0.length : Int) false l0_0 false)) = some (r1, r2) := by rw [if_neg (show ¬ (false = true) by decide)] at H; exact H
            clear H
            have H := H1
            clear H1
            by_cases c20 : (t375.length : Int) > (l0_0.length : Int)
            · rw [if_pos c20] at H
              have c20b0 : decide ((l0_0.length : Int) < (t375.length : Int)) = true := decide_eq_true c20
              have c20b1 : decide (l0_0.length < t375.length) = true := decide_eq_true (Int.ofNat_lt.mp c20)
              clear c20
              have H' := Aside0.mk H
              clear H
              have hcz21_0 : w6.cell? ⟨gb374, 0, none⟩ = some (.slice A0_0 l0_0.length c0_0) := (blk_cell BK374.out 0).trans rfl
              have hcz21_1 : w6.cell? ⟨gb374, 1, none⟩ = some (.bool false) := (blk_cell BK374.out 1).trans rfl
              have hfz21_0 := blk_frozen BK374.out 0
              have hfz21_1 := blk_frozen BK374.out 1
              go_wp2_with (first | ((with_reducible refine gate_callee (f := 20) rfl ?_); refine goesL_ (some 25) rfl rfl Tryd.func20 (by kernel_rfl) rfl #[.agg #[.slice A0_0 l0_0.length c0_0, .bool false]] rfl (by (try simp only [List.map_toArray, List.map_cons, List.map_nil]); first | done | rfl | (simp only [List.length_drop, List.length_take]; rfl)) ?_; (with_reducible refine (stockyardref03_Check.calls k _ _ l0_0 false t379 _ ?side1 ?side2 A8.out).mono ?_); (case side1 => repeat (first | exact (Kd.C_below HR0_0.out HB.out) | (with_reducible refine Kd.C_alloc ?_ _) | (with_reducible refine Kd.C_drewN ?_ _) | (with_reducible refine Kd.C_drew ?_))); (case side2 => exact HC0_0.out); rintro e w22 ⟨rfl, hb⟩; refine ⟨_, rfl, ?_⟩; have n0_ := Aside0.mk (Kd.R_below (by (with_reducible repeat (first | apply Kd.R_alloc | apply Kd.R_drewN | apply Kd.R_drew)); exact HO378.out) hb); have n1_ := Aside0.mk (blk_below (g := gb374) (o := .cells #[.slice A0_0 l0_0.length c0_0, .bool false] 24 (0, 0)) (by (with_reducible repeat (first | refine blk_drewN ?_ _ | refine blk_drew ?_ | refine blk_alloc ?_ _)); exact BK374.out) hb); have n2_ := Aside0.mk (below_step (by repeat (first | (with_reducible first | exact HB.out | apply below_alloc | apply pw_below_drewN | apply below_drew1 | refine below_set ?_ GE374.out) | exact HB.out)) hb); clear HO378; clear BK374; clear HB; have HO378 := n0_; have BK374 := n1_; have HB := n2_; clear n0_ n1_ n2_; (try clear hb); (try clear hb2); (try clear hk); (try clear hi); obtain ⟨Ao23, co23, eo23⟩ := Kd.R_slice HO378.out; subst eo23; have hcz24_0 : w22.cell? ⟨gb374, 0, none⟩ = some (.slice A0_0 l0_0.length c0_0) := (blk_cell BK374.out 0).trans rfl; have hcz24_1 : w22.cell? ⟨gb374, 1, none⟩ = some (.bool false) := (blk_cell BK374.out 1).trans rfl; have hfz24_0 := blk_frozen BK374.out 0; have hfz24_1 := blk_frozen BK374.out 1))
              go_meet
              case rel => exact ⟨_, (true), (by first | rfl | (simp; done) | (simp [*]; done)), H', ⟨by first | omega | exact Nat.le_refl _⟩, ⟨by (with_reducible repeat (first | apply Kd.R_alloc | apply Kd.R_drewN | apply Kd.R_drew)); exact HO378.out⟩, ⟨by (with_reducible repeat (first | refine blk_drewN ?_ _ | refine blk_drew ?_ | refine blk_alloc ?_ _)); exact BK374.out⟩, ⟨by repeat (first | (with_reducible first | exact HB.out | apply below_alloc | apply pw_below_drewN | apply below_drew1 | refine below_set ?_ GE374.out) | exact HB.out)⟩⟩
            · rw [if_neg c20] at H
              have c20b0 : decide ((l0_0.length : Int) < (t375.length : Int)) = false := decide_eq_false c20
              have c20b1 : decide (l0_0.length < t375.length) = false := decide_eq_false (fun h => c20 (Int.ofNat_lt.mpr h))
              clear c20
              have H' := Aside0.mk H
              clear H
              have hcz25_0 : w6.cell? ⟨gb374, 0, none⟩ = some (.slice A0_0 l0_0.length c0_0) := (blk_cell BK374.out 0).trans rfl
              have hcz25_1 : w6.cell? ⟨gb374, 1, none⟩ = some (.bool false) := (blk_cell BK374.out 1).trans rfl
              have hfz25_0 := blk_frozen BK374.out 0
              have hfz25_1 := blk_frozen BK374.out 1
              go_wp2_with (first | ((with_reducible refine gate_callee (f := 20) rfl ?_); refine goesL_ (some 25) rfl rfl Tryd.func20 (by kernel_rfl) rfl #[.agg #[.slice A0_0 l0_0.length c0_0, .bool false]] rfl (by (try simp only [List.map_toArray, List.map_cons, List.map_nil]); first | done | rfl | (simp only [List.length_drop, List.length_take]; rfl)) ?_; (with_reducible refine (stockyardref03_Check.calls k _ _ l0_0 false t379 _ ?side1 ?side2 A8.out).mono ?_); (case side1 => repeat (first | exact (Kd.C_below HR0_0.out HB.out) | (with_reducible refine Kd.C_alloc ?_ _) | (with_reducible refine Kd.C_drewN ?_ _) | (with_reducible refine Kd.C_drew ?_))); (case side2 => exact HC0_0.out); rintro e w26 ⟨rfl, hb⟩; refine ⟨_, rfl, ?_⟩; have n0_ := Aside0.mk (Kd.R_below (by (with_reducible repeat (first | apply Kd.R_alloc | apply Kd.R_drewN | apply Kd.R_drew)); exact HO378.out) hb); have n1_ := Aside0.mk (blk_below (g := gb374) (o := .cells #[.slice A0_0 l0_0.length c0_0, .bool false] 24 (0, 0)) (by (with_reducible repeat (first | refine blk_drewN ?_ _ | refine blk_drew ?_ | refine blk_alloc ?_ _)); exact BK374.out) hb); have n2_ := Aside0.mk (below_step (by repeat (first | (with_reducible first | exact HB.out | apply below_alloc | apply pw_below_drewN | apply below_drew1 | refine below_set ?_ GE374.out) | exact HB.out)) hb); clear HO378; clear BK374; clear HB; have HO378 := n0_; have BK374 := n1_; have HB := n2_; clear n0_ n1_ n2_; (try clear hb); (try clear hb2); (try clear hk); (try clear hi); obtain ⟨Ao27, co27, eo27⟩ := Kd.R_slice HO378.out; subst eo27; have hcz28_0 : w26.cell? ⟨gb374, 0, none⟩ = some (.slice A0_0 l0_0.length c0_0) := (blk_cell BK374.out 0).trans rfl; have hcz28_1 : w26.cell? ⟨gb374, 1, none⟩ = some (.bool false) := (blk_cell BK374.out 1).trans rfl; have hfz28_0 := blk_frozen BK374.out 0; have hfz28_1 := blk_frozen BK374.out 1))
              go_meet
              case rel => exact ⟨_, (false), (by first | rfl | (simp; done) | (simp [*]; done)), H', ⟨by first | omega | exact Nat.le_refl _⟩, ⟨by (with_reducible repeat (first | apply Kd.R_alloc | apply Kd.R_drewN | apply Kd.R_drew)); exact HO378.out⟩, ⟨by (with_reducible repeat (first | refine blk_drewN ?_ _ | refine blk_drew ?_ | refine blk_alloc ?_ _)); exact BK374.out⟩, ⟨by repeat (first | (with_reducible first | exact HB.out | apply below_alloc | apply pw_below_drewN | apply below_drew1 | refine below_set ?_ GE374.out) | exact HB.out)⟩⟩
      · replace c10 := Bool.eq_false_iff.mpr c10
        subst c10
        have H1 : (stockyardref03_Match.j0 k t375 (l0_0.length : Int) true l0_0 a0_1) = some (r1, r2) := by rw [if_neg (show ¬ (false = true) by decide)] at H; exact H
        clear H
        have H := H1
        clear H1
        have H' := Aside0.mk H
        clear H
        have hcz29_0 : w6.cell? ⟨gb374, 0, none⟩ = some (.slice A0_0 l0_0.length c0_0) := (blk_cell BK374.out 0).trans rfl
        have hcz29_1 : w6.cell? ⟨gb374, 1, none⟩ = some (.bool a0_1) := (blk_cell BK374.out 1).trans rfl
        have hfz29_0 := blk_frozen BK374.out 0
        have hfz29_1 := blk_frozen BK374.out 1
        go_wp2_with (first | ((with_reducible refine gate_callee (f := 20) rfl ?_); refine goesL_ (some 25) rfl rfl Tryd.func20 (by kernel_rfl) rfl #[.agg #[.slice A0_0 l0_0.length c0_0, .bool a0_1]] rfl (by (try simp only [List.map_toArray, List.map_cons, List.map_nil]); first | done | rfl | (simp only [List.length_drop, List.length_take]; rfl)) ?_; (with_reducible refine (stockyardref03_Check.calls k _ _ l0_0 a0_1 t379 _ ?side1 ?side2 A8.out).mono ?_); (case side1 => repeat (first | exact (Kd.C_below HR0_0.out HB.out) | (with_reducible refine Kd.C_alloc ?_ _) | (with_reducible refine Kd.C_drewN ?_ _) | (with_reducible refine Kd.C_drew ?_))); (case side2 => exact HC0_0.out); rintro e w30 ⟨rfl, hb⟩; refine ⟨_, rfl, ?_⟩; have n0_ := Aside0.mk (Kd.R_below (by (with_reducible repeat (first | apply Kd.R_alloc | apply Kd.R_drewN | apply Kd.R_drew)); exact HO378.out) hb); have n1_ := Aside0.mk (blk_below (g := gb374) (o := .cells #[.slice A0_0 l0_0.length c0_0, .bool a0_1] 24 (0, 0)) (by (with_reducible repeat (first | refine blk_drewN ?_ _ | refine blk_drew ?_ | refine blk_alloc ?_ _)); exact BK374.out) hb); have n2_ := Aside0.mk (below_step (by repeat (first | (with_reducible first | exact HB.out | apply below_alloc | apply pw_below_drewN | apply below_drew1 | refine below_set ?_ GE374.out) | exact HB.out)) hb); clear HO378; clear BK374; clear HB; have HO378 := n0_; have BK374 := n1_; have HB := n2_; clear n0_ n1_ n2_; (try clear hb); (try clear hb2); (try clear hk); (try clear hi)))
        go_meet
        case rel => exact ⟨_, (true), (by first | rfl | (simp; done) | (simp [*]; done)), H', ⟨by first | omega | exact Nat.le_refl _⟩, ⟨by (with_reducible repeat (first | apply Kd.R_alloc | apply Kd.R_drewN | apply Kd.R_drew)); exact HO378.out⟩, ⟨by (with_reducible repeat (first | refine blk_drewN ?_ _ | refine blk_drew ?_ | refine blk_alloc ?_ _)); exact BK374.out⟩, ⟨by repeat (first | (with_reducible first | exact HB.out | apply below_alloc | apply pw_below_drewN | apply below_drew1 | refine below_set ?_ GE374.out) | exact HB.out)⟩⟩
    · rw [if_neg c9] at H
      have c9b0 : (t379 == 0) = false := beq_eq_false_iff_ne.mpr c9
      have c9b1 : (t379 != 0) = true := bne_iff_ne.mpr c9
      (first | rw [c9b0] | (simp only [i64_w, i32_w]; rw [c9b0]) | skip)
      have H' := Aside0.mk H
      clear H
      have hcz31_0 : w6.cell? ⟨gb374, 0, none⟩ = some (.slice A0_0 l0_0.length c0_0) := (blk_cell BK374.out 0).trans rfl
      have hcz31_1 : w6.cell? ⟨gb374, 1, none⟩ = some (.bool a0_1) := (blk_cell BK374.out 1).trans rfl
      have hfz31_0 := blk_frozen BK374.out 0
      have hfz31_1 := blk_frozen BK374.out 1
      go_wp2_with (first | ((with_reducible refine gate_callee (f := 20) rfl ?_); refine goesL_ (some 25) rfl rfl Tryd.func20 (by kernel_rfl) rfl #[.agg #[.slice A0_0 l0_0.length c0_0, .bool a0_1]] rfl (by (try simp only [List.map_toArray, List.map_cons, List.map_nil]); first | done | rfl | (simp only [List.length_drop, List.length_take]; rfl)) ?_; (with_reducible refine (stockyardref03_Check.calls k _ _ l0_0 a0_1 t379 _ ?side1 ?side2 A8.out).mono ?_); (case side1 => repeat (first | exact (Kd.C_below HR0_0.out HB.out) | (with_reducible refine Kd.C_alloc ?_ _) | (with_reducible refine Kd.C_drewN ?_ _) | (with_reducible refine Kd.C_drew ?_))); (case side2 => exact HC0_0.out); rintro e w32 ⟨rfl, hb⟩; refine ⟨_, rfl, ?_⟩; have n0_ := Aside0.mk (Kd.R_below (by (with_reducible repeat (first | apply Kd.R_alloc | apply Kd.R_drewN | apply Kd.R_drew)); exact HO378.out) hb); have n1_ := Aside0.mk (blk_below (g := gb374) (o := .cells #[.slice A0_0 l0_0.length c0_0, .bool a0_1] 24 (0, 0)) (by (with_reducible repeat (first | refine blk_drewN ?_ _ | refine blk_drew ?_ | refine blk_alloc ?_ _)); exact BK374.out) hb); have n2_ := Aside0.mk (below_step (by repeat (first | (with_reducible first | exact HB.out | apply below_alloc | apply pw_below_drewN | apply below_drew1 | refine below_set ?_ GE374.out) | exact HB.out)) hb); clear HO378; clear BK374; clear HB; have HO378 := n0_; have BK374 := n1_; have HB := n2_; clear n0_ n1_ n2_; (try clear hb); (try clear hb2); (try clear hk); (try clear hi)))
      go_meet
      case rel => exact ⟨_, (true), (by first | rfl | (simp; done) | (simp [*]; done)), H', ⟨by first | omega | exact Nat.le_refl _⟩, ⟨by (with_reducible repeat (first | apply Kd.R_alloc | apply Kd.R_drewN | apply Kd.R_drew)); exact HO378.out⟩, ⟨by (with_reducible repeat (first | refine blk_drewN ?_ _ | refine blk_drew ?_ | refine blk_alloc ?_ _)); exact BK374.out⟩, ⟨by repeat (first | (with_reducible first | exact HB.out | apply below_alloc | apply pw_below_drewN | apply below_drew1 | refine below_set ?_ GE374.out) | exact HB.out)⟩⟩
  case rest =>
    clear HC4
    try clear c1
    try clear c2
    try clear p2
    try clear c3
    try clear c9
    try clear c9b0
    try clear c9b1
    try clear c10
    try clear c11
    try clear c11b0
    try clear c11b1
    try clear c15
    try clear c20
    try clear c20b0
    try clear c20b1
    try clear c26
    try clear hcz12_0
    try clear hcz12_1
    try clear hcz16_0
    try clear hcz16_1
    try clear hcz19_0
    try clear hcz19_1
    try clear hcz21_0
    try clear hcz21_1
    try clear hcz24_0
    try clear hcz24_1
    try clear hcz25_0
    try clear hcz25_1
    try clear hcz28_0
    try clear hcz28_1
    try clear hcz29_0
    try clear hcz29_1
    try clear hcz31_0
    try clear hcz31_1
    try clear hcz7_0
    try clear hcz7_1
    try clear hfz12_0
    try clear hfz12_1
    try clear hfz16_0
    try clear hfz16_1
    try clear hfz19_0
    try clear hfz19_1
    try clear hfz21_0
    try clear hfz21_1
    try clear hfz24_0
    try clear hfz24_1
    try clear hfz25_0
    try clear hfz25_1
    try clear hfz28_0
    try clear hfz28_1
    try clear hfz29_0
    try clear hfz29_1
    try clear hfz31_0
    try clear hfz31_1
    try clear hfz7_0
    try clear hfz7_1
    obtain ⟨kq, x57_3, rfl, HA, HJ3, HO_6, BK374, HB⟩ := hcut
    cases kq with
    | zero => exact absurd HA.out (by simp [stockyardref03_Match.j0])
    | succ kj3 =>
      have H := HA.out
      clear HA
      simp only [stockyardref03_Match.j0] at H
      by_cases c33 : x57_3 = true
      · subst c33
        have H1 : (some (([] : List ByteArray), false)) = some (r1, r2) := by rw [if_pos rfl] at H; exact H
        clear H
        have H := H1
        clear H1
        simp only [Option.some.injEq, Prod.mk.injEq] at H
        obtain ⟨rfl, rfl⟩ := H
        go_wp2
        go_ret2
        exact ⟨_, by first | rfl | (simp [errW_none, errW_some] <;> rfl) | (simp [*, errW_none, errW_some] <;> rfl), by first | exact Kd.R_nil _ _ _ _ _ | exact Kd.N_nil _ _ _ _ _ | exact Kd.V_nil _ _ _ _ _ | exact Kd.Q_nil _ _ _ _ _ | exact Kd.S_nil _ _ _ _ _, by repeat (first | (with_reducible first | exact HB.out | apply below_alloc | apply pw_below_drewN | apply below_drew1 | refine below_set ?_ GE374.out) | exact HB.out)⟩
      · replace c33 := Bool.eq_false_iff.mpr c33
        subst c33
        have H1 : (stockyardref03_Match.l0 kj3 t375 (l0_0.length : Int) ([] : List ByteArray) l0_0 (l0_0.length : Int) 0 l0_0 a0_1) = some (r1, r2) := by rw [if_neg (show ¬ (false = true) by decide)] at H; exact H
        clear H
        have H := H1
        clear H1
        have H' := Aside0.mk H
        clear H
        have hcz34_0 : wc.cell? ⟨gb374, 0, none⟩ = some (.slice A0_0 l0_0.length c0_0) := (blk_cell BK374.out 0).trans rfl
        have hcz34_1 : wc.cell? ⟨gb374, 1, none⟩ = some (.bool a0_1) := (blk_cell BK374.out 1).trans rfl
        have hfz34_0 := blk_frozen BK374.out 0
        have hfz34_1 := blk_frozen BK374.out 1
        go_wp2
        go_loopg [9, 61] kj3 (fun kq v9 v61 w' => ∃ (x9_2 : List ByteArray) (x61_2 : Int), v61 = .int .i64 x61_2 ∧ Aside0 (stockyardref03_Match.l0 kq t375 (l0_0.length : Int) x9_2 l0_0 (l0_0.length : Int) x61_2 l0_0 a0_1 = some (r1, r2)) ∧ Aside0 (kq ≤ kj3) ∧ Aside0 (Kd.R Kd.string 9 w' w.heap.size (fun k_ => some k_ ≠ (v9 : Value).ownBlock) v377 t375) ∧ Aside0 (Kd.R Kd.string 9 w' w.heap.size (fun k_ => some k_ ≠ (v377 : Value).ownBlock) v9 x9_2) ∧ Aside0 (w'.heap[gb374]? = some (.cells #[(.slice A0_0 l0_0.length c0_0), .bool a0_1] 24 (0, 0))) ∧ Aside0 (Below w.heap.size w w'))
        case atStart => exact ⟨(([] : List ByteArray)), (0), (by first | rfl | (simp; done) | (simp [*]; done)), H', ⟨Nat.le_refl _⟩, ⟨by (with_reducible repeat (first | apply Kd.R_alloc | apply Kd.R_drewN | apply Kd.R_drew)); exact Kd.R_mono HO_6.out (fun _ hk => (by simp [Value.ownBlock]))⟩, ⟨by first | exact Kd.R_nil _ _ _ _ _ | exact Kd.N_nil _ _ _ _ _ | exact Kd.V_nil _ _ _ _ _ | exact Kd.Q_nil _ _ _ _ _ | exact Kd.S_nil _ _ _ _ _⟩, ⟨by (with_reducible repeat (first | refine blk_drewN ?_ _ | refine blk_drew ?_ | refine blk_alloc ?_ _)); exact BK374.out⟩, ⟨by repeat (first | (with_reducible first | exact HB.out | apply below_alloc | apply pw_below_drewN | apply below_drew1 | refine below_set ?_ GE374.out) | exact HB.out)⟩⟩
        case round =>
          clear H'
          try clear c1
          try clear c2
          try clear p2
          try clear c3
          try clear c9
          try clear c9b0
          try clear c9b1
          try clear c10
          try clear c11
          try clear c11b0
          try clear c11b1
          try clear c15
          try clear c20
          try clear c20b0
          try clear c20b1
          try clear c26
          try clear c33
          try clear hcz12_0
          try clear hcz12_1
          try clear hcz16_0
          try clear hcz16_1
          try clear hcz19_0
          try clear hcz19_1
          try clear hcz21_0
          try clear hcz21_1
          try clear hcz24_0
          try clear hcz24_1
          try clear hcz25_0
          try clear hcz25_1
          try clear hcz28_0
          try clear hcz28_1
          try clear hcz29_0
          try clear hcz29_1
          try clear hcz31_0
          try clear hcz31_1
          try clear hcz34_0
          try clear hcz34_1
          try clear hcz7_0
          try clear hcz7_1
          try clear hfz12_0
          try clear hfz12_1
          try clear hfz16_0
          try clear hfz16_1
          try clear hfz19_0
          try clear hfz19_1
          try clear hfz21_0
          try clear hfz21_1
          try clear hfz24_0
          try clear hfz24_1
          try clear hfz25_0
          try clear hfz25_1
          try clear hfz28_0
          try clear hfz28_1
          try clear hfz29_0
          try clear hfz29_1
          try clear hfz31_0
          try clear hfz31_1
          try clear hfz34_0
          try clear hfz34_1
          try clear hfz7_0
          try clear hfz7_1
          try clear p2
          obtain ⟨x9_2, x61_2, rfl, HA, HK2, HO_6, HO_9, BK374, HB⟩ := hrel
          cases gk with
          | zero => exact absurd HA.out (by simp [stockyardref03_Match.l0])
          | succ k2 =>
            have H := HA.out
            clear HA
            simp only [stockyardref03_Match.l0] at H
            by_cases c35 : x61_2 < (l0_0.length : Int)
            · rw [if_pos c35] at H
              have c35b0 : decide (x61_2 < (l0_0.length : Int)) = true := decide_eq_true c35
              clear c35
              by_cases c36 : 0 ≤ x61_2
              · rw [if_pos c36] at H
                have c36b0 : decide (0 ≤ x61_2) = true := decide_eq_true c36
                clear c36
                by_cases c37 : x61_2 < (l0_0.length : Int)
                · rw [if_pos c37] at H
                  have c37b0 : decide (x61_2 < (l0_0.length : Int)) = true := decide_eq_true c37
                  clear c37
                  by_cases c38 : x61_2 < (t375.length : Int)
                  · rw [if_pos c38] at H
                    have c38b0 : decide (x61_2 < (t375.length : Int)) = true := decide_eq_true c38
                    clear c38
                    replace H := Option.bind_eq_some_iff.mp H
                    obtain ⟨⟨t390, t391⟩, A390, H⟩ := H
                    replace H : (if t391 = true then ((stockyardref03_Star.f k2 (rdOf ByteArray.empty l0_0 x61_2)).bind fun bt392 => (if bt392.2 = true then (if x9_2.length < 8796093022208 then (stockyardref03_Match.l0 k2 t375 (l0_0.length : Int) (x9_2 ++ [t390]) l0_0 (l0_0.length : Int) (wrap64 (x61_2 + 1)) l0_0 a0_1) else (none)) else (stockyardref03_Match.l0 k2 t375 (l0_0.length : Int) x9_2 l0_0 (l0_0.length : Int) (wrap64 (x61_2 + 1)) l0_0 a0_1))) else (some (([] : List ByteArray), false))) = some (r1, r2) := H
                    have A39 := Aside0.mk A390
                    clear A390
                    by_cases c40 : t391 = true
                    · subst c40
                      have H1 : ((stockyardref03_Star.f k2 (rdOf ByteArray.empty l0_0 x61_2)).bind fun bt392 => (if bt392.2 = true then (if x9_2.length < 8796093022208 then (stockyardref03_Match.l0 k2 t375 (l0_0.length : Int) (x9_2 ++ [t390]) l0_0 (l0_0.length : Int) (wrap64 (x61_2 + 1)) l0_0 a0_1) else (none)) else (stockyardref03_Match.l0 k2 t375 (l0_0.length : Int) x9_2 l0_0 (l0_0.length : Int) (wrap64 (x61_2 + 1)) l0_0 a0_1))) = some (r1, r2) := by rw [if_pos rfl] at H; exact H
                      clear H
                      have H := H1
                      clear H1
                      replace H := Option.bind_eq_some_iff.mp H
                      obtain ⟨⟨t392, t393⟩, A410, H⟩ := H
                      replace H : (if t393 = true then (if x9_2.length < 8796093022208 then (stockyardref03_Match.l0 k2 t375 (l0_0.length : Int) (x9_2 ++ [t390]) l0_0 (l0_0.length : Int) (wrap64 (x61_2 + 1)) l0_0 a0_1) else (none)) else (stockyardref03_Match.l0 k2 t375 (l0_0.length : Int) x9_2 l0_0 (l0_0.length : Int) (wrap64 (x61_2 + 1)) l0_0 a0_1)) = some (r1, r2) := H
                      have A41 := Aside0.mk A410
                      clear A410
                      by_cases c42 : t393 = true
                      · subst c42
                        have H1 : (if x9_2.length < 8796093022208 then (stockyardref03_Match.l0 k2 t375 (l0_0.length : Int) (x9_2 ++ [t390]) l0_0 (l0_0.length : Int) (wrap64 (x61_2 + 1)) l0_0 a0_1) else (none)) = some (r1, r2) := by rw [if_pos rfl] at H; exact H
                        clear H
                        have H := H1
                        clear H1
                        by_cases c43 : x9_2.length < 8796093022208
                        · rw [if_pos c43] at H
                          have LMc43 := Aside0.mk c43
                          clear c43
                          obtain ⟨y394, hy394⟩ : ∃ y_ : List ByteArray, y_ = (x9_2 ++ [t390]) := ⟨_, rfl⟩
                          replace H : (stockyardref03_Match.l0 k2 t375 (l0_0.length : Int) y394 l0_0 (l0_0.length : Int) (wrap64 (x61_2 + 1)) l0_0 a0_1) = some (r1, r2) := by first | (rw [hy394]; with_reducible exact H) | (have H2_ := (Option.bind_some _ _).symm.trans H; rw [hy394]; with_reducible exact H2_) | (have H2_ := (Option.bind_some _ _).symm.trans H; with_reducible exact H2_) | with_reducible exact H | (rw [hy394]; exact H) | exact H
                          have Ny394 := Aside0.mk hy394
                          clear hy394
                          have H' := Aside0.mk H
                          clear H
                          have p388 : 0 ≤ (x61_2 : Int) := of_decide_eq_true (by first | (with_reducible assumption) | assumption)
                          have q388 : x61_2 < (l0_0.length : Int) := of_decide_eq_true (by first | (with_reducible assumption) | assumption)
                          obtain ⟨ad388, e388, hx388_0⟩ := Kd.at_string HR0_0.out x61_2 p388 q388
                          cases e388
                          replace hx388_0 := (HB.out.cell (World.block_lt_of_cell? w _ hx388_0)).trans hx388_0
                          replace p388 := eq_true p388
                          replace q388 := eq_true q388
                          obtain ⟨Ao44, co44, eo44⟩ := Kd.R_slice HO_6.out
                          subst eo44
                          have p389 : 0 ≤ (x61_2 : Int) := of_decide_eq_true (by first | (with_reducible assumption) | assumption)
                          have q389 : x61_2 < (t375.length : Int) := of_decide_eq_true (by first | (with_reducible assumption) | assumption)
                          obtain ⟨ad389, e389, hx389_0⟩ := Kd.at_string (Kd.R_reads' HO_6.out).2.2 x61_2 p389 q389
                          cases e389
                          replace p389 := eq_true p389
                          replace q389 := eq_true q389
                          go_wp2_with (first | ((with_reducible refine gate_callee (f := 40) rfl ?_); refine goesL_ (some 72) rfl rfl Tryd.func40 (by kernel_rfl) rfl #[.string (rdOf ByteArray.empty l0_0 x61_2), .string (rdOf ByteArray.empty t375 x61_2)] rfl (by (try simp only [List.map_toArray, List.map_cons, List.map_nil]); first | done | rfl | (simp only [List.length_drop, List.length_take]; rfl)) ?_; (with_reducible refine (stockyardref03_Capture.calls k2 (rdOf ByteArray.empty l0_0 x61_2) (rdOf ByteArray.empty t375 x61_2) t390 true _ A39.out).mono ?_); rintro e w' ⟨rfl, ⟨nd, rfl⟩⟩; refine ⟨_, rfl, ?_⟩) | ((with_reducible refine gate_callee (f := 32) rfl ?_); refine goesL_ (some 79) rfl rfl Tryd.func32 (by kernel_rfl) rfl #[.string (rdOf ByteArray.empty l0_0 x61_2)] rfl (by (try simp only [List.map_toArray, List.map_cons, List.map_nil]); first | done | rfl | (simp only [List.length_drop, List.length_take]; rfl)) ?_; (with_reducible refine (stockyardref03_Star.calls k2 (rdOf ByteArray.empty l0_0 x61_2) t392 true _ A41.out).mono ?_); rintro e w' ⟨rfl, ⟨nd, rfl⟩⟩; refine ⟨_, rfl, ?_⟩) | ((with_reducible refine gate_builtin (b := .append) (xs := #[.tmp 83, .tmp 85]) rfl ?_); (try (refine gate_guard (by rfl) ?_; dsimp only)); at_builtin; refine Kd.R_append Kd.string (w0 := w) w.heap.size rfl (.tmp 83) (.tmp 85) 22 9 (.string ⟨#[]⟩) 16 rfl Tryd.underlying22 info9 rfl (by decide) (by omega) u9 x9_2 t390 [.string t390] (fun k_ => some k_ ≠ (.slice (some ad389) t375.length co44 : Value).ownBlock) (fun _ => False) rfl rfl ?aP (fun _ hk => hk.elim) ?aF ?aO ?aB ?aS ?aL ?_; (case aP => exact rfl); (case aB => exact (by repeat (first | (with_reducible first | exact HB.out | apply below_alloc | apply pw_below_drewN | apply below_drew1 | refine below_set ?_ GE374.out) | exact HB.out))); (case aF => exact (fun k_ hk => Kd.fresh' (Kd.R_lt (by (with_reducible repeat (first | apply Kd.R_alloc | apply Kd.R_drewN | apply Kd.R_drew)); exact HO_6.out)) k_ hk)); (case aO => exact (by (with_reducible repeat (first | apply Kd.R_alloc | apply Kd.R_drewN | apply Kd.R_drew)); exact HO_9.out)); (case aS => exact (below_size (by repeat (first | (with_reducible first | exact HB.out | apply below_alloc | apply pw_below_drewN | apply below_drew1 | refine below_set ?_ GE374.out) | exact HB.out)))); (case aL => have := LMc43.out; omega); intro v395 w45 ho hb hg hat; rw [← Ny394.out] at ho; have n0_ := Aside0.mk (Kd.R_after (ok := (fun _ => True)) (by (with_reducible repeat (first | apply Kd.R_alloc | apply Kd.R_drewN | apply Kd.R_drew)); exact Kd.R_mono HO_6.out (fun _ hk => ⟨trivial, hk⟩)) hg hat); have n1_ := Aside0.mk (blk_grown (g := gb374) (o := .cells #[.slice (some ad388) l0_0.length c0_0, .bool a0_1] 24 (0, 0)) (by (with_reducible repeat (first | refine blk_drewN ?_ _ | refine blk_drew ?_ | refine blk_alloc ?_ _)); exact BK374.out) hg (Kd.R_ne HO_9.out BK374.out (by decide))); have n2_ := Aside0.mk (hb); have n3_ := Aside0.mk (ho); clear HO_6; clear BK374; clear HB; clear HO_9; have HO_6 := n0_; have BK374 := n1_; have HB := n2_; have HO396 := n3_; clear n0_ n1_ n2_ n3_; clear ho hb hg hat))
                          go_roundg k2
                          case measure => have := HJ3.out; have := HK2.out; omega
                          case rel => exact ⟨(y394), (wrap64 (x61_2 + 1)), (by first | rfl | (simp; done) | (simp [*]; done)), H', ⟨by have := HJ3.out; have := HK2.out; omega⟩, ⟨by (with_reducible repeat (first | apply Kd.R_alloc | apply Kd.R_drewN | apply Kd.R_drew)); exact Kd.R_mono HO_6.out (fun _ hk => hk.2)⟩, ⟨by (with_reducible repeat (first | apply Kd.R_alloc | apply Kd.R_drewN | apply Kd.R_drew)); exact HO396.out⟩, ⟨by (with_reducible repeat (first | refine blk_drewN ?_ _ | refine blk_drew ?_ | refine blk_alloc ?_ _)); exact BK374.out⟩, ⟨by repeat (first | (with_reducible first | exact HB.out | apply below_alloc | apply pw_below_drewN | apply below_drew1 | refine below_set ?_ GE374.out) | exact HB.out)⟩⟩
                        · rw [if_neg c43] at H
                          exact absurd H (by simp)
                      · replace c42 := Bool.eq_false_iff.mpr c42
                        subst c42
                        have H1 : (stockyardref03_Match.l0 k2 t375 (l0_0.length : Int) x9_2 l0_0 (l0_0.length : Int) (wrap64 (x61_2 + 1)) l0_0 a0_1) = some (r1, r2) := by rw [if_neg (show ¬ (false = true) by decide)] at H; exact H
                        clear H
                        have H := H1
                        clear H1
                        have H' := Aside0.mk H
                        clear H
                        have p388 : 0 ≤ (x61_2 : Int) := of_decide_eq_true (by first | (with_reducible assumption) | assumption)
                        have q388 : x61_2 < (l0_0.length : Int) := of_decide_eq_true (by first | (with_reducible assumption) | assumption)
                        obtain ⟨ad388, e388, hx388_0⟩ := Kd.at_string HR0_0.out x61_2 p388 q388
                        cases e388
                        replace hx388_0 := (HB.out.cell (World.block_lt_of_cell? w _ hx388_0)).trans hx388_0
                        replace p388 := eq_true p388
                        replace q388 := eq_true q388
                        obtain ⟨Ao46, co46, eo46⟩ := Kd.R_slice HO_6.out
                        subst eo46
                        have p389 : 0 ≤ (x61_2 : Int) := of_decide_eq_true (by first | (with_reducible assumption) | assumption)
                        have q389 : x61_2 < (t375.length : Int) := of_decide_eq_true (by first | (with_reducible assumption) | assumption)
                        obtain ⟨ad389, e389, hx389_0⟩ := Kd.at_string (Kd.R_reads' HO_6.out).2.2 x61_2 p389 q389
                        cases e389
                        replace p389 := eq_true p389
                        replace q389 := eq_true q389
                        go_wp2_with (first | ((with_reducible refine gate_callee (f := 40) rfl ?_); refine goesL_ (some 72) rfl rfl Tryd.func40 (by kernel_rfl) rfl #[.string (rdOf ByteArray.empty l0_0 x61_2), .string (rdOf ByteArray.empty t375 x61_2)] rfl (by (try simp only [List.map_toArray, List.map_cons, List.map_nil]); first | done | rfl | (simp only [List.length_drop, List.length_take]; rfl)) ?_; (with_reducible refine (stockyardref03_Capture.calls k2 (rdOf ByteArray.empty l0_0 x61_2) (rdOf ByteArray.empty t375 x61_2) t390 true _ A39.out).mono ?_); rintro e w' ⟨rfl, ⟨nd, rfl⟩⟩; refine ⟨_, rfl, ?_⟩) | ((with_reducible refine gate_callee (f := 32) rfl ?_); refine goesL_ (some 79) rfl rfl Tryd.func32 (by kernel_rfl) rfl #[.string (rdOf ByteArray.empty l0_0 x61_2)] rfl (by (try simp only [List.map_toArray, List.map_cons, List.map_nil]); first | done | rfl | (simp only [List.length_drop, List.length_take]; rfl)) ?_; (with_reducible refine (stockyardref03_Star.calls k2 (rdOf ByteArray.empty l0_0 x61_2) t392 false _ A41.out).mono ?_); rintro e w' ⟨rfl, ⟨nd, rfl⟩⟩; refine ⟨_, rfl, ?_⟩))
                        go_roundg k2
                        case measure => have := HJ3.out; have := HK2.out; omega
                        case rel => exact ⟨(x9_2), (wrap64 (x61_2 + 1)), (by first | rfl | (simp; done) | (simp [*]; done)), H', ⟨by have := HJ3.out; have := HK2.out; omega⟩, ⟨by (with_reducible repeat (first | apply Kd.R_alloc | apply Kd.R_drewN | apply Kd.R_drew)); exact HO_6.out⟩, ⟨by (with_reducible repeat (first | apply Kd.R_alloc | apply Kd.R_drewN | apply Kd.R_drew)); exact HO_9.out⟩, ⟨by (with_reducible repeat (first | refine blk_drewN ?_ _ | refine blk_drew ?_ | refine blk_alloc ?_ _)); exact BK374.out⟩, ⟨by repeat (first | (with_reducible first | exact HB.out | apply below_alloc | apply pw_below_drewN | apply below_drew1 | refine below_set ?_ GE374.out) | exact HB.out)⟩⟩
                    · replace c40 := Bool.eq_false_iff.mpr c40
                      subst c40
                      have H1 : (some (([] : List ByteArray), false)) = some (r1, r2) := by rw [if_neg (show ¬ (false = true) by decide)] at H; exact H
                      clear H
                      have H := H1
                      clear H1
                      simp only [Option.some.injEq, Prod.mk.injEq] at H
                      obtain ⟨rfl, rfl⟩ := H
                      have p388 : 0 ≤ (x61_2 : Int) := of_decide_eq_true (by first | (with_reducible assumption) | assumption)
                      have q388 : x61_2 < (l0_0.length : Int) := of_decide_eq_true (by first | (with_reducible assumption) | assumption)
                      obtain ⟨ad388, e388, hx388_0⟩ := Kd.at_string HR0_0.out x61_2 p388 q388
                      cases e388
                      replace hx388_0 := (HB.out.cell (World.block_lt_of_cell? w _ hx388_0)).trans hx388_0
                      replace p388 := eq_true p388
                      replace q388 := eq_true q388
                      obtain ⟨Ao47, co47, eo47⟩ := Kd.R_slice HO_6.out
                      subst eo47
                      have p389 : 0 ≤ (x61_2 : Int) := of_decide_eq_true (by first | (with_reducible assumption) | assumption)
                      have q389 : x61_2 < (t375.length : Int) := of_decide_eq_true (by first | (with_reducible assumption) | assumption)
                      obtain ⟨ad389, e389, hx389_0⟩ := Kd.at_string (Kd.R_reads' HO_6.out).2.2 x61_2 p389 q389
                      cases e389
                      replace p389 := eq_true p389
                      replace q389 := eq_true q389
                      go_wp2_with (first | ((with_reducible refine gate_callee (f := 40) rfl ?_); refine goesL_ (some 72) rfl rfl Tryd.func40 (by kernel_rfl) rfl #[.string (rdOf ByteArray.empty l0_0 x61_2), .string (rdOf ByteArray.empty t375 x61_2)] rfl (by (try simp only [List.map_toArray, List.map_cons, List.map_nil]); first | done | rfl | (simp only [List.length_drop, List.length_take]; rfl)) ?_; (with_reducible refine (stockyardref03_Capture.calls k2 (rdOf ByteArray.empty l0_0 x61_2) (rdOf ByteArray.empty t375 x61_2) t390 false _ A39.out).mono ?_); rintro e w' ⟨rfl, ⟨nd, rfl⟩⟩; refine ⟨_, rfl, ?_⟩))
                      go_ret2
                      exact ⟨_, by first | rfl | (simp [errW_none, errW_some] <;> rfl) | (simp [*, errW_none, errW_some] <;> rfl), by first | exact Kd.R_nil _ _ _ _ _ | exact Kd.N_nil _ _ _ _ _ | exact Kd.V_nil _ _ _ _ _ | exact Kd.Q_nil _ _ _ _ _ | exact Kd.S_nil _ _ _ _ _, by repeat (first | (with_reducible first | exact HB.out | apply below_alloc | apply pw_below_drewN | apply below_drew1 | refine below_set ?_ GE374.out) | exact HB.out)⟩
                  · rw [if_neg c38] at H
                    exact absurd H (by simp)
                · rw [if_neg c37] at H
                  exact absurd H (by simp)
              · rw [if_neg c36] at H
                exact absurd H (by simp)
            · rw [if_neg c35] at H
              have c35b0 : decide (x61_2 < (l0_0.length : Int)) = false := decide_eq_false c35
              clear c35
              by_cases c48 : a0_1 = true
              · subst c48
                have H1 : (if 0 ≤ (l0_0.length : Int) then (if (l0_0.length : Int) ≤ (t375.length : Int) then ((strings_Join.f (t375.drop ((l0_0.length : Int) : Int).toNat) (⟨#[47]⟩ : ByteArray)).bind fun t384 => (if x9_2.length < 8796093022208 then (some ((x9_2 ++ [t384]), true)) else (none))) else (none)) else (none)) = some (r1, r2) := by rw [if_pos rfl] at H; exact H
                clear H
                have H := H1
                clear H1
                by_cases c49 : 0 ≤ (l0_0.length : Int)
                · rw [if_pos c49] at H
                  have c49b0 := eq_true c49
                  have c49b1 : decide (0 ≤ (l0_0.length : Int)) = true := decide_eq_true c49
                  clear c49
                  by_cases c50 : (l0_0.length : Int) ≤ (t375.length : Int)
                  · rw [if_pos c50] at H
                    have c50b0 := eq_true c50
                    have c50b1 : decide ((l0_0.length : Int) ≤ (t375.length : Int)) = true := decide_eq_true c50
                    clear c50
                    obtain ⟨y380, hy380⟩ : ∃ y_ : List ByteArray, y_ = (t375.drop ((l0_0.length : Int) : Int).toNat) := ⟨_, rfl⟩
                    replace H : ((strings_Join.f y380 (⟨#[47]⟩ : ByteArray)).bind fun t384 => (if x9_2.length < 8796093022208 then (some ((x9_2 ++ [t384]), true)) else (none))) = some (r1, r2) := by first | (rw [hy380]; with_reducible exact H) | (have H2_ := (Option.bind_some _ _).symm.trans H; rw [hy380]; with_reducible exact H2_) | (have H2_ := (Option.bind_some _ _).symm.trans H; with_reducible exact H2_) | with_reducible exact H | (rw [hy380]; exact H) | exact H
                    have Ny380 := Aside0.mk hy380
                    clear hy380
                    replace H := Option.bind_eq_some_iff.mp H
                    obtain ⟨t384, A510, H⟩ := H
                    replace H : (if x9_2.length < 8796093022208 then (some ((x9_2 ++ [t384]), true)) else (none)) = some (r1, r2) := H
                    have A51 := Aside0.mk A510
                    clear A510
                    by_cases c52 : x9_2.length < 8796093022208
                    · rw [if_pos c52] at H
                      have LMc52 := Aside0.mk c52
                      clear c52
                      obtain ⟨y385, hy385⟩ : ∃ y_ : List ByteArray, y_ = (x9_2 ++ [t384]) := ⟨_, rfl⟩
                      replace H : (some (y385, true)) = some (r1, r2) := by first | (rw [hy385]; with_reducible exact H) | (have H2_ := (Option.bind_some _ _).symm.trans H; rw [hy385]; with_reducible exact H2_) | (have H2_ := (Option.bind_some _ _).symm.trans H; with_reducible exact H2_) | with_reducible exact H | (rw [hy385]; exact H) | exact H
                      have Ny385 := Aside0.mk hy385
                      clear hy385
                      simp only [Option.some.injEq, Prod.mk.injEq] at H
                      obtain ⟨rfl, rfl⟩ := H
                      have hcz53_0 : wr.cell? ⟨gb374, 0, none⟩ = some (.slice A0_0 l0_0.length c0_0) := (blk_cell BK374.out 0).trans rfl
                      have hcz53_1 : wr.cell? ⟨gb374, 1, none⟩ = some (.bool true) := (blk_cell BK374.out 1).trans rfl
                      have hfz53_0 := blk_frozen BK374.out 0
                      have hfz53_1 := blk_frozen BK374.out 1
                      obtain ⟨Ao55, co55, eo55⟩ := Kd.R_slice HO_6.out
                      subst eo55
                      have q54 : ((l0_0.length : Int) : Int) ≤ ((t375.length : Int) : Int) := of_decide_eq_true (by first | (with_reducible assumption) | assumption)
                      obtain ⟨i054, hi054, _, hsz54, _⟩ := info_parts info9
                      have hroom54 : t375.length ≤ co55 := (Kd.R_reads' HO_6.out).2.1
                      have hC54 : Kd.C Kd.string _ Ao55 t375.length t375 := (Kd.R_reads' HO_6.out).2.2
                      have q054 : (0 : Int) ≤ ((l0_0.length : Int) : Int) := of_decide_eq_true (by first | (with_reducible assumption) | assumption)
                      have hcut54 := cut_from (P := Tryd.prog) 22 9 .i64 Tryd.underlying22 hi054 1 hsz54 Ao55 t375.length co55 (l0_0.length : Int) q054 q54
                      have hr54 := Kd.C_drop (m := ((l0_0.length : Int) : Int).toNat) (c := co55) hC54 (by omega) hroom54
                      obtain ⟨A54, hA54⟩ : ∃ A1, A1 = (if co55 = ((l0_0.length : Int) : Int).toNat then Ao55 else (Ao55 : Option Addr).map (·.add (((l0_0.length : Int) : Int).toNat * 1))) := ⟨_, rfl⟩
                      obtain ⟨c54, hc54⟩ : ∃ c1, c1 = co55 - ((l0_0.length : Int) : Int).toNat := ⟨_, rfl⟩
                      have hy54 : y380.length = t375.length - ((l0_0.length : Int) : Int).toNat := (by rw [Ny380.out, List.length_drop] <;> omega)
                      rw [show (t375).drop ((l0_0.length : Int) : Int).toNat = y380 from Ny380.out.symm] at hr54
                      replace hr54 : Kd.C Kd.string _ A54 y380.length y380 := (by rw [hA54]; exact hr54)
                      rw [← hy54, ← hA54, ← hc54] at hcut54
                      have HR383 := Aside0.mk hr54
                      have HC383 := Aside0.mk (show y380.length ≤ c54 from by rw [hy54, hc54]; exact Nat.sub_le_sub_right hroom54 _)
                      clear hr54 hC54 hroom54 hi054 hsz54 hc54
                      have KY54 := Aside0.mk hy54
                      have KA54 := Aside0.mk hA54
                      clear hy54 hA54
                      have KL54 := Aside0.mk (show ((l0_0.length : Int) : Int).toNat ≤ t375.length from by omega)
                      replace q54 := eq_true q54
                      go_wp2_with (first | ((with_reducible refine gate_callee (f := 35) rfl ?_); refine goesL_ (some 94) rfl rfl Tryd.func35 (by kernel_rfl) rfl #[.slice A54 y380.length c54, .string (⟨#[47]⟩ : ByteArray)] rfl (by (try simp only [List.map_toArray, List.map_cons, List.map_nil]); first | done | rfl | (simp only [List.length_drop, List.length_take]; rfl)) ?_; (with_reducible refine (strings_Join.calls _ _ y380 (⟨#[47]⟩ : ByteArray) t384 _ ?side1 ?side2 A51.out).mono ?_); (case side1 => repeat (first | exact (by repeat (first | (with_reducible exact HR383.out) | (with_reducible refine Kd.C_alloc ?_ _) | (with_reducible refine Kd.C_drewN ?_ _) | (with_reducible refine Kd.C_drew ?_) | exact HR383.out)) | (with_reducible refine Kd.C_alloc ?_ _) | (with_reducible refine Kd.C_drewN ?_ _) | (with_reducible refine Kd.C_drew ?_))); (case side2 => exact HC383.out); rintro e w56 ⟨rfl, hb⟩; refine ⟨_, rfl, ?_⟩; have n0_ := Aside0.mk (Kd.R_below (by (with_reducible repeat (first | apply Kd.R_alloc | apply Kd.R_drewN | apply Kd.R_drew)); exact HO_6.out) hb); have n1_ := Aside0.mk (Kd.R_below (by (with_reducible repeat (first | apply Kd.R_alloc | apply Kd.R_drewN | apply Kd.R_drew)); exact HO_9.out) hb); have n2_ := Aside0.mk (blk_below (g := gb374) (o := .cells #[.slice A0_0 l0_0.length c0_0, .bool true] 24 (0, 0)) (by (with_reducible repeat (first | refine blk_drewN ?_ _ | refine blk_drew ?_ | refine blk_alloc ?_ _)); exact BK374.out) hb); have n3_ := Aside0.mk (Kd.C_below (by repeat (first | (with_reducible exact HR383.out) | (with_reducible refine Kd.C_alloc ?_ _) | (with_reducible refine Kd.C_drewN ?_ _) | (with_reducible refine Kd.C_drew ?_) | exact HR383.out)) hb); have n4_ := Aside0.mk (below_step (by repeat (first | (with_reducible first | exact HB.out | apply below_alloc | apply pw_below_drewN | apply below_drew1 | refine below_set ?_ GE374.out) | exact HB.out)) hb); clear HO_6; clear HO_9; clear BK374; clear HR383; clear HB; have HO_6 := n0_; have HO_9 := n1_; have BK374 := n2_; have HR383 := n3_; have HB := n4_; clear n0_ n1_ n2_ n3_ n4_; (try clear hb); (try clear hb2); (try clear hk); (try clear hi)) | ((with_reducible refine gate_builtin (b := .append) (xs := #[.tmp 90, .tmp 95]) rfl ?_); (try (refine gate_guard (by rfl) ?_; dsimp only)); at_builtin; refine Kd.R_append Kd.string (w0 := w) w.heap.size rfl (.tmp 90) (.tmp 95) 22 9 (.string ⟨#[]⟩) 16 rfl Tryd.underlying22 info9 rfl (by decide) (by omega) u9 x9_2 t384 [.string t384] (fun k_ => some k_ ≠ (.slice Ao55 t375.length co55 : Value).ownBlock) (fun _ => False) rfl rfl ?aP (fun _ hk => hk.elim) ?aF ?aO ?aB ?aS ?aL ?_; (case aP => exact rfl); (case aB => exact (by repeat (first | (with_reducible first | exact HB.out | apply below_alloc | apply pw_below_drewN | apply below_drew1 | refine below_set ?_ GE374.out) | exact HB.out))); (case aF => exact (fun k_ hk => Kd.fresh' (Kd.R_lt (by (with_reducible repeat (first | apply Kd.R_alloc | apply Kd.R_drewN | apply Kd.R_drew)); exact HO_6.out)) k_ hk)); (case aO => exact (by (with_reducible repeat (first | apply Kd.R_alloc | apply Kd.R_drewN | apply Kd.R_drew)); exact HO_9.out)); (case aS => exact (below_size (by repeat (first | (with_reducible first | exact HB.out | apply below_alloc | apply pw_below_drewN | apply below_drew1 | refine below_set ?_ GE374.out) | exact HB.out)))); (case aL => have := LMc52.out; omega); intro v386 w57 ho hb hg hat; rw [← Ny385.out] at ho; have n0_ := Aside0.mk (Kd.R_after (ok := (fun _ => True)) (by (with_reducible repeat (first | apply Kd.R_alloc | apply Kd.R_drewN | apply Kd.R_drew)); exact Kd.R_mono HO_6.out (fun _ hk => ⟨trivial, hk⟩)) hg hat); have n1_ := Aside0.mk (blk_grown (g := gb374) (o := .cells #[.slice A0_0 l0_0.length c0_0, .bool true] 24 (0, 0)) (by (with_reducible repeat (first | refine blk_drewN ?_ _ | refine blk_drew ?_ | refine blk_alloc ?_ _)); exact BK374.out) hg (Kd.R_ne HO_9.out BK374.out (by decide))); have n2_ := Aside0.mk (hb); have n3_ := Aside0.mk ((show Kd.C Kd.string w57 A54 y380.length y380 from by rw [Ny380.out, KA54.out]; exact Kd.C_drop (m := ((l0_0.length : Int) : Int).toNat) (c := co55) ((Kd.R_reads' (Kd.R_after (ok := (fun _ => True)) (by (with_reducible repeat (first | apply Kd.R_alloc | apply Kd.R_drewN | apply Kd.R_drew)); exact Kd.R_mono HO_6.out (fun _ hk => ⟨trivial, hk⟩)) hg hat)).2.2) KL54.out ((Kd.R_reads' (Kd.R_after (ok := (fun _ => True)) (by (with_reducible repeat (first | apply Kd.R_alloc | apply Kd.R_drewN | apply Kd.R_drew)); exact Kd.R_mono HO_6.out (fun _ hk => ⟨trivial, hk⟩)) hg hat)).2.1))); have n4_ := Aside0.mk (ho); clear HO_6; clear BK374; clear HB; clear HR383; clear HO_9; have HO_6 := n0_; have BK374 := n1_; have HB := n2_; have HR383 := n3_; have HO387 := n4_; clear n0_ n1_ n2_ n3_ n4_; clear ho hb hg hat))
                      go_ret2
                      exact ⟨_, by first | rfl | (simp [errW_none, errW_some] <;> rfl) | (simp [*, errW_none, errW_some] <;> rfl), by (with_reducible repeat (first | apply Kd.R_alloc | apply Kd.R_drewN | apply Kd.R_drew)); exact Kd.R_mono HO387.out (fun _ hk => trivial), by repeat (first | (with_reducible first | exact HB.out | apply below_alloc | apply pw_below_drewN | apply below_drew1 | refine below_set ?_ GE374.out) | exact HB.out)⟩
                    · rw [if_neg c52] at H
                      exact absurd H (by simp)
                  · rw [if_neg c50] at H
                    exact absurd H (by simp)
                · rw [if_neg c49] at H
                  exact absurd H (by simp)
              · replace c48 := Bool.eq_false_iff.mpr c48
                subst c48
                have H1 : (some (x9_2, true)) = some (r1, r2) := by rw [if_neg (show ¬ (false = true) by decide)] at H; exact H
                clear H
                have H := H1
                clear H1
                simp only [Option.some.injEq, Prod.mk.injEq] at H
                obtain ⟨rfl, rfl⟩ := H
                have hcz58_0 : wr.cell? ⟨gb374, 0, none⟩ = some (.slice A0_0 l0_0.length c0_0) := (blk_cell BK374.out 0).trans rfl
                have hcz58_1 : wr.cell? ⟨gb374, 1, none⟩ = some (.bool false) := (blk_cell BK374.out 1).trans rfl
                have hfz58_0 := blk_frozen BK374.out 0
                have hfz58_1 := blk_frozen BK374.out 1
                go_wp2
                go_ret2
                exact ⟨_, by first | rfl | (simp [errW_none, errW_some] <;> rfl) | (simp [*, errW_none, errW_some] <;> rfl), by (with_reducible repeat (first | apply Kd.R_alloc | apply Kd.R_drewN | apply Kd.R_drew)); exact Kd.R_mono HO_9.out (fun _ hk => trivial), by repeat (first | (with_reducible first | exact HB.out | apply below_alloc | apply pw_below_drewN | apply below_drew1 | refine below_set ?_ GE374.out) | exact HB.out)⟩

/-! ### stockyardref03_wildcards: function 41 -/
def stockyardref03_wildcards.f (k : Nat) (l0_0 : List ByteArray) (a0_1 : Bool) : Option (Int) := (stockyardref03_Kinds.f k l0_0 a0_1).bind fun bt398 => (if bt398.2 = true then (some (wrap64 (bt398.1 + 1))) else (some bt398.1))
theorem stockyardref03_wildcards.mono : ∀ a0 a1 k, LeO (stockyardref03_wildcards.f k a0 a1) (stockyardref03_wildcards.f (k + 1) a0 a1) := by
  intro a0 a1 k
  unfold stockyardref03_wildcards.f
  repeat' first
      | (with_reducible exact stockyardref03_Kinds.mono _ _ _)
      | (with_reducible exact LeO.refl _)
      | (with_reducible exact LeO.none _)
      | (with_reducible refine LeO.ite ?_ ?_)
      | (with_reducible refine LeO.bind ?_ (fun _ => ?_))
      | exact stockyardref03_Kinds.mono _ _ _
      | exact LeO.none _
      | refine LeO.ite ?_ ?_
      | refine LeO.bind ?_ (fun _ => ?_)
set_option maxHeartbeats 8000000 in
set_option maxRecDepth 100000 in
theorem stockyardref03_wildcards.calls (k : Nat) (A0_0 : Option Addr) (c0_0 : Nat) (l0_0 : List ByteArray) (a0_1 : Bool) (r : Int) (w : World) (hr0_0 : Kd.C Kd.string w A0_0 l0_0.length l0_0) (hc0_0 : l0_0.length ≤ c0_0) (h : stockyardref03_wildcards.f k l0_0 a0_1 = some r) :
    Calls Tryd.prog 41 #[.agg #[.slice A0_0 l0_0.length c0_0, .bool a0_1]] w fun e w' => e = .returned (.int .i64 r) ∧ Below w.heap.size w w' := by
  have hu24 := Tryd.underlying24
  have HR0_0 := Aside0.mk hr0_0
  have HC0_0 := Aside0.mk hc0_0
  clear hr0_0 hc0_0
  have HB := Aside0.mk (Below.refl w.heap.size w)
  have H : ((stockyardref03_Kinds.f k l0_0 a0_1).bind fun bt398 => (if bt398.2 = true then (some (wrap64 (bt398.1 + 1))) else (some bt398.1))) = some r := h
  clear h
  replace H := Option.bind_eq_some_iff.mp H
  obtain ⟨⟨t398, t399⟩, A20, H⟩ := H
  replace H : (if t399 = true then (some (wrap64 (t398 + 1))) else (some t398)) = some r := H
  have A2 := Aside0.mk A20
  clear A20
  by_cases c3 : t399 = true
  · subst c3
    have H1 : (some (wrap64 (t398 + 1))) = some r := by rw [if_pos rfl] at H; exact H
    clear H
    have H := H1
    clear H1
    obtain rfl := Option.some.inj H
    go_enter Tryd.func41, Tryd.ntmps41
    go_wp2_with (first | ((with_reducible refine gate_dst (N := 1) rfl ?_); refine box_event ?hg (N := 1) ?hd (cs := #[.slice A0_0 l0_0.length c0_0, .bool a0_1]) (t := 24) ?hr ?_; (case hd => rfl); (case hg => rfl); (case hr => first | (go_simp; done) | (go_simp; rfl)); intro gb397 hg w4 hbox hb; have n0_ := Aside0.mk (below_step (by repeat (first | (with_reducible first | exact HB.out | apply below_alloc | apply pw_below_drewN | apply below_drew1) | exact HB.out)) hb); have n1_ := Aside0.mk (hbox); have n2_ := Aside0.mk ((by rw [hg]; exact (below_size (by repeat (first | (with_reducible first | exact HB.out | apply below_alloc | apply pw_below_drewN | apply below_drew1) | exact HB.out))) : w.heap.size ≤ gb397)); have n3_ := Aside0.mk ((by rw [hg]; exact (below_size (by repeat (first | (with_reducible first | exact HB.out | apply below_alloc | apply pw_below_drewN | apply below_drew1) | exact HB.out))) : w.heap.size ≤ gb397)); clear HB; have HB := n0_; have BK397 := n1_; have GW397 := n2_; have GE397 := n3_; clear n0_ n1_ n2_ n3_; clear hb hbox hg; have hcz5_0 : w4.cell? ⟨gb397, 0, none⟩ = some (.slice A0_0 l0_0.length c0_0) := (blk_cell BK397.out 0).trans rfl; have hcz5_1 : w4.cell? ⟨gb397, 1, none⟩ = some (.bool a0_1) := (blk_cell BK397.out 1).trans rfl; have hfz5_0 := blk_frozen BK397.out 0; have hfz5_1 := blk_frozen BK397.out 1) | ((with_reducible refine gate_callee (f := 21) rfl ?_); refine goesL_ (some 7) rfl rfl Tryd.func21 (by kernel_rfl) rfl #[.agg #[.slice A0_0 l0_0.length c0_0, .bool a0_1]] rfl (by (try simp only [List.map_toArray, List.map_cons, List.map_nil]); first | done | rfl | (simp only [List.length_drop, List.length_take]; rfl)) ?_; (with_reducible refine (stockyardref03_Kinds.calls k _ _ l0_0 a0_1 t398 true _ ?side1 ?side2 A2.out).mono ?_); (case side1 => repeat (first | exact (Kd.C_below HR0_0.out HB.out) | (with_reducible refine Kd.C_alloc ?_ _) | (with_reducible refine Kd.C_drewN ?_ _) | (with_reducible refine Kd.C_drew ?_))); (case side2 => exact HC0_0.out); rintro e w6 ⟨rfl, hb⟩; refine ⟨_, rfl, ?_⟩; have n0_ := Aside0.mk (blk_below (g := gb397) (o := .cells #[.slice A0_0 l0_0.length c0_0, .bool a0_1] 24 (0, 0)) (by (with_reducible repeat (first | refine blk_drewN ?_ _ | refine blk_drew ?_ | refine blk_alloc ?_ _)); exact BK397.out) hb); have n1_ := Aside0.mk (below_step (by repeat (first | (with_reducible first | exact HB.out | apply below_alloc | apply pw_below_drewN | apply below_drew1 | refine below_set ?_ GE397.out) | exact HB.out)) hb); clear BK397; clear HB; have BK397 := n0_; have HB := n1_; clear n0_ n1_; (try clear hb); (try clear hb2); (try clear hk); (try clear hi)))
    go_ret
    exact ⟨by first | rfl | (simp [errW_none, errW_some] <;> rfl) | (simp [*, errW_none, errW_some] <;> rfl), by repeat (first | (with_reducible first | exact HB.out | apply below_alloc | apply pw_below_drewN | apply below_drew1 | refine below_set ?_ GE397.out) | exact HB.out)⟩
  · replace c3 := Bool.eq_false_iff.mpr c3
    subst c3
    have H1 : (some t398) = some r := by rw [if_neg (show ¬ (false = true) by decide)] at H; exact H
    clear H
    have H := H1
    clear H1
    obtain rfl := Option.some.inj H
    go_enter Tryd.func41, Tryd.ntmps41
    go_wp2_with (first | ((with_reducible refine gate_dst (N := 1) rfl ?_); refine box_event ?hg (N := 1) ?hd (cs := #[.slice A0_0 l0_0.length c0_0, .bool a0_1]) (t := 24) ?hr ?_; (case hd => rfl); (case hg => rfl); (case hr => first | (go_simp; done) | (go_simp; rfl)); intro gb397 hg w7 hbox hb; have n0_ := Aside0.mk (below_step (by repeat (first | (with_reducible first | exact HB.out | apply below_alloc | apply pw_below_drewN | apply below_drew1) | exact HB.out)) hb); have n1_ := Aside0.mk (hbox); have n2_ := Aside0.mk ((by rw [hg]; exact (below_size (by repeat (first | (with_reducible first | exact HB.out | apply below_alloc | apply pw_below_drewN | apply below_drew1) | exact HB.out))) : w.heap.size ≤ gb397)); have n3_ := Aside0.mk ((by rw [hg]; exact (below_size (by repeat (first | (with_reducible first | exact HB.out | apply below_alloc | apply pw_below_drewN | apply below_drew1) | exact HB.out))) : w.heap.size ≤ gb397)); clear HB; have HB := n0_; have BK397 := n1_; have GW397 := n2_; have GE397 := n3_; clear n0_ n1_ n2_ n3_; clear hb hbox hg; have hcz8_0 : w7.cell? ⟨gb397, 0, none⟩ = some (.slice A0_0 l0_0.length c0_0) := (blk_cell BK397.out 0).trans rfl; have hcz8_1 : w7.cell? ⟨gb397, 1, none⟩ = some (.bool a0_1) := (blk_cell BK397.out 1).trans rfl; have hfz8_0 := blk_frozen BK397.out 0; have hfz8_1 := blk_frozen BK397.out 1) | ((with_reducible refine gate_callee (f := 21) rfl ?_); refine goesL_ (some 7) rfl rfl Tryd.func21 (by kernel_rfl) rfl #[.agg #[.slice A0_0 l0_0.length c0_0, .bool a0_1]] rfl (by (try simp only [List.map_toArray, List.map_cons, List.map_nil]); first | done | rfl | (simp only [List.length_drop, List.length_take]; rfl)) ?_; (with_reducible refine (stockyardref03_Kinds.calls k _ _ l0_0 a0_1 t398 false _ ?side1 ?side2 A2.out).mono ?_); (case side1 => repeat (first | exact (Kd.C_below HR0_0.out HB.out) | (with_reducible refine Kd.C_alloc ?_ _) | (with_reducible refine Kd.C_drewN ?_ _) | (with_reducible refine Kd.C_drew ?_))); (case side2 => exact HC0_0.out); rintro e w9 ⟨rfl, hb⟩; refine ⟨_, rfl, ?_⟩; have n0_ := Aside0.mk (blk_below (g := gb397) (o := .cells #[.slice A0_0 l0_0.length c0_0, .bool a0_1] 24 (0, 0)) (by (with_reducible repeat (first | refine blk_drewN ?_ _ | refine blk_drew ?_ | refine blk_alloc ?_ _)); exact BK397.out) hb); have n1_ := Aside0.mk (below_step (by repeat (first | (with_reducible first | exact HB.out | apply below_alloc | apply pw_below_drewN | apply below_drew1 | refine below_set ?_ GE397.out) | exact HB.out)) hb); clear BK397; clear HB; have BK397 := n0_; have HB := n1_; clear n0_ n1_; (try clear hb); (try clear hb2); (try clear hk); (try clear hi)))
    go_ret
    exact ⟨by first | rfl | (simp [errW_none, errW_some] <;> rfl) | (simp [*, errW_none, errW_some] <;> rfl), by repeat (first | (with_reducible first | exact HB.out | apply below_alloc | apply pw_below_drewN | apply below_drew1 | refine below_set ?_ GE397.out) | exact HB.out)⟩

/-! ### stockyardref02_Join: function 42 -/
def stockyardref02_Join.f (l0 : List ByteArray) : Option (ByteArray) := (strings_Join.f l0 (⟨#[47]⟩ : ByteArray)).bind fun t400 => (if 2 + t400.size ≤ 9223372036854775807 then (some ((⟨#[47, 47]⟩ : ByteArray) ++ t400)) else (none))
set_option maxHeartbeats 8000000 in
set_option maxRecDepth 100000 in
theorem stockyardref02_Join.calls (A0 : Option Addr) (c0 : Nat) (l0 : List ByteArray) (r : ByteArray) (w : World) (hr0 : Kd.C Kd.string w A0 l0.length l0) (hc0 : l0.length ≤ c0) (h : stockyardref02_Join.f l0 = some r) :
    Calls Tryd.prog 42 #[.slice A0 l0.length c0] w fun e w' => e = .returned (.string r) ∧ Below w.heap.size w w' := by
  have HR0 := Aside0.mk hr0
  have HC0 := Aside0.mk hc0
  clear hr0 hc0
  have HB := Aside0.mk (Below.refl w.heap.size w)
  have H : ((strings_Join.f l0 (⟨#[47]⟩ : ByteArray)).bind fun t400 => (if 2 + t400.size ≤ 9223372036854775807 then (some ((⟨#[47, 47]⟩ : ByteArray) ++ t400)) else (none))) = some r := h
  clear h
  replace H := Option.bind_eq_some_iff.mp H
  obtain ⟨t400, A20, H⟩ := H
  replace H : (if 2 + t400.size ≤ 9223372036854775807 then (some ((⟨#[47, 47]⟩ : ByteArray) ++ t400)) else (none)) = some r := H
  have A2 := Aside0.mk A20
  clear A20
  by_cases c3 : 2 + t400.size ≤ 9223372036854775807
  · rw [if_pos c3] at H
    have c3b0 := eq_true c3
    have c3b1 : decide (2 + t400.size ≤ 9223372036854775807) = true := decide_eq_true c3
    try have c3b2 : (9223372036854775807 < 2 + t400.size) = False := eq_false (Nat.not_lt.2 c3)
    obtain rfl := Option.some.inj H
    go_enter Tryd.func42, Tryd.ntmps42
    go_wp2_with (first | ((with_reducible refine gate_callee (f := 35) rfl ?_); refine goesL_ (some 4) rfl rfl Tryd.func35 (by kernel_rfl) rfl #[.slice A0 l0.length c0, .string (⟨#[47]⟩ : ByteArray)] rfl (by (try simp only [List.map_toArray, List.map_cons, List.map_nil]); first | done | rfl | (simp only [List.length_drop, List.length_take]; rfl)) ?_; (with_reducible refine (strings_Join.calls _ _ l0 (⟨#[47]⟩ : ByteArray) t400 _ ?side1 ?side2 A2.out).mono ?_); (case side1 => repeat (first | exact HR0.out | (with_reducible refine Kd.C_alloc ?_ _) | (with_reducible refine Kd.C_drewN ?_ _) | (with_reducible refine Kd.C_drew ?_))); (case side2 => exact HC0.out); rintro e w4 ⟨rfl, hb⟩; refine ⟨_, rfl, ?_⟩; have n0_ := Aside0.mk (below_step (by repeat (first | (with_reducible first | exact HB.out | apply below_alloc | apply pw_below_drewN | apply below_drew1) | exact HB.out)) hb); clear HB; have HB := n0_; clear n0_; (try clear hb); (try clear hb2); (try clear hk); (try clear hi)))
    go_ret
    exact ⟨by first | rfl | (simp [errW_none, errW_some] <;> rfl) | (simp [*, errW_none, errW_some] <;> rfl), by repeat (first | (with_reducible first | exact HB.out | apply below_alloc | apply pw_below_drewN | apply below_drew1) | exact HB.out)⟩
  · rw [if_neg c3] at H
    exact absurd H (by simp)

end Go.Proofs.YtnfpbnnhijiflaaDoor.P

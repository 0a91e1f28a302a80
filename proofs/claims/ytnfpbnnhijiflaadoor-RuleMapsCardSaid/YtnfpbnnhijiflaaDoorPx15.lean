-- Written by a program of this session (wip/gen.py) over the kit's print: each Go function as a plain Lean function, and the proof that the Go code comes to it. Nothing here is trusted: Lean checks it.
import Derived.Test.YtnfpbnnhijiflaaDoorPx0
import Derived.Test.YtnfpbnnhijiflaaDoorPx2
import Derived.Test.YtnfpbnnhijiflaaDoorPx6
import Derived.Test.YtnfpbnnhijiflaaDoorPx7
import Derived.Test.YtnfpbnnhijiflaaDoorPx14
namespace Go.Proofs.YtnfpbnnhijiflaaDoor.P
open Go.RowKit Go.Proofs.YtnfpbnnhijiflaaDoorW.PrintWords Go.Proofs.YtnfpbnnhijiflaaDoorW.PrintLast Go.Proofs.YtnfpbnnhijiflaaDoorW.PrintMore
attribute [local go_sem] str_gtr str_leq str_geq max2_int min2_int max_two min_two max_three min_three max_four min_four   -- for this text's walks alone
set_option linter.unusedVariables false
set_option linter.unusedSimpArgs false

/-! ### stockyardref03_Fill: function 27 -/
mutual
def stockyardref03_Fill.l0 : Nat → List ByteArray → List ByteArray → Int → List ByteArray → Int → Int → List ByteArray → Bool → Option (ByteArray × Int)
  | 0, _, _, _, _, _, _, _, _ => none
  | k + 1, x1, x7, x8, x26, x27, x28, x402000, x402001 => if x28 < x27 then (if 0 ≤ x28 then (if x28 < (x26.length : Int) then ((stockyardref03_Star.f k (rdOf ByteArray.empty x26 x28)).bind fun bt405 => (if bt405.2 = true then (if 0 ≤ x8 then (if x8 < (x1.length : Int) then ((stockyardref02_Component.f k (rdOf ByteArray.empty x1 x8)).bind fun t408 => (if t408 = true then (if (rdOf ByteArray.empty x1 x8).size + bt405.1.size ≤ 9223372036854775807 then (if x7.length < 8796093022208 then (stockyardref03_Fill.l0 k x1 (x7 ++ [(rdOf ByteArray.empty x1 x8) ++ bt405.1]) (wrap64 (x8 + 1)) x26 x27 (wrap64 (x28 + 1)) x402000 x402001) else (none)) else (none)) else (some ((⟨#[]⟩ : ByteArray), 32)))) else (none)) else (none)) else (if x7.length < 8796093022208 then (stockyardref03_Fill.l0 k x1 (x7 ++ [rdOf ByteArray.empty x26 x28]) x8 x26 x27 (wrap64 (x28 + 1)) x402000 x402001) else (none)))) else (none)) else (none)) else (if x402001 = true then (if 0 ≤ x8 then (if x8 < (x1.length : Int) then ((strings_Split.f (rdOf ByteArray.empty x1 x8) (⟨#[47]⟩ : ByteArray)).bind fun t417 => (stockyardref03_Fill.l1 k x7 t417 (t417.length : Int) 0)) else (none)) else (none)) else ((stockyardref02_Join.f x7).bind fun t426 => (some (t426, 0))))
def stockyardref03_Fill.l1 : Nat → List ByteArray → List ByteArray → Int → Int → Option (ByteArray × Int)
  | 0, _, _, _, _ => none
  | k + 1, x7, x63, x64, x65 => if x65 < x64 then (if 0 ≤ x65 then (if x65 < (x63.length : Int) then ((stockyardref02_Component.f k (rdOf ByteArray.empty x63 x65)).bind fun t421 => (if t421 = true then (if x7.length < 8796093022208 then (stockyardref03_Fill.l1 k (x7 ++ [rdOf ByteArray.empty x63 x65]) x63 x64 (wrap64 (x65 + 1))) else (none)) else (some ((⟨#[]⟩ : ByteArray), 32)))) else (none)) else (none)) else ((stockyardref02_Join.f x7).bind fun t425 => (some (t425, 0)))
end
def stockyardref03_Fill.f (k : Nat) (l0_0 : List ByteArray) (a0_1 : Bool) (l1 : List ByteArray) : Option (ByteArray × Int) := (stockyardref03_Check.f k l0_0 a0_1).bind fun t402 => (if t402 = 0 then ((stockyardref03_wildcards.f k l0_0 a0_1).bind fun t403 => (if (l1.length : Int) = t403 then (stockyardref03_Fill.l0 k l1 ([] : List ByteArray) 0 l0_0 (l0_0.length : Int) 0 l0_0 a0_1) else (some ((⟨#[]⟩ : ByteArray), 32)))) else (some ((⟨#[]⟩ : ByteArray), t402)))
theorem stockyardref03_Fill.mono_l : ∀ k, (∀ y0 y1 y2 y3 y4 y5 y6 y7, LeO (stockyardref03_Fill.l0 k y0 y1 y2 y3 y4 y5 y6 y7) (stockyardref03_Fill.l0 (k + 1) y0 y1 y2 y3 y4 y5 y6 y7)) ∧ (∀ y0 y1 y2 y3, LeO (stockyardref03_Fill.l1 k y0 y1 y2 y3) (stockyardref03_Fill.l1 (k + 1) y0 y1 y2 y3))
  | 0 => ⟨fun _ _ _ _ _ _ _ _ r h => by simp [stockyardref03_Fill.l0] at h, fun _ _ _ _ r h => by simp [stockyardref03_Fill.l1] at h⟩
  | k + 1 => by
    obtain ⟨ih0, ih1⟩ := stockyardref03_Fill.mono_l k
    refine ⟨?_, ?_⟩
    · intro y0 y1 y2 y3 y4 y5 y6 y7
      unfold stockyardref03_Fill.l0
      repeat' first
      | (with_reducible exact ih0 _ _ _ _ _ _ _ _)
      | (with_reducible exact ih1 _ _ _ _)
      | (with_reducible exact stockyardref02_Component.mono _ _)
      | (with_reducible exact stockyardref03_Check.mono _ _ _)
      | (with_reducible exact stockyardref03_Star.mono _ _)
      | (with_reducible exact stockyardref03_wildcards.mono _ _ _)
      | (with_reducible exact LeO.refl _)
      | (with_reducible exact LeO.none _)
      | (with_reducible refine LeO.ite ?_ ?_)
      | (with_reducible refine LeO.bind ?_ (fun _ => ?_))
      | exact ih0 _ _ _ _ _ _ _ _
      | exact ih1 _ _ _ _
      | exact stockyardref02_Component.mono _ _
      | exact stockyardref03_Check.mono _ _ _
      | exact stockyardref03_Star.mono _ _
      | exact stockyardref03_wildcards.mono _ _ _
      | exact LeO.none _
      | refine LeO.ite ?_ ?_
      | refine LeO.bind ?_ (fun _ => ?_)
    · intro y0 y1 y2 y3
      unfold stockyardref03_Fill.l1
      repeat' first
      | (with_reducible exact ih0 _ _ _ _ _ _ _ _)
      | (with_reducible exact ih1 _ _ _ _)
      | (with_reducible exact stockyardref02_Component.mono _ _)
      | (with_reducible exact stockyardref03_Check.mono _ _ _)
      | (with_reducible exact stockyardref03_Star.mono _ _)
      | (with_reducible exact stockyardref03_wildcards.mono _ _ _)
      | (with_reducible exact LeO.refl _)
      | (with_reducible exact LeO.none _)
      | (with_reducible refine LeO.ite ?_ ?_)
      | (with_reducible refine LeO.bind ?_ (fun _ => ?_))
      | exact ih0 _ _ _ _ _ _ _ _
      | exact ih1 _ _ _ _
      | exact stockyardref02_Component.mono _ _
      | exact stockyardref03_Check.mono _ _ _
      | exact stockyardref03_Star.mono _ _
      | exact stockyardref03_wildcards.mono _ _ _
      | exact LeO.none _
      | refine LeO.ite ?_ ?_
      | refine LeO.bind ?_ (fun _ => ?_)
theorem stockyardref03_Fill.mono : ∀ a0 a1 a2 k, LeO (stockyardref03_Fill.f k a0 a1 a2) (stockyardref03_Fill.f (k + 1) a0 a1 a2) := by
  intro a0 a1 a2 k
  obtain ⟨ih0, ih1⟩ := stockyardref03_Fill.mono_l k
  unfold stockyardref03_Fill.f
  repeat' first
      | (with_reducible exact ih0 _ _ _ _ _ _ _ _)
      | (with_reducible exact ih1 _ _ _ _)
      | (with_reducible exact stockyardref02_Component.mono _ _)
      | (with_reducible exact stockyardref03_Check.mono _ _ _)
      | (with_reducible exact stockyardref03_Star.mono _ _)
      | (with_reducible exact stockyardref03_wildcards.mono _ _ _)
      | (with_reducible exact LeO.refl _)
      | (with_reducible exact LeO.none _)
      | (with_reducible refine LeO.ite ?_ ?_)
      | (with_reducible refine LeO.bind ?_ (fun _ => ?_))
      | exact ih0 _ _ _ _ _ _ _ _
      | exact ih1 _ _ _ _
      | exact stockyardref02_Component.mono _ _
      | exact stockyardref03_Check.mono _ _ _
      | exact stockyardref03_Star.mono _ _
      | exact stockyardref03_wildcards.mono _ _ _
      | exact LeO.none _
      | refine LeO.ite ?_ ?_
      | refine LeO.bind ?_ (fun _ => ?_)
set_option maxHeartbeats 8000000 in
set_option maxRecDepth 100000 in
theorem stockyardref03_Fill.calls (k : Nat) (A0_0 : Option Addr) (c0_0 : Nat) (l0_0 : List ByteArray) (a0_1 : Bool) (A1 : Option Addr) (c1 : Nat) (l1 : List ByteArray) (r1 : ByteArray) (r2 : Int) (w : World) (hr0_0 : Kd.C Kd.string w A0_0 l0_0.length l0_0) (hc0_0 : l0_0.length ≤ c0_0) (hr1 : Kd.C Kd.string w A1 l1.length l1) (hc1 : l1.length ≤ c1) (h : stockyardref03_Fill.f k l0_0 a0_1 l1 = some (r1, r2)) :
    Calls Tryd.prog 27 #[.agg #[.slice A0_0 l0_0.length c0_0, .bool a0_1], .slice A1 l1.length c1] w fun e w' => e = .returned (.tuple #[.string r1, .int .i64 r2]) ∧ Below w.heap.size w w' := by
  have hu24 := Tryd.underlying24
  have HR0_0 := Aside0.mk hr0_0
  have HC0_0 := Aside0.mk hc0_0
  clear hr0_0 hc0_0
  have HR1 := Aside0.mk hr1
  have HC1 := Aside0.mk hc1
  clear hr1 hc1
  have HB := Aside0.mk (Below.refl w.heap.size w)
  have H : ((stockyardref03_Check.f k l0_0 a0_1).bind fun t402 => (if t402 = 0 then ((stockyardref03_wildcards.f k l0_0 a0_1).bind fun t403 => (if (l1.length : Int) = t403 then (stockyardref03_Fill.l0 k l1 ([] : List ByteArray) 0 l0_0 (l0_0.length : Int) 0 l0_0 a0_1) else (some ((⟨#[]⟩ : ByteArray), 32)))) else (some ((⟨#[]⟩ : ByteArray), t402)))) = some (r1, r2) := h
  clear h
  replace H := Option.bind_eq_some_iff.mp H
  obtain ⟨t402, A30, H⟩ := H
  replace H : (if t402 = 0 then ((stockyardref03_wildcards.f k l0_0 a0_1).bind fun t403 => (if (l1.length : Int) = t403 then (stockyardref03_Fill.l0 k l1 ([] : List ByteArray) 0 l0_0 (l0_0.length : Int) 0 l0_0 a0_1) else (some ((⟨#[]⟩ : ByteArray), 32)))) else (some ((⟨#[]⟩ : ByteArray), t402))) = some (r1, r2) := H
  have A3 := Aside0.mk A30
  clear A30
  by_cases c4 : t402 = 0
  · rw [if_pos c4] at H
    have c4b0 : (t402 == 0) = true := beq_iff_eq.mpr c4
    have c4b1 : (t402 != 0) = false := bne_eq_false_iff_eq.mpr c4
    clear c4
    replace H := Option.bind_eq_some_iff.mp H
    obtain ⟨t403, A50, H⟩ := H
    replace H : (if (l1.length : Int) = t403 then (stockyardref03_Fill.l0 k l1 ([] : List ByteArray) 0 l0_0 (l0_0.length : Int) 0 l0_0 a0_1) else (some ((⟨#[]⟩ : ByteArray), 32))) = some (r1, r2) := H
    have A5 := Aside0.mk A50
    clear A50
    by_cases c6 : (l1.length : Int) = t403
    · rw [if_pos c6] at H
      have c6b0 : ((l1.length : Int) == t403) = true := beq_iff_eq.mpr c6
      have c6b1 : ((l1.length : Int) != t403) = false := bne_eq_false_iff_eq.mpr c6
      clear c6
      have H' := Aside0.mk H
      clear H
      go_enter Tryd.func27, Tryd.ntmps27
      go_wp2_with (first | ((with_reducible refine gate_dst (N := 2) rfl ?_); refine box_event ?hg (N := 2) ?hd (cs := #[.slice A0_0 l0_0.length c0_0, .bool a0_1]) (t := 24) ?hr ?_; (case hd => rfl); (case hg => rfl); (case hr => first | (go_simp; done) | (go_simp; rfl)); intro gb401 hg w7 hbox hb; have n0_ := Aside0.mk (below_step (by repeat (first | (with_reducible first | exact HB.out | apply below_alloc | apply pw_below_drewN | apply below_drew1) | exact HB.out)) hb); have n1_ := Aside0.mk (hbox); have n2_ := Aside0.mk ((by rw [hg]; exact (below_size (by repeat (first | (with_reducible first | exact HB.out | apply below_alloc | apply pw_below_drewN | apply below_drew1) | exact HB.out))) : w.heap.size ≤ gb401)); have n3_ := Aside0.mk ((by rw [hg]; exact (below_size (by repeat (first | (with_reducible first | exact HB.out | apply below_alloc | apply pw_below_drewN | apply below_drew1) | exact HB.out))) : w.heap.size ≤ gb401)); clear HB; have HB := n0_; have BK401 := n1_; have GW401 := n2_; have GE401 := n3_; clear n0_ n1_ n2_ n3_; clear hb hbox hg; have hcz8_0 : w7.cell? ⟨gb401, 0, none⟩ = some (.slice A0_0 l0_0.length c0_0) := (blk_cell BK401.out 0).trans rfl; have hcz8_1 : w7.cell? ⟨gb401, 1, none⟩ = some (.bool a0_1) := (blk_cell BK401.out 1).trans rfl; have hfz8_0 := blk_frozen BK401.out 0; have hfz8_1 := blk_frozen BK401.out 1) | ((with_reducible refine gate_callee (f := 20) rfl ?_); refine goesL_ (some 16) rfl rfl Tryd.func20 (by kernel_rfl) rfl #[.agg #[.slice A0_0 l0_0.length c0_0, .bool a0_1]] rfl (by (try simp only [List.map_toArray, List.map_cons, List.map_nil]); first | done | rfl | (simp only [List.length_drop, List.length_take]; rfl)) ?_; (with_reducible refine (stockyardref03_Check.calls k _ _ l0_0 a0_1 t402 _ ?side1 ?side2 A3.out).mono ?_); (case side1 => repeat (first | exact (Kd.C_below HR0_0.out HB.out) | (with_reducible refine Kd.C_alloc ?_ _) | (with_reducible refine Kd.C_drewN ?_ _) | (with_reducible refine Kd.C_drew ?_))); (case side2 => exact HC0_0.out); rintro e w9 ⟨rfl, hb⟩; refine ⟨_, rfl, ?_⟩; have n0_ := Aside0.mk (blk_below (g := gb401) (o := .cells #[.slice A0_0 l0_0.length c0_0, .bool a0_1] 24 (0, 0)) (by (with_reducible repeat (first | refine blk_drewN ?_ _ | refine blk_drew ?_ | refine blk_alloc ?_ _)); exact BK401.out) hb); have n1_ := Aside0.mk (below_step (by repeat (first | (with_reducible first | exact HB.out | apply below_alloc | apply pw_below_drewN | apply below_drew1 | refine below_set ?_ GE401.out) | exact HB.out)) hb); clear BK401; clear HB; have BK401 := n0_; have HB := n1_; clear n0_ n1_; (try clear hb); (try clear hb2); (try clear hk); (try clear hi); have hcz10_0 : w9.cell? ⟨gb401, 0, none⟩ = some (.slice A0_0 l0_0.length c0_0) := (blk_cell BK401.out 0).trans rfl; have hcz10_1 : w9.cell? ⟨gb401, 1, none⟩ = some (.bool a0_1) := (blk_cell BK401.out 1).trans rfl; have hfz10_0 := blk_frozen BK401.out 0; have hfz10_1 := blk_frozen BK401.out 1) | ((with_reducible refine gate_callee (f := 41) rfl ?_); refine goesL_ (some 23) rfl rfl Tryd.func41 (by kernel_rfl) rfl #[.agg #[.slice A0_0 l0_0.length c0_0, .bool a0_1]] rfl (by (try simp only [List.map_toArray, List.map_cons, List.map_nil]); first | done | rfl | (simp only [List.length_drop, List.length_take]; rfl)) ?_; (with_reducible refine (stockyardref03_wildcards.calls k _ _ l0_0 a0_1 t403 _ ?side1 ?side2 A5.out).mono ?_); (case side1 => repeat (first | exact (Kd.C_below HR0_0.out HB.out) | (with_reducible refine Kd.C_alloc ?_ _) | (with_reducible refine Kd.C_drewN ?_ _) | (with_reducible refine Kd.C_drew ?_))); (case side2 => exact HC0_0.out); rintro e w11 ⟨rfl, hb⟩; refine ⟨_, rfl, ?_⟩; have n0_ := Aside0.mk (blk_below (g := gb401) (o := .cells #[.slice A0_0 l0_0.length c0_0, .bool a0_1] 24 (0, 0)) (by (with_reducible repeat (first | refine blk_drewN ?_ _ | refine blk_drew ?_ | refine blk_alloc ?_ _)); exact BK401.out) hb); have n1_ := Aside0.mk (below_step (by repeat (first | (with_reducible first | exact HB.out | apply below_alloc | apply pw_below_drewN | apply below_drew1 | refine below_set ?_ GE401.out) | exact HB.out)) hb); clear BK401; clear HB; have BK401 := n0_; have HB := n1_; clear n0_ n1_; (try clear hb); (try clear hb2); (try clear hk); (try clear hi); have hcz12_0 : w11.cell? ⟨gb401, 0, none⟩ = some (.slice A0_0 l0_0.length c0_0) := (blk_cell BK401.out 0).trans rfl; have hcz12_1 : w11.cell? ⟨gb401, 1, none⟩ = some (.bool a0_1) := (blk_cell BK401.out 1).trans rfl; have hfz12_0 := blk_frozen BK401.out 0; have hfz12_1 := blk_frozen BK401.out 1))
      go_loopg [7, 8, 28] k (fun kq v7 v8 v28 w' => ∃ (x7_1 : List ByteArray) (x8_1 : Int) (x28_1 : Int), v8 = .int .i64 x8_1 ∧ v28 = .int .i64 x28_1 ∧ Aside0 (stockyardref03_Fill.l0 kq l1 x7_1 x8_1 l0_0 (l0_0.length : Int) x28_1 l0_0 a0_1 = some (r1, r2)) ∧ Aside0 (kq ≤ k) ∧ Aside0 (Kd.R Kd.string 9 w' w.heap.size (fun _ => True) v7 x7_1) ∧ Aside0 (w'.heap[gb401]? = some (.cells #[(.slice A0_0 l0_0.length c0_0), .bool a0_1] 24 (0, 0))) ∧ Aside0 (Below w.heap.size w w'))
      case atStart => exact ⟨(([] : List ByteArray)), (0), (0), (by first | rfl | (simp; done) | (simp [*]; done)), (by first | rfl | (simp; done) | (simp [*]; done)), H', ⟨Nat.le_refl _⟩, ⟨by first | exact Kd.R_nil _ _ _ _ _ | exact Kd.N_nil _ _ _ _ _ | exact Kd.V_nil _ _ _ _ _ | exact Kd.Q_nil _ _ _ _ _ | exact Kd.S_nil _ _ _ _ _⟩, ⟨by (with_reducible repeat (first | refine blk_drewN ?_ _ | refine blk_drew ?_ | refine blk_alloc ?_ _)); exact BK401.out⟩, ⟨by repeat (first | (with_reducible first | exact HB.out | apply below_alloc | apply pw_below_drewN | apply below_drew1 | refine below_set ?_ GE401.out) | exact HB.out)⟩⟩
      case round =>
        clear H'
        try clear c1
        try clear c2
        try clear p2
        try clear c4
        try clear c4b0
        try clear c4b1
        try clear c6
        try clear c6b0
        try clear c6b1
        try clear hcz10_0
        try clear hcz10_1
        try clear hcz12_0
        try clear hcz12_1
        try clear hcz8_0
        try clear hcz8_1
        try clear hfz10_0
        try clear hfz10_1
        try clear hfz12_0
        try clear hfz12_1
        try clear hfz8_0
        try clear hfz8_1
        obtain ⟨x7_1, x8_1, x28_1, rfl, rfl, HA, HK1, HO_7, BK401, HB⟩ := hrel
        cases gk with
        | zero => exact absurd HA.out (by simp [stockyardref03_Fill.l0])
        | succ k1 =>
          have H := HA.out
          clear HA
          simp only [stockyardref03_Fill.l0] at H
          by_cases c13 : x28_1 < (l0_0.length : Int)
          · rw [if_pos c13] at H
            have c13b0 : decide (x28_1 < (l0_0.length : Int)) = true := decide_eq_true c13
            clear c13
            by_cases c14 : 0 ≤ x28_1
            · rw [if_pos c14] at H
              have c14b0 : decide (0 ≤ x28_1) = true := decide_eq_true c14
              clear c14
              by_cases c15 : x28_1 < (l0_0.length : Int)
              · rw [if_pos c15] at H
                have c15b0 : decide (x28_1 < (l0_0.length : Int)) = true := decide_eq_true c15
                clear c15
                replace H := Option.bind_eq_some_iff.mp H
                obtain ⟨⟨t405, t406⟩, A160, H⟩ := H
                replace H : (if t406 = true then (if 0 ≤ x8_1 then (if x8_1 < (l1.length : Int) then ((stockyardref02_Component.f k1 (rdOf ByteArray.empty l1 x8_1)).bind fun t408 => (if t408 = true then (if (rdOf ByteArray.empty l1 x8_1).size + t405.size ≤ 9223372036854775807 then (if x7_1.length < 8796093022208 then (stockyardref03_Fill.l0 k1 l1 (x7_1 ++ [(rdOf ByteArray.empty l1 x8_1) ++ t405]) (wrap64 (x8_1 + 1)) l0_0 (l0_0.length : Int) (wrap64 (x28_1 + 1)) l0_0 a0_1) else (none)) else (none)) else (some ((⟨#[]⟩ : ByteArray), 32)))) else (none)) else (none)) else (if x7_1.length < 8796093022208 then (stockyardref03_Fill.l0 k1 l1 (x7_1 ++ [rdOf ByteArray.empty l0_0 x28_1]) x8_1 l0_0 (l0_0.length : Int) (wrap64 (x28_1 + 1)) l0_0 a0_1) else (none))) = some (r1, r2) := H
                have A16 := Aside0.mk A160
                clear A160
                by_cases c17 : t406 = true
                · subst c17
                  have H1 : (if 0 ≤ x8_1 then (if x8_1 < (l1.length : Int) then ((stockyardref02_Component.f k1 (rdOf ByteArray.empty l1 x8_1)).bind fun t408 => (if t408 = true then (if (rdOf ByteArray.empty l1 x8_1).size + t405.size ≤ 9223372036854775807 then (if x7_1.length < 8796093022208 then (stockyardref03_Fill.l0 k1 l1 (x7_1 ++ [(rdOf ByteArray.empty l1 x8_1) ++ t405]) (wrap64 (x8_1 + 1)) l0_0 (l0_0.length : Int) (wrap64 (x28_1 + 1)) l0_0 a0_1) else (none)) else (none)) else (some ((⟨#[]⟩ : ByteArray), 32)))) else (none)) else (none)) = some (r1, r2) := by rw [if_pos rfl] at H; exact H
                  clear H
                  have H := H1
                  clear H1
                  by_cases c18 : 0 ≤ x8_1
                  · rw [if_pos c18] at H
                    have c18b0 : decide (0 ≤ x8_1) = true := decide_eq_true c18
                    clear c18
                    by_cases c19 : x8_1 < (l1.length : Int)
                    · rw [if_pos c19] at H
                      have c19b0 : decide (x8_1 < (l1.length : Int)) = true := decide_eq_true c19
                      clear c19
                      replace H := Option.bind_eq_some_iff.mp H
                      obtain ⟨t408, A200, H⟩ := H
                      replace H : (if t408 = true then (if (rdOf ByteArray.empty l1 x8_1).size + t405.size ≤ 9223372036854775807 then (if x7_1.length < 8796093022208 then (stockyardref03_Fill.l0 k1 l1 (x7_1 ++ [(rdOf ByteArray.empty l1 x8_1) ++ t405]) (wrap64 (x8_1 + 1)) l0_0 (l0_0.length : Int) (wrap64 (x28_1 + 1)) l0_0 a0_1) else (none)) else (none)) else (some ((⟨#[]⟩ : ByteArray), 32))) = some (r1, r2) := H
                      have A20 := Aside0.mk A200
                      clear A200
                      by_cases c21 : t408 = true
                      · subst c21
                        have H1 : (if (rdOf ByteArray.empty l1 x8_1).size + t405.size ≤ 9223372036854775807 then (if x7_1.length < 8796093022208 then (stockyardref03_Fill.l0 k1 l1 (x7_1 ++ [(rdOf ByteArray.empty l1 x8_1) ++ t405]) (wrap64 (x8_1 + 1)) l0_0 (l0_0.length : Int) (wrap64 (x28_1 + 1)) l0_0 a0_1) else (none)) else (none)) = some (r1, r2) := by rw [if_pos rfl] at H; exact H
                        clear H
                        have H := H1
                        clear H1
                        by_cases c22 : (rdOf ByteArray.empty l1 x8_1).size + t405.size ≤ 9223372036854775807
                        · rw [if_pos c22] at H
                          have c22b0 := eq_true c22
                          have c22b1 : decide ((rdOf ByteArray.empty l1 x8_1).size + t405.size ≤ 9223372036854775807) = true := decide_eq_true c22
                          try have c22b2 : (9223372036854775807 < (rdOf ByteArray.empty l1 x8_1).size + t405.size) = False := eq_false (Nat.not_lt.2 c22)
                          by_cases c23 : x7_1.length < 8796093022208
                          · rw [if_pos c23] at H
                            have LMc23 := Aside0.mk c23
                            clear c23
                            obtain ⟨y410, hy410⟩ : ∃ y_ : List ByteArray, y_ = (x7_1 ++ [(rdOf ByteArray.empty l1 x8_1) ++ t405]) := ⟨_, rfl⟩
                            replace H : (stockyardref03_Fill.l0 k1 l1 y410 (wrap64 (x8_1 + 1)) l0_0 (l0_0.length : Int) (wrap64 (x28_1 + 1)) l0_0 a0_1) = some (r1, r2) := by first | (rw [hy410]; with_reducible exact H) | (have H2_ := (Option.bind_some _ _).symm.trans H; rw [hy410]; with_reducible exact H2_) | (have H2_ := (Option.bind_some _ _).symm.trans H; with_reducible exact H2_) | with_reducible exact H | (rw [hy410]; exact H) | exact H
                            have Ny410 := Aside0.mk hy410
                            clear hy410
                            have H' := Aside0.mk H
                            clear H
                            have p404 : 0 ≤ (x28_1 : Int) := of_decide_eq_true (by first | (with_reducible assumption) | assumption)
                            have q404 : x28_1 < (l0_0.length : Int) := of_decide_eq_true (by first | (with_reducible assumption) | assumption)
                            obtain ⟨ad404, e404, hx404_0⟩ := Kd.at_string HR0_0.out x28_1 p404 q404
                            cases e404
                            replace hx404_0 := (HB.out.cell (World.block_lt_of_cell? w _ hx404_0)).trans hx404_0
                            replace p404 := eq_true p404
                            replace q404 := eq_true q404
                            go_wp2_with (first | ((with_reducible refine gate_callee (f := 32) rfl ?_); refine goesL_ (some 34) rfl rfl Tryd.func32 (by kernel_rfl) rfl #[.string (rdOf ByteArray.empty l0_0 x28_1)] rfl (by (try simp only [List.map_toArray, List.map_cons, List.map_nil]); first | done | rfl | (simp only [List.length_drop, List.length_take]; rfl)) ?_; (with_reducible refine (stockyardref03_Star.calls k1 (rdOf ByteArray.empty l0_0 x28_1) t405 true _ A16.out).mono ?_); rintro e w' ⟨rfl, ⟨nd, rfl⟩⟩; refine ⟨_, rfl, ?_⟩; have p407 : 0 ≤ (x8_1 : Int) := of_decide_eq_true (by first | (with_reducible assumption) | assumption); have q407 : x8_1 < (l1.length : Int) := of_decide_eq_true (by first | (with_reducible assumption) | assumption); obtain ⟨ad407, e407, hx407_0⟩ := Kd.at_string HR1.out x8_1 p407 q407; cases e407; replace hx407_0 := (HB.out.cell (World.block_lt_of_cell? w _ hx407_0)).trans hx407_0; replace p407 := eq_true p407; replace q407 := eq_true q407) | ((with_reducible refine gate_callee (f := 30) rfl ?_); refine goesL_ (some 42) rfl rfl Tryd.func30 (by kernel_rfl) rfl #[.string (rdOf ByteArray.empty l1 x8_1)] rfl (by (try simp only [List.map_toArray, List.map_cons, List.map_nil]); first | done | rfl | (simp only [List.length_drop, List.length_take]; rfl)) ?_; (with_reducible refine (stockyardref02_Component.calls k1 (rdOf ByteArray.empty l1 x8_1) true _ A20.out).mono ?_); rintro e w' ⟨rfl, ⟨nd, rfl⟩⟩; refine ⟨_, rfl, ?_⟩; have p409 : 0 ≤ (x8_1 : Int) := of_decide_eq_true (by first | (with_reducible assumption) | assumption); have q409 : x8_1 < (l1.length : Int) := of_decide_eq_true (by first | (with_reducible assumption) | assumption); obtain ⟨ad409, e409, hx409_0⟩ := Kd.at_string HR1.out x8_1 p409 q409; obtain rfl : ad407 = ad409 := (by injection e409); replace hx409_0 := (HB.out.cell (World.block_lt_of_cell? w _ hx409_0)).trans hx409_0; replace p409 := eq_true p409; replace q409 := eq_true q409) | ((with_reducible refine gate_builtin (b := .append) (xs := #[.tmp 52, .tmp 54]) rfl ?_); at_builtin; refine Kd.R_append Kd.string (w0 := w) w.heap.size rfl (.tmp 52) (.tmp 54) 22 9 (.string ⟨#[]⟩) 16 rfl Tryd.underlying22 info9 rfl (by decide) (by omega) u7 x7_1 ((rdOf ByteArray.empty l1 x8_1) ++ t405) [.string ((rdOf ByteArray.empty l1 x8_1) ++ t405)] (fun _ => True) (fun _ => False) rfl rfl ?aP (fun _ hk => hk.elim) ?aF ?aO ?aB ?aS ?aL ?_; (case aP => exact rfl); (case aB => exact (by repeat (first | (with_reducible first | exact HB.out | apply below_alloc | apply pw_below_drewN | apply below_drew1 | refine below_set ?_ GE401.out) | exact HB.out))); (case aF => exact (fun _ _ => trivial)); (case aO => exact (by (with_reducible repeat (first | apply Kd.R_alloc | apply Kd.R_drewN | apply Kd.R_drew)); exact HO_7.out)); (case aS => exact (below_size (by repeat (first | (with_reducible first | exact HB.out | apply below_alloc | apply pw_below_drewN | apply below_drew1 | refine below_set ?_ GE401.out) | exact HB.out)))); (case aL => have := LMc23.out; omega); intro v411 w24 ho hb hg hat; rw [← Ny410.out] at ho; have n0_ := Aside0.mk (blk_grown (g := gb401) (o := .cells #[.slice (some ad404) l0_0.length c0_0, .bool a0_1] 24 (0, 0)) (by (with_reducible repeat (first | refine blk_drewN ?_ _ | refine blk_drew ?_ | refine blk_alloc ?_ _)); exact BK401.out) hg (Kd.R_ne HO_7.out BK401.out (by decide))); have n1_ := Aside0.mk (hb); have n2_ := Aside0.mk (ho); clear BK401; clear HB; clear HO_7; have BK401 := n0_; have HB := n1_; have HO412 := n2_; clear n0_ n1_ n2_; clear ho hb hg hat))
                            go_roundg k1
                            case measure => have := HK1.out; omega
                            case rel => exact ⟨(y410), (wrap64 (x8_1 + 1)), (wrap64 (x28_1 + 1)), (by first | rfl | (simp; done) | (simp [*]; done)), (by first | rfl | (simp; done) | (simp [*]; done)), H', ⟨by have := HK1.out; omega⟩, ⟨by (with_reducible repeat (first | apply Kd.R_alloc | apply Kd.R_drewN | apply Kd.R_drew)); exact HO412.out⟩, ⟨by (with_reducible repeat (first | refine blk_drewN ?_ _ | refine blk_drew ?_ | refine blk_alloc ?_ _)); exact BK401.out⟩, ⟨by repeat (first | (with_reducible first | exact HB.out | apply below_alloc | apply pw_below_drewN | apply below_drew1 | refine below_set ?_ GE401.out) | exact HB.out)⟩⟩
                          · rw [if_neg c23] at H
                            exact absurd H (by simp)
                        · rw [if_neg c22] at H
                          exact absurd H (by simp)
                      · replace c21 := Bool.eq_false_iff.mpr c21
                        subst c21
                        have H1 : (some ((⟨#[]⟩ : ByteArray), 32)) = some (r1, r2) := by rw [if_neg (show ¬ (false = true) by decide)] at H; exact H
                        clear H
                        have H := H1
                        clear H1
                        simp only [Option.some.injEq, Prod.mk.injEq] at H
                        obtain ⟨rfl, rfl⟩ := H
                        have p404 : 0 ≤ (x28_1 : Int) := of_decide_eq_true (by first | (with_reducible assumption) | assumption)
                        have q404 : x28_1 < (l0_0.length : Int) := of_decide_eq_true (by first | (with_reducible assumption) | assumption)
                        obtain ⟨ad404, e404, hx404_0⟩ := Kd.at_string HR0_0.out x28_1 p404 q404
                        cases e404
                        replace hx404_0 := (HB.out.cell (World.block_lt_of_cell? w _ hx404_0)).trans hx404_0
                        replace p404 := eq_true p404
                        replace q404 := eq_true q404
                        go_wp2_with (first | ((with_reducible refine gate_callee (f := 32) rfl ?_); refine goesL_ (some 34) rfl rfl Tryd.func32 (by kernel_rfl) rfl #[.string (rdOf ByteArray.empty l0_0 x28_1)] rfl (by (try simp only [List.map_toArray, List.map_cons, List.map_nil]); first | done | rfl | (simp only [List.length_drop, List.length_take]; rfl)) ?_; (with_reducible refine (stockyardref03_Star.calls k1 (rdOf ByteArray.empty l0_0 x28_1) t405 true _ A16.out).mono ?_); rintro e w' ⟨rfl, ⟨nd, rfl⟩⟩; refine ⟨_, rfl, ?_⟩; have p407 : 0 ≤ (x8_1 : Int) := of_decide_eq_true (by first | (with_reducible assumption) | assumption); have q407 : x8_1 < (l1.length : Int) := of_decide_eq_true (by first | (with_reducible assumption) | assumption); obtain ⟨ad407, e407, hx407_0⟩ := Kd.at_string HR1.out x8_1 p407 q407; cases e407; replace hx407_0 := (HB.out.cell (World.block_lt_of_cell? w _ hx407_0)).trans hx407_0; replace p407 := eq_true p407; replace q407 := eq_true q407) | ((with_reducible refine gate_callee (f := 30) rfl ?_); refine goesL_ (some 42) rfl rfl Tryd.func30 (by kernel_rfl) rfl #[.string (rdOf ByteArray.empty l1 x8_1)] rfl (by (try simp only [List.map_toArray, List.map_cons, List.map_nil]); first | done | rfl | (simp only [List.length_drop, List.length_take]; rfl)) ?_; (with_reducible refine (stockyardref02_Component.calls k1 (rdOf ByteArray.empty l1 x8_1) false _ A20.out).mono ?_); rintro e w' ⟨rfl, ⟨nd, rfl⟩⟩; refine ⟨_, rfl, ?_⟩))
                        go_ret2
                        exact ⟨by first | rfl | (simp [errW_none, errW_some] <;> rfl) | (simp [*, errW_none, errW_some] <;> rfl), by repeat (first | (with_reducible first | exact HB.out | apply below_alloc | apply pw_below_drewN | apply below_drew1 | refine below_set ?_ GE401.out) | exact HB.out)⟩
                    · rw [if_neg c19] at H
                      exact absurd H (by simp)
                  · rw [if_neg c18] at H
                    exact absurd H (by simp)
                · replace c17 := Bool.eq_false_iff.mpr c17
                  subst c17
                  have H1 : (if x7_1.length < 8796093022208 then (stockyardref03_Fill.l0 k1 l1 (x7_1 ++ [rdOf ByteArray.empty l0_0 x28_1]) x8_1 l0_0 (l0_0.length : Int) (wrap64 (x28_1 + 1)) l0_0 a0_1) else (none)) = some (r1, r2) := by rw [if_neg (show ¬ (false = true) by decide)] at H; exact H
                  clear H
                  have H := H1
                  clear H1
                  by_cases c25 : x7_1.length < 8796093022208
                  · rw [if_pos c25] at H
                    have LMc25 := Aside0.mk c25
                    clear c25
                    obtain ⟨y413, hy413⟩ : ∃ y_ : List ByteArray, y_ = (x7_1 ++ [rdOf ByteArray.empty l0_0 x28_1]) := ⟨_, rfl⟩
                    replace H : (stockyardref03_Fill.l0 k1 l1 y413 x8_1 l0_0 (l0_0.length : Int) (wrap64 (x28_1 + 1)) l0_0 a0_1) = some (r1, r2) := by first | (rw [hy413]; with_reducible exact H) | (have H2_ := (Option.bind_some _ _).symm.trans H; rw [hy413]; with_reducible exact H2_) | (have H2_ := (Option.bind_some _ _).symm.trans H; with_reducible exact H2_) | with_reducible exact H | (rw [hy413]; exact H) | exact H
                    have Ny413 := Aside0.mk hy413
                    clear hy413
                    have H' := Aside0.mk H
                    clear H
                    have p404 : 0 ≤ (x28_1 : Int) := of_decide_eq_true (by first | (with_reducible assumption) | assumption)
                    have q404 : x28_1 < (l0_0.length : Int) := of_decide_eq_true (by first | (with_reducible assumption) | assumption)
                    obtain ⟨ad404, e404, hx404_0⟩ := Kd.at_string HR0_0.out x28_1 p404 q404
                    cases e404
                    replace hx404_0 := (HB.out.cell (World.block_lt_of_cell? w _ hx404_0)).trans hx404_0
                    replace p404 := eq_true p404
                    replace q404 := eq_true q404
                    go_wp2_with (first | ((with_reducible refine gate_callee (f := 32) rfl ?_); refine goesL_ (some 34) rfl rfl Tryd.func32 (by kernel_rfl) rfl #[.string (rdOf ByteArray.empty l0_0 x28_1)] rfl (by (try simp only [List.map_toArray, List.map_cons, List.map_nil]); first | done | rfl | (simp only [List.length_drop, List.length_take]; rfl)) ?_; (with_reducible refine (stockyardref03_Star.calls k1 (rdOf ByteArray.empty l0_0 x28_1) t405 false _ A16.out).mono ?_); rintro e w' ⟨rfl, ⟨nd, rfl⟩⟩; refine ⟨_, rfl, ?_⟩) | ((with_reducible refine gate_builtin (b := .append) (xs := #[.tmp 52, .tmp 54]) rfl ?_); at_builtin; refine Kd.R_append Kd.string (w0 := w) w.heap.size rfl (.tmp 52) (.tmp 54) 22 9 (.string ⟨#[]⟩) 16 rfl Tryd.underlying22 info9 rfl (by decide) (by omega) u7 x7_1 (rdOf ByteArray.empty l0_0 x28_1) [.string (rdOf ByteArray.empty l0_0 x28_1)] (fun _ => True) (fun _ => False) rfl rfl ?aP (fun _ hk => hk.elim) ?aF ?aO ?aB ?aS ?aL ?_; (case aP => exact rfl); (case aB => exact (by repeat (first | (with_reducible first | exact HB.out | apply below_alloc | apply pw_below_drewN | apply below_drew1 | refine below_set ?_ GE401.out) | exact HB.out))); (case aF => exact (fun _ _ => trivial)); (case aO => exact (by (with_reducible repeat (first | apply Kd.R_alloc | apply Kd.R_drewN | apply Kd.R_drew)); exact HO_7.out)); (case aS => exact (below_size (by repeat (first | (with_reducible first | exact HB.out | apply below_alloc | apply pw_below_drewN | apply below_drew1 | refine below_set ?_ GE401.out) | exact HB.out)))); (case aL => have := LMc25.out; omega); intro v414 w26 ho hb hg hat; rw [← Ny413.out] at ho; have n0_ := Aside0.mk (blk_grown (g := gb401) (o := .cells #[.slice (some ad404) l0_0.length c0_0, .bool a0_1] 24 (0, 0)) (by (with_reducible repeat (first | refine blk_drewN ?_ _ | refine blk_drew ?_ | refine blk_alloc ?_ _)); exact BK401.out) hg (Kd.R_ne HO_7.out BK401.out (by decide))); have n1_ := Aside0.mk (hb); have n2_ := Aside0.mk (ho); clear BK401; clear HB; clear HO_7; have BK401 := n0_; have HB := n1_; have HO415 := n2_; clear n0_ n1_ n2_; clear ho hb hg hat))
                    go_roundg k1
                    case measure => have := HK1.out; omega
                    case rel => exact ⟨(y413), (x8_1), (wrap64 (x28_1 + 1)), (by first | rfl | (simp; done) | (simp [*]; done)), (by first | rfl | (simp; done) | (simp [*]; done)), H', ⟨by have := HK1.out; omega⟩, ⟨by (with_reducible repeat (first | apply Kd.R_alloc | apply Kd.R_drewN | apply Kd.R_drew)); exact HO415.out⟩, ⟨by (with_reducible repeat (first | refine blk_drewN ?_ _ | refine blk_drew ?_ | refine blk_alloc ?_ _)); exact BK401.out⟩, ⟨by repeat (first | (with_reducible first | exact HB.out | apply below_alloc | apply pw_below_drewN | apply below_drew1 | refine below_set ?_ GE401.out) | exact HB.out)⟩⟩
                  · rw [if_neg c25] at H
                    exact absurd H (by simp)
              · rw [if_neg c15] at H
                exact absurd H (by simp)
            · rw [if_neg c14] at H
              exact absurd H (by simp)
          · rw [if_neg c13] at H
            have c13b0 : decide (x28_1 < (l0_0.length : Int)) = false := decide_eq_false c13
            clear c13
            by_cases c27 : a0_1 = true
            · subst c27
              have H1 : (if 0 ≤ x8_1 then (if x8_1 < (l1.length : Int) then ((strings_Split.f (rdOf ByteArray.empty l1 x8_1) (⟨#[47]⟩ : ByteArray)).bind fun t417 => (stockyardref03_Fill.l1 k1 x7_1 t417 (t417.length : Int) 0)) else (none)) else (none)) = some (r1, r2) := by rw [if_pos rfl] at H; exact H
              clear H
              have H := H1
              clear H1
              by_cases c28 : 0 ≤ x8_1
              · rw [if_pos c28] at H
                have c28b0 : decide (0 ≤ x8_1) = true := decide_eq_true c28
                clear c28
                by_cases c29 : x8_1 < (l1.length : Int)
                · rw [if_pos c29] at H
                  have c29b0 : decide (x8_1 < (l1.length : Int)) = true := decide_eq_true c29
                  clear c29
                  replace H := Option.bind_eq_some_iff.mp H
                  obtain ⟨t417, A300, H⟩ := H
                  replace H : (stockyardref03_Fill.l1 k1 x7_1 t417 (t417.length : Int) 0) = some (r1, r2) := H
                  have A30 := Aside0.mk A300
                  clear A300
                  have H' := Aside0.mk H
                  clear H
                  have hcz31_0 : wr.cell? ⟨gb401, 0, none⟩ = some (.slice A0_0 l0_0.length c0_0) := (blk_cell BK401.out 0).trans rfl
                  have hcz31_1 : wr.cell? ⟨gb401, 1, none⟩ = some (.bool true) := (blk_cell BK401.out 1).trans rfl
                  have hfz31_0 := blk_frozen BK401.out 0
                  have hfz31_1 := blk_frozen BK401.out 1
                  have p416 : 0 ≤ (x8_1 : Int) := of_decide_eq_true (by first | (with_reducible assumption) | assumption)
                  have q416 : x8_1 < (l1.length : Int) := of_decide_eq_true (by first | (with_reducible assumption) | assumption)
                  obtain ⟨ad416, e416, hx416_0⟩ := Kd.at_string HR1.out x8_1 p416 q416
                  cases e416
                  replace hx416_0 := (HB.out.cell (World.block_lt_of_cell? w _ hx416_0)).trans hx416_0
                  replace p416 := eq_true p416
                  replace q416 := eq_true q416
                  go_wp2_with (first | ((with_reducible refine gate_callee (f := 37) rfl ?_); refine goesL_ (some 63) rfl rfl Tryd.func37 (by kernel_rfl) rfl #[.string (rdOf ByteArray.empty l1 x8_1), .string (⟨#[47]⟩ : ByteArray)] rfl (by (try simp only [List.map_toArray, List.map_cons, List.map_nil]); first | done | rfl | (simp only [List.length_drop, List.length_take]; rfl)) ?_; (with_reducible refine (strings_Split.calls (rdOf ByteArray.empty l1 x8_1) (⟨#[47]⟩ : ByteArray) t417 _ A30.out).mono ?_); rintro e w32 ⟨v418, rfl, ho0, hb⟩; refine ⟨_, rfl, ?_⟩; have n0_ := Aside0.mk (Kd.R_elder' (by (with_reducible repeat (first | apply Kd.R_alloc | apply Kd.R_drewN | apply Kd.R_drew)); exact HO_7.out) (Kd.R_base ho0) hb); have n1_ := Aside0.mk (Kd.R_lower (Kd.R_new' ho0 (Kd.R_lt (by (with_reducible repeat (first | apply Kd.R_alloc | apply Kd.R_drewN | apply Kd.R_drew)); exact HO_7.out))) (below_size (by repeat (first | (with_reducible first | exact HB.out | apply below_alloc | apply pw_below_drewN | apply below_drew1 | refine below_set ?_ GE401.out) | exact HB.out)))); have n2_ := Aside0.mk (blk_below (g := gb401) (o := .cells #[.slice A0_0 l0_0.length c0_0, .bool true] 24 (0, 0)) (by (with_reducible repeat (first | refine blk_drewN ?_ _ | refine blk_drew ?_ | refine blk_alloc ?_ _)); exact BK401.out) hb); have n3_ := Aside0.mk (below_step (by repeat (first | (with_reducible first | exact HB.out | apply below_alloc | apply pw_below_drewN | apply below_drew1 | refine below_set ?_ GE401.out) | exact HB.out)) hb); clear HO_7; clear BK401; clear HB; have HO_7 := n0_; have HO419 := n1_; have BK401 := n2_; have HB := n3_; clear n0_ n1_ n2_ n3_; (try clear hb); (try clear hb2); (try clear hk); (try clear hi); (try clear ho0); obtain ⟨Ao33, co33, eo33⟩ := Kd.R_slice HO419.out; subst eo33))
                  go_loopg [7, 65] k1 (fun kq v7 v65 w' => ∃ (x7_2 : List ByteArray) (x65_2 : Int), v65 = .int .i64 x65_2 ∧ Aside0 (stockyardref03_Fill.l1 kq x7_2 t417 (t417.length : Int) x65_2 = some (r1, r2)) ∧ Aside0 (kq ≤ k1) ∧ Aside0 (Kd.R Kd.string 9 w' w.heap.size (fun k_ => some k_ ≠ ((.slice Ao33 t417.length co33) : Value).ownBlock) v7 x7_2) ∧ Aside0 (Kd.R Kd.string 9 w' w.heap.size (fun k_ => some k_ ≠ (v7 : Value).ownBlock) (.slice Ao33 t417.length co33) t417) ∧ Aside0 (w'.heap[gb401]? = some (.cells #[(.slice A0_0 l0_0.length c0_0), .bool true] 24 (0, 0))) ∧ Aside0 (Below w.heap.size w w'))
                  case atStart => exact ⟨(x7_1), (0), (by first | rfl | (simp; done) | (simp [*]; done)), H', ⟨Nat.le_refl _⟩, ⟨by (with_reducible repeat (first | apply Kd.R_alloc | apply Kd.R_drewN | apply Kd.R_drew)); exact Kd.R_mono HO_7.out (fun _ hk => hk.2)⟩, ⟨by (with_reducible repeat (first | apply Kd.R_alloc | apply Kd.R_drewN | apply Kd.R_drew)); exact Kd.R_mono HO419.out (fun _ hk => hk.2)⟩, ⟨by (with_reducible repeat (first | refine blk_drewN ?_ _ | refine blk_drew ?_ | refine blk_alloc ?_ _)); exact BK401.out⟩, ⟨by repeat (first | (with_reducible first | exact HB.out | apply below_alloc | apply pw_below_drewN | apply below_drew1 | refine below_set ?_ GE401.out) | exact HB.out)⟩⟩
                  case round =>
                    clear H'
                    try clear c1
                    try clear c2
                    try clear p2
                    try clear c3
                    try clear c4
                    try clear c4b0
                    try clear c4b1
                    try clear p4
                    try clear q4
                    try clear hx4
                    try clear c6
                    try clear c6b0
                    try clear c6b1
                    try clear p6
                    try clear c13
                    try clear c13b0
                    try clear c14
                    try clear c14b0
                    try clear c15
                    try clear c15b0
                    try clear c17
                    try clear c18
                    try clear c18b0
                    try clear c19
                    try clear c19b0
                    try clear c20
                    try clear c21
                    try clear c22
                    try clear c22b0
                    try clear c22b1
                    try clear c22b2
                    try clear c23
                    try clear c25
                    try clear c27
                    try clear c28
                    try clear c28b0
                    try clear c29
                    try clear c29b0
                    try clear c30
                    try clear c32
                    try clear hcz10_0
                    try clear hcz10_1
                    try clear hcz12_0
                    try clear hcz12_1
                    try clear hcz31_0
                    try clear hcz31_1
                    try clear hcz8_0
                    try clear hcz8_1
                    try clear hfz10_0
                    try clear hfz10_1
                    try clear hfz12_0
                    try clear hfz12_1
                    try clear hfz31_0
                    try clear hfz31_1
                    try clear hfz8_0
                    try clear hfz8_1
                    try clear hx404_0
                    try clear hx407_0
                    try clear hx409_0
                    try clear hx416_0
                    try clear p2
                    try clear p404
                    try clear p407
                    try clear p409
                    try clear p416
                    try clear q404
                    try clear q407
                    try clear q409
                    try clear q416
                    obtain ⟨x7_2, x65_2, rfl, HA, HK2, HO_7, HO_63, BK401, HB⟩ := hrel
                    cases gk with
                    | zero => exact absurd HA.out (by simp [stockyardref03_Fill.l1])
                    | succ k2 =>
                      have H := HA.out
                      clear HA
                      simp only [stockyardref03_Fill.l1] at H
                      by_cases c34 : x65_2 < (t417.length : Int)
                      · rw [if_pos c34] at H
                        have c34b0 : decide (x65_2 < (t417.length : Int)) = true := decide_eq_true c34
                        clear c34
                        by_cases c35 : 0 ≤ x65_2
                        · rw [if_pos c35] at H
                          have c35b0 : decide (0 ≤ x65_2) = true := decide_eq_true c35
                          clear c35
                          by_cases c36 : x65_2 < (t417.length : Int)
                          · rw [if_pos c36] at H
                            have c36b0 : decide (x65_2 < (t417.length : Int)) = true := decide_eq_true c36
                            clear c36
                            replace H := Option.bind_eq_some_iff.mp H
                            obtain ⟨t421, A370, H⟩ := H
                            replace H : (if t421 = true then (if x7_2.length < 8796093022208 then (stockyardref03_Fill.l1 k2 (x7_2 ++ [rdOf ByteArray.empty t417 x65_2]) t417 (t417.length : Int) (wrap64 (x65_2 + 1))) else (none)) else (some ((⟨#[]⟩ : ByteArray), 32))) = some (r1, r2) := H
                            have A37 := Aside0.mk A370
                            clear A370
                            by_cases c38 : t421 = true
                            · subst c38
                              have H1 : (if x7_2.length < 8796093022208 then (stockyardref03_Fill.l1 k2 (x7_2 ++ [rdOf ByteArray.empty t417 x65_2]) t417 (t417.length : Int) (wrap64 (x65_2 + 1))) else (none)) = some (r1, r2) := by rw [if_pos rfl] at H; exact H
                              clear H
                              have H := H1
                              clear H1
                              by_cases c39 : x7_2.length < 8796093022208
                              · rw [if_pos c39] at H
                                have LMc39 := Aside0.mk c39
                                clear c39
                                obtain ⟨y422, hy422⟩ : ∃ y_ : List ByteArray, y_ = (x7_2 ++ [rdOf ByteArray.empty t417 x65_2]) := ⟨_, rfl⟩
                                replace H : (stockyardref03_Fill.l1 k2 y422 t417 (t417.length : Int) (wrap64 (x65_2 + 1))) = some (r1, r2) := by first | (rw [hy422]; with_reducible exact H) | (have H2_ := (Option.bind_some _ _).symm.trans H; rw [hy422]; with_reducible exact H2_) | (have H2_ := (Option.bind_some _ _).symm.trans H; with_reducible exact H2_) | with_reducible exact H | (rw [hy422]; exact H) | exact H
                                have Ny422 := Aside0.mk hy422
                                clear hy422
                                have H' := Aside0.mk H
                                clear H
                                have p420 : 0 ≤ (x65_2 : Int) := of_decide_eq_true (by first | (with_reducible assumption) | assumption)
                                have q420 : x65_2 < (t417.length : Int) := of_decide_eq_true (by first | (with_reducible assumption) | assumption)
                                obtain ⟨ad420, e420, hx420_0⟩ := Kd.at_string (Kd.R_reads' HO_63.out).2.2 x65_2 p420 q420
                                cases e420
                                replace p420 := eq_true p420
                                replace q420 := eq_true q420
                                go_wp2_with (first | ((with_reducible refine gate_callee (f := 30) rfl ?_); refine goesL_ (some 70) rfl rfl Tryd.func30 (by kernel_rfl) rfl #[.string (rdOf ByteArray.empty t417 x65_2)] rfl (by (try simp only [List.map_toArray, List.map_cons, List.map_nil]); first | done | rfl | (simp only [List.length_drop, List.length_take]; rfl)) ?_; (with_reducible refine (stockyardref02_Component.calls k2 (rdOf ByteArray.empty t417 x65_2) true _ A37.out).mono ?_); rintro e w' ⟨rfl, ⟨nd, rfl⟩⟩; refine ⟨_, rfl, ?_⟩) | ((with_reducible refine gate_builtin (b := .append) (xs := #[.tmp 72, .tmp 74]) rfl ?_); at_builtin; refine Kd.R_append Kd.string (w0 := w) w.heap.size rfl (.tmp 72) (.tmp 74) 22 9 (.string ⟨#[]⟩) 16 rfl Tryd.underlying22 info9 rfl (by decide) (by omega) u7 x7_2 (rdOf ByteArray.empty t417 x65_2) [.string (rdOf ByteArray.empty t417 x65_2)] (fun k_ => some k_ ≠ (.slice (some ad420) t417.length co33 : Value).ownBlock) (fun _ => False) rfl rfl ?aP (fun _ hk => hk.elim) ?aF ?aO ?aB ?aS ?aL ?_; (case aP => exact rfl); (case aB => exact (by repeat (first | (with_reducible first | exact HB.out | apply below_alloc | apply pw_below_drewN | apply below_drew1 | refine below_set ?_ GE401.out) | exact HB.out))); (case aF => exact (fun k_ hk => Kd.fresh' (Kd.R_lt (by (with_reducible repeat (first | apply Kd.R_alloc | apply Kd.R_drewN | apply Kd.R_drew)); exact HO_63.out)) k_ hk)); (case aO => exact (by (with_reducible repeat (first | apply Kd.R_alloc | apply Kd.R_drewN | apply Kd.R_drew)); exact HO_7.out)); (case aS => exact (below_size (by repeat (first | (with_reducible first | exact HB.out | apply below_alloc | apply pw_below_drewN | apply below_drew1 | refine below_set ?_ GE401.out) | exact HB.out)))); (case aL => have := LMc39.out; omega); intro v423 w40 ho hb hg hat; rw [← Ny422.out] at ho; have n0_ := Aside0.mk (Kd.R_after (ok := (fun _ => True)) (by (with_reducible repeat (first | apply Kd.R_alloc | apply Kd.R_drewN | apply Kd.R_drew)); exact Kd.R_mono HO_63.out (fun _ hk => ⟨trivial, hk⟩)) hg hat); have n1_ := Aside0.mk (blk_grown (g := gb401) (o := .cells #[.slice A0_0 l0_0.length c0_0, .bool true] 24 (0, 0)) (by (with_reducible repeat (first | refine blk_drewN ?_ _ | refine blk_drew ?_ | refine blk_alloc ?_ _)); exact BK401.out) hg (Kd.R_ne HO_7.out BK401.out (by decide))); have n2_ := Aside0.mk (hb); have n3_ := Aside0.mk (ho); clear HO_63; clear BK401; clear HB; clear HO_7; have HO_63 := n0_; have BK401 := n1_; have HB := n2_; have HO424 := n3_; clear n0_ n1_ n2_ n3_; clear ho hb hg hat))
                                go_roundg k2
                                case measure => have := HK1.out; have := HK2.out; omega
                                case rel => exact ⟨(y422), (wrap64 (x65_2 + 1)), (by first | rfl | (simp; done) | (simp [*]; done)), H', ⟨by have := HK1.out; have := HK2.out; omega⟩, ⟨by (with_reducible repeat (first | apply Kd.R_alloc | apply Kd.R_drewN | apply Kd.R_drew)); exact HO424.out⟩, ⟨by (with_reducible repeat (first | apply Kd.R_alloc | apply Kd.R_drewN | apply Kd.R_drew)); exact Kd.R_mono HO_63.out (fun _ hk => hk.2)⟩, ⟨by (with_reducible repeat (first | refine blk_drewN ?_ _ | refine blk_drew ?_ | refine blk_alloc ?_ _)); exact BK401.out⟩, ⟨by repeat (first | (with_reducible first | exact HB.out | apply below_alloc | apply pw_below_drewN | apply below_drew1 | refine below_set ?_ GE401.out) | exact HB.out)⟩⟩
                              · rw [if_neg c39] at H
                                exact absurd H (by simp)
                            · replace c38 := Bool.eq_false_iff.mpr c38
                              subst c38
                              have H1 : (some ((⟨#[]⟩ : ByteArray), 32)) = some (r1, r2) := by rw [if_neg (show ¬ (false = true) by decide)] at H; exact H
                              clear H
                              have H := H1
                              clear H1
                              simp only [Option.some.injEq, Prod.mk.injEq] at H
                              obtain ⟨rfl, rfl⟩ := H
                              have p420 : 0 ≤ (x65_2 : Int) := of_decide_eq_true (by first | (with_reducible assumption) | assumption)
                              have q420 : x65_2 < (t417.length : Int) := of_decide_eq_true (by first | (with_reducible assumption) | assumption)
                              obtain ⟨ad420, e420, hx420_0⟩ := Kd.at_string (Kd.R_reads' HO_63.out).2.2 x65_2 p420 q420
                              cases e420
                              replace p420 := eq_true p420
                              replace q420 := eq_true q420
                              go_wp2_with (first | ((with_reducible refine gate_callee (f := 30) rfl ?_); refine goesL_ (some 70) rfl rfl Tryd.func30 (by kernel_rfl) rfl #[.string (rdOf ByteArray.empty t417 x65_2)] rfl (by (try simp only [List.map_toArray, List.map_cons, List.map_nil]); first | done | rfl | (simp only [List.length_drop, List.length_take]; rfl)) ?_; (with_reducible refine (stockyardref02_Component.calls k2 (rdOf ByteArray.empty t417 x65_2) false _ A37.out).mono ?_); rintro e w' ⟨rfl, ⟨nd, rfl⟩⟩; refine ⟨_, rfl, ?_⟩))
                              go_ret2
                              exact ⟨by first | rfl | (simp [errW_none, errW_some] <;> rfl) | (simp [*, errW_none, errW_some] <;> rfl), by repeat (first | (with_reducible first | exact HB.out | apply below_alloc | apply pw_below_drewN | apply below_drew1 | refine below_set ?_ GE401.out) | exact HB.out)⟩
                          · rw [if_neg c36] at H
                            exact absurd H (by simp)
                        · rw [if_neg c35] at H
                          exact absurd H (by simp)
                      · rw [if_neg c34] at H
                        have c34b0 : decide (x65_2 < (t417.length : Int)) = false := decide_eq_false c34
                        clear c34
                        replace H := Option.bind_eq_some_iff.mp H
                        obtain ⟨t425, A410, H⟩ := H
                        replace H : (some (t425, 0)) = some (r1, r2) := H
                        have A41 := Aside0.mk A410
                        clear A410
                        simp only [Option.some.injEq, Prod.mk.injEq] at H
                        obtain ⟨rfl, rfl⟩ := H
                        obtain ⟨Ao42, co42, eo42⟩ := Kd.R_slice HO_7.out
                        subst eo42
                        go_wp2_with (first | ((with_reducible refine gate_callee (f := 42) rfl ?_); refine goesL_ (some 78) rfl rfl Tryd.func42 (by kernel_rfl) rfl #[.slice Ao42 x7_2.length co42] rfl (by (try simp only [List.map_toArray, List.map_cons, List.map_nil]); first | done | rfl | (simp only [List.length_drop, List.length_take]; rfl)) ?_; (with_reducible refine (stockyardref02_Join.calls _ _ x7_2 t425 _ ?side1 ?side2 A41.out).mono ?_); (case side1 => repeat (first | exact (Kd.R_reads' HO_7.out).2.2 | (with_reducible refine Kd.C_alloc ?_ _) | (with_reducible refine Kd.C_drewN ?_ _) | (with_reducible refine Kd.C_drew ?_))); (case side2 => exact (Kd.R_reads' HO_7.out).2.1); rintro e w43 ⟨rfl, hb⟩; refine ⟨_, rfl, ?_⟩; have n0_ := Aside0.mk (Kd.R_below (by (with_reducible repeat (first | apply Kd.R_alloc | apply Kd.R_drewN | apply Kd.R_drew)); exact HO_7.out) hb); have n1_ := Aside0.mk (Kd.R_below (by (with_reducible repeat (first | apply Kd.R_alloc | apply Kd.R_drewN | apply Kd.R_drew)); exact HO_63.out) hb); have n2_ := Aside0.mk (blk_below (g := gb401) (o := .cells #[.slice A0_0 l0_0.length c0_0, .bool true] 24 (0, 0)) (by (with_reducible repeat (first | refine blk_drewN ?_ _ | refine blk_drew ?_ | refine blk_alloc ?_ _)); exact BK401.out) hb); have n3_ := Aside0.mk (below_step (by repeat (first | (with_reducible first | exact HB.out | apply below_alloc | apply pw_below_drewN | apply below_drew1 | refine below_set ?_ GE401.out) | exact HB.out)) hb); clear HO_7; clear HO_63; clear BK401; clear HB; have HO_7 := n0_; have HO_63 := n1_; have BK401 := n2_; have HB := n3_; clear n0_ n1_ n2_ n3_; (try clear hb); (try clear hb2); (try clear hk); (try clear hi)))
                        go_ret2
                        exact ⟨by first | rfl | (simp [errW_none, errW_some] <;> rfl) | (simp [*, errW_none, errW_some] <;> rfl), by repeat (first | (with_reducible first | exact HB.out | apply below_alloc | apply pw_below_drewN | apply below_drew1 | refine below_set ?_ GE401.out) | exact HB.out)⟩
                · rw [if_neg c29] at H
                  exact absurd H (by simp)
              · rw [if_neg c28] at H
                exact absurd H (by simp)
            · replace c27 := Bool.eq_false_iff.mpr c27
              subst c27
              have H1 : ((stockyardref02_Join.f x7_1).bind fun t426 => (some (t426, 0))) = some (r1, r2) := by rw [if_neg (show ¬ (false = true) by decide)] at H; exact H
              clear H
              have H := H1
              clear H1
              replace H := Option.bind_eq_some_iff.mp H
              obtain ⟨t426, A440, H⟩ := H
              replace H : (some (t426, 0)) = some (r1, r2) := H
              have A44 := Aside0.mk A440
              clear A440
              simp only [Option.some.injEq, Prod.mk.injEq] at H
              obtain ⟨rfl, rfl⟩ := H
              have hcz45_0 : wr.cell? ⟨gb401, 0, none⟩ = some (.slice A0_0 l0_0.length c0_0) := (blk_cell BK401.out 0).trans rfl
              have hcz45_1 : wr.cell? ⟨gb401, 1, none⟩ = some (.bool false) := (blk_cell BK401.out 1).trans rfl
              have hfz45_0 := blk_frozen BK401.out 0
              have hfz45_1 := blk_frozen BK401.out 1
              obtain ⟨Ao46, co46, eo46⟩ := Kd.R_slice HO_7.out
              subst eo46
              go_wp2_with (first | ((with_reducible refine gate_callee (f := 42) rfl ?_); refine goesL_ (some 78) rfl rfl Tryd.func42 (by kernel_rfl) rfl #[.slice Ao46 x7_1.length co46] rfl (by (try simp only [List.map_toArray, List.map_cons, List.map_nil]); first | done | rfl | (simp only [List.length_drop, List.length_take]; rfl)) ?_; (with_reducible refine (stockyardref02_Join.calls _ _ x7_1 t426 _ ?side1 ?side2 A44.out).mono ?_); (case side1 => repeat (first | exact (Kd.R_reads' HO_7.out).2.2 | (with_reducible refine Kd.C_alloc ?_ _) | (with_reducible refine Kd.C_drewN ?_ _) | (with_reducible refine Kd.C_drew ?_))); (case side2 => exact (Kd.R_reads' HO_7.out).2.1); rintro e w47 ⟨rfl, hb⟩; refine ⟨_, rfl, ?_⟩; have n0_ := Aside0.mk (Kd.R_below (by (with_reducible repeat (first | apply Kd.R_alloc | apply Kd.R_drewN | apply Kd.R_drew)); exact HO_7.out) hb); have n1_ := Aside0.mk (blk_below (g := gb401) (o := .cells #[.slice A0_0 l0_0.length c0_0, .bool false] 24 (0, 0)) (by (with_reducible repeat (first | refine blk_drewN ?_ _ | refine blk_drew ?_ | refine blk_alloc ?_ _)); exact BK401.out) hb); have n2_ := Aside0.mk (below_step (by repeat (first | (with_reducible first | exact HB.out | apply below_alloc | apply pw_below_drewN | apply below_drew1 | refine below_set ?_ GE401.out) | exact HB.out)) hb); clear HO_7; clear BK401; clear HB; have HO_7 := n0_; have BK401 := n1_; have HB := n2_; clear n0_ n1_ n2_; (try clear hb); (try clear hb2); (try clear hk); (try clear hi)))
              go_ret2
              exact ⟨by first | rfl | (simp [errW_none, errW_some] <;> rfl) | (simp [*, errW_none, errW_some] <;> rfl), by repeat (first | (with_reducible first | exact HB.out | apply below_alloc | apply pw_below_drewN | apply below_drew1 | refine below_set ?_ GE401.out) | exact HB.out)⟩
    · rw [if_neg c6] at H
      have c6b0 : ((l1.length : Int) == t403) = false := beq_eq_false_iff_ne.mpr c6
      have c6b1 : ((l1.length : Int) != t403) = true := bne_iff_ne.mpr c6
      simp only [Option.some.injEq, Prod.mk.injEq] at H
      obtain ⟨rfl, rfl⟩ := H
      go_enter Tryd.func27, Tryd.ntmps27
      go_wp2_with (first | ((with_reducible refine gate_dst (N := 2) rfl ?_); refine box_event ?hg (N := 2) ?hd (cs := #[.slice A0_0 l0_0.length c0_0, .bool a0_1]) (t := 24) ?hr ?_; (case hd => rfl); (case hg => rfl); (case hr => first | (go_simp; done) | (go_simp; rfl)); intro gb401 hg w48 hbox hb; have n0_ := Aside0.mk (below_step (by repeat (first | (with_reducible first | exact HB.out | apply below_alloc | apply pw_below_drewN | apply below_drew1) | exact HB.out)) hb); have n1_ := Aside0.mk (hbox); have n2_ := Aside0.mk ((by rw [hg]; exact (below_size (by repeat (first | (with_reducible first | exact HB.out | apply below_alloc | apply pw_below_drewN | apply below_drew1) | exact HB.out))) : w.heap.size ≤ gb401)); have n3_ := Aside0.mk ((by rw [hg]; exact (below_size (by repeat (first | (with_reducible first | exact HB.out | apply below_alloc | apply pw_below_drewN | apply below_drew1) | exact HB.out))) : w.heap.size ≤ gb401)); clear HB; have HB := n0_; have BK401 := n1_; have GW401 := n2_; have GE401 := n3_; clear n0_ n1_ n2_ n3_; clear hb hbox hg; have hcz49_0 : w48.cell? ⟨gb401, 0, none⟩ = some (.slice A0_0 l0_0.length c0_0) := (blk_cell BK401.out 0).trans rfl; have hcz49_1 : w48.cell? ⟨gb401, 1, none⟩ = some (.bool a0_1) := (blk_cell BK401.out 1).trans rfl; have hfz49_0 := blk_frozen BK401.out 0; have hfz49_1 := blk_frozen BK401.out 1) | ((with_reducible refine gate_callee (f := 20) rfl ?_); refine goesL_ (some 16) rfl rfl Tryd.func20 (by kernel_rfl) rfl #[.agg #[.slice A0_0 l0_0.length c0_0, .bool a0_1]] rfl (by (try simp only [List.map_toArray, List.map_cons, List.map_nil]); first | done | rfl | (simp only [List.length_drop, List.length_take]; rfl)) ?_; (with_reducible refine (stockyardref03_Check.calls k _ _ l0_0 a0_1 t402 _ ?side1 ?side2 A3.out).mono ?_); (case side1 => repeat (first | exact (Kd.C_below HR0_0.out HB.out) | (with_reducible refine Kd.C_alloc ?_ _) | (with_reducible refine Kd.C_drewN ?_ _) | (with_reducible refine Kd.C_drew ?_))); (case side2 => exact HC0_0.out); rintro e w50 ⟨rfl, hb⟩; refine ⟨_, rfl, ?_⟩; have n0_ := Aside0.mk (blk_below (g := gb401) (o := .cells #[.slice A0_0 l0_0.length c0_0, .bool a0_1] 24 (0, 0)) (by (with_reducible repeat (first | refine blk_drewN ?_ _ | refine blk_drew ?_ | refine blk_alloc ?_ _)); exact BK401.out) hb); have n1_ := Aside0.mk (below_step (by repeat (first | (with_reducible first | exact HB.out | apply below_alloc | apply pw_below_drewN | apply below_drew1 | refine below_set ?_ GE401.out) | exact HB.out)) hb); clear BK401; clear HB; have BK401 := n0_; have HB := n1_; clear n0_ n1_; (try clear hb); (try clear hb2); (try clear hk); (try clear hi); have hcz51_0 : w50.cell? ⟨gb401, 0, none⟩ = some (.slice A0_0 l0_0.length c0_0) := (blk_cell BK401.out 0).trans rfl; have hcz51_1 : w50.cell? ⟨gb401, 1, none⟩ = some (.bool a0_1) := (blk_cell BK401.out 1).trans rfl; have hfz51_0 := blk_frozen BK401.out 0; have hfz51_1 := blk_frozen BK401.out 1) | ((with_reducible refine gate_callee (f := 41) rfl ?_); refine goesL_ (some 23) rfl rfl Tryd.func41 (by kernel_rfl) rfl #[.agg #[.slice A0_0 l0_0.length c0_0, .bool a0_1]] rfl (by (try simp only [List.map_toArray, List.map_cons, List.map_nil]); first | done | rfl | (simp only [List.length_drop, List.length_take]; rfl)) ?_; (with_reducible refine (stockyardref03_wildcards.calls k _ _ l0_0 a0_1 t403 _ ?side1 ?side2 A5.out).mono ?_); (case side1 => repeat (first | exact (Kd.C_below HR0_0.out HB.out) | (with_reducible refine Kd.C_alloc ?_ _) | (with_reducible refine Kd.C_drewN ?_ _) | (with_reducible refine Kd.C_drew ?_))); (case side2 => exact HC0_0.out); rintro e w52 ⟨rfl, hb⟩; refine ⟨_, rfl, ?_⟩; have n0_ := Aside0.mk (blk_below (g := gb401) (o := .cells #[.slice A0_0 l0_0.length c0_0, .bool a0_1] 24 (0, 0)) (by (with_reducible repeat (first | refine blk_drewN ?_ _ | refine blk_drew ?_ | refine blk_alloc ?_ _)); exact BK401.out) hb); have n1_ := Aside0.mk (below_step (by repeat (first | (with_reducible first | exact HB.out | apply below_alloc | apply pw_below_drewN | apply below_drew1 | refine below_set ?_ GE401.out) | exact HB.out)) hb); clear BK401; clear HB; have BK401 := n0_; have HB := n1_; clear n0_ n1_; (try clear hb); (try clear hb2); (try clear hk); (try clear hi)))
      go_ret2
      exact ⟨by first | rfl | (simp [errW_none, errW_some] <;> rfl) | (simp [*, errW_none, errW_some] <;> rfl), by repeat (first | (with_reducible first | exact HB.out | apply below_alloc | apply pw_below_drewN | apply below_drew1 | refine below_set ?_ GE401.out) | exact HB.out)⟩
  · rw [if_neg c4] at H
    have c4b0 : (t402 == 0) = false := beq_eq_false_iff_ne.mpr c4
    have c4b1 : (t402 != 0) = true := bne_iff_ne.mpr c4
    simp only [Option.some.injEq, Prod.mk.injEq] at H
    obtain ⟨rfl, rfl⟩ := H
    go_enter Tryd.func27, Tryd.ntmps27
    go_wp2_with (first | ((with_reducible refine gate_dst (N := 2) rfl ?_); refine box_event ?hg (N := 2) ?hd (cs := #[.slice A0_0 l0_0.length c0_0, .bool a0_1]) (t := 24) ?hr ?_; (case hd => rfl); (case hg => rfl); (case hr => first | (go_simp; done) | (go_simp; rfl)); intro gb401 hg w53 hbox hb; have n0_ := Aside0.mk (below_step (by repeat (first | (with_reducible first | exact HB.out | apply below_alloc | apply pw_below_drewN | apply below_drew1) | exact HB.out)) hb); have n1_ := Aside0.mk (hbox); have n2_ := Aside0.mk ((by rw [hg]; exact (below_size (by repeat (first | (with_reducible first | exact HB.out | apply below_alloc | apply pw_below_drewN | apply below_drew1) | exact HB.out))) : w.heap.size ≤ gb401)); have n3_ := Aside0.mk ((by rw [hg]; exact (below_size (by repeat (first | (with_reducible first | exact HB.out | apply below_alloc | apply pw_below_drewN | apply below_drew1) | exact HB.out))) : w.heap.size ≤ gb401)); clear HB; have HB := n0_; have BK401 := n1_; have GW401 := n2_; have GE401 := n3_; clear n0_ n1_ n2_ n3_; clear hb hbox hg; have hcz54_0 : w53.cell? ⟨gb401, 0, none⟩ = some (.slice A0_0 l0_0.length c0_0) := (blk_cell BK401.out 0).trans rfl; have hcz54_1 : w53.cell? ⟨gb401, 1, none⟩ = some (.bool a0_1) := (blk_cell BK401.out 1).trans rfl; have hfz54_0 := blk_frozen BK401.out 0; have hfz54_1 := blk_frozen BK401.out 1) | ((with_reducible refine gate_callee (f := 20) rfl ?_); refine goesL_ (some 16) rfl rfl Tryd.func20 (by kernel_rfl) rfl #[.agg #[.slice A0_0 l0_0.length c0_0, .bool a0_1]] rfl (by (try simp only [List.map_toArray, List.map_cons, List.map_nil]); first | done | rfl | (simp only [List.length_drop, List.length_take]; rfl)) ?_; (with_reducible refine (stockyardref03_Check.calls k _ _ l0_0 a0_1 t402 _ ?side1 ?side2 A3.out).mono ?_); (case side1 => repeat (first | exact (Kd.C_below HR0_0.out HB.out) | (with_reducible refine Kd.C_alloc ?_ _) | (with_reducible refine Kd.C_drewN ?_ _) | (with_reducible refine Kd.C_drew ?_))); (case side2 => exact HC0_0.out); rintro e w55 ⟨rfl, hb⟩; refine ⟨_, rfl, ?_⟩; have n0_ := Aside0.mk (blk_below (g := gb401) (o := .cells #[.slice A0_0 l0_0.length c0_0, .bool a0_1] 24 (0, 0)) (by (with_reducible repeat (first | refine blk_drewN ?_ _ | refine blk_drew ?_ | refine blk_alloc ?_ _)); exact BK401.out) hb); have n1_ := Aside0.mk (below_step (by repeat (first | (with_reducible first | exact HB.out | apply below_alloc | apply pw_below_drewN | apply below_drew1 | refine below_set ?_ GE401.out) | exact HB.out)) hb); clear BK401; clear HB; have BK401 := n0_; have HB := n1_; clear n0_ n1_; (try clear hb); (try clear hb2); (try clear hk); (try clear hi)))
    go_ret2
    exact ⟨by first | rfl | (simp [errW_none, errW_some] <;> rfl) | (simp [*, errW_none, errW_some] <;> rfl), by repeat (first | (with_reducible first | exact HB.out | apply below_alloc | apply pw_below_drewN | apply below_drew1 | refine below_set ?_ GE401.out) | exact HB.out)⟩

/-! ### stockyardref04_Forward: function 15 -/
def stockyardref04_Forward.f (k : Nat) (a0_0 : Bool) (l0_1 : List ByteArray) (a0_2 : Bool) (l0_3 : List ByteArray) (a0_4 : Bool) (a1 : ByteArray) : Option (ByteArray × Bool) := (stockyardref04_Check.f k a0_0 l0_1 a0_2 l0_3 a0_4).bind fun t428 => (if t428 = 0 then ((stockyardref03_Match.f k l0_1 a0_2 a1).bind fun bt429 => (if bt429.2 = true then ((stockyardref03_Fill.f k l0_3 a0_4 bt429.1).bind fun bt433 => (some (bt433.1, (bt433.2 == 0)))) else (some ((⟨#[]⟩ : ByteArray), false)))) else (some ((⟨#[]⟩ : ByteArray), false)))
theorem stockyardref04_Forward.mono : ∀ a0 a1 a2 a3 a4 a5 k, LeO (stockyardref04_Forward.f k a0 a1 a2 a3 a4 a5) (stockyardref04_Forward.f (k + 1) a0 a1 a2 a3 a4 a5) := by
  intro a0 a1 a2 a3 a4 a5 k
  unfold stockyardref04_Forward.f
  repeat' first
      | (with_reducible exact stockyardref03_Fill.mono _ _ _ _)
      | (with_reducible exact stockyardref03_Match.mono _ _ _ _)
      | (with_reducible exact stockyardref04_Check.mono _ _ _ _ _ _)
      | (with_reducible exact LeO.refl _)
      | (with_reducible exact LeO.none _)
      | (with_reducible refine LeO.ite ?_ ?_)
      | (with_reducible refine LeO.bind ?_ (fun _ => ?_))
      | exact stockyardref03_Fill.mono _ _ _ _
      | exact stockyardref03_Match.mono _ _ _ _
      | exact stockyardref04_Check.mono _ _ _ _ _ _
      | exact LeO.none _
      | refine LeO.ite ?_ ?_
      | refine LeO.bind ?_ (fun _ => ?_)
set_option maxHeartbeats 8000000 in
set_option maxRecDepth 100000 in
theorem stockyardref04_Forward.calls (k : Nat) (a0_0 : Bool) (A0_1 : Option Addr) (c0_1 : Nat) (l0_1 : List ByteArray) (a0_2 : Bool) (A0_3 : Option Addr) (c0_3 : Nat) (l0_3 : List ByteArray) (a0_4 : Bool) (a1 : ByteArray) (r1 : ByteArray) (r2 : Bool) (w : World) (hr0_1 : Kd.C Kd.string w A0_1 l0_1.length l0_1) (hc0_1 : l0_1.length ≤ c0_1) (hr0_3 : Kd.C Kd.string w A0_3 l0_3.length l0_3) (hc0_3 : l0_3.length ≤ c0_3) (h : stockyardref04_Forward.f k a0_0 l0_1 a0_2 l0_3 a0_4 a1 = some (r1, r2)) :
    Calls Tryd.prog 15 #[.agg #[.bool a0_0, .slice A0_1 l0_1.length c0_1, .bool a0_2, .slice A0_3 l0_3.length c0_3, .bool a0_4], .string a1] w fun e w' => e = .returned (.tuple #[.string r1, .bool r2]) ∧ Below w.heap.size w w' := by
  have hu26 := Tryd.underlying26
  have hu24 := Tryd.underlying24
  have HR0_1 := Aside0.mk hr0_1
  have HC0_1 := Aside0.mk hc0_1
  clear hr0_1 hc0_1
  have HR0_3 := Aside0.mk hr0_3
  have HC0_3 := Aside0.mk hc0_3
  clear hr0_3 hc0_3
  have HB := Aside0.mk (Below.refl w.heap.size w)
  have H : ((stockyardref04_Check.f k a0_0 l0_1 a0_2 l0_3 a0_4).bind fun t428 => (if t428 = 0 then ((stockyardref03_Match.f k l0_1 a0_2 a1).bind fun bt429 => (if bt429.2 = true then ((stockyardref03_Fill.f k l0_3 a0_4 bt429.1).bind fun bt433 => (some (bt433.1, (bt433.2 == 0)))) else (some ((⟨#[]⟩ : ByteArray), false)))) else (some ((⟨#[]⟩ : ByteArray), false)))) = some (r1, r2) := h
  clear h
  replace H := Option.bind_eq_some_iff.mp H
  obtain ⟨t428, A30, H⟩ := H
  replace H : (if t428 = 0 then ((stockyardref03_Match.f k l0_1 a0_2 a1).bind fun bt429 => (if bt429.2 = true then ((stockyardref03_Fill.f k l0_3 a0_4 bt429.1).bind fun bt433 => (some (bt433.1, (bt433.2 == 0)))) else (some ((⟨#[]⟩ : ByteArray), false)))) else (some ((⟨#[]⟩ : ByteArray), false))) = some (r1, r2) := H
  have A3 := Aside0.mk A30
  clear A30
  by_cases c4 : t428 = 0
  · rw [if_pos c4] at H
    have c4b0 : (t428 == 0) = true := beq_iff_eq.mpr c4
    have c4b1 : (t428 != 0) = false := bne_eq_false_iff_eq.mpr c4
    clear c4
    replace H := Option.bind_eq_some_iff.mp H
    obtain ⟨⟨t429, t432⟩, A50, H⟩ := H
    replace H : (if t432 = true then ((stockyardref03_Fill.f k l0_3 a0_4 t429).bind fun bt433 => (some (bt433.1, (bt433.2 == 0)))) else (some ((⟨#[]⟩ : ByteArray), false))) = some (r1, r2) := H
    have A5 := Aside0.mk A50
    clear A50
    by_cases c6 : t432 = true
    · subst c6
      have H1 : ((stockyardref03_Fill.f k l0_3 a0_4 t429).bind fun bt433 => (some (bt433.1, (bt433.2 == 0)))) = some (r1, r2) := by rw [if_pos rfl] at H; exact H
      clear H
      have H := H1
      clear H1
      replace H := Option.bind_eq_some_iff.mp H
      obtain ⟨⟨t433, t434⟩, A70, H⟩ := H
      replace H : (some (t433, (t434 == 0))) = some (r1, r2) := H
      have A7 := Aside0.mk A70
      clear A70
      simp only [Option.some.injEq, Prod.mk.injEq] at H
      obtain ⟨rfl, rfl⟩ := H
      go_enter Tryd.func15, Tryd.ntmps15
      go_wp2_with (first | ((with_reducible refine gate_dst (N := 2) rfl ?_); refine box_event ?hg (N := 2) ?hd (cs := #[.bool a0_0, .slice A0_1 l0_1.length c0_1, .bool a0_2, .slice A0_3 l0_3.length c0_3, .bool a0_4]) (t := 26) ?hr ?_; (case hd => rfl); (case hg => rfl); (case hr => first | (go_simp; done) | (go_simp; rfl)); intro gb427 hg w8 hbox hb; have n0_ := Aside0.mk (below_step (by repeat (first | (with_reducible first | exact HB.out | apply below_alloc | apply pw_below_drewN | apply below_drew1) | exact HB.out)) hb); have n1_ := Aside0.mk (hbox); have n2_ := Aside0.mk ((by rw [hg]; exact (below_size (by repeat (first | (with_reducible first | exact HB.out | apply below_alloc | apply pw_below_drewN | apply below_drew1) | exact HB.out))) : w.heap.size ≤ gb427)); have n3_ := Aside0.mk ((by rw [hg]; exact (below_size (by repeat (first | (with_reducible first | exact HB.out | apply below_alloc | apply pw_below_drewN | apply below_drew1) | exact HB.out))) : w.heap.size ≤ gb427)); clear HB; have HB := n0_; have BK427 := n1_; have GW427 := n2_; have GE427 := n3_; clear n0_ n1_ n2_ n3_; clear hb hbox hg; have hcz9_0 : w8.cell? ⟨gb427, 0, none⟩ = some (.bool a0_0) := (blk_cell BK427.out 0).trans rfl; have hcz9_1 : w8.cell? ⟨gb427, 1, none⟩ = some (.slice A0_1 l0_1.length c0_1) := (blk_cell BK427.out 1).trans rfl; have hcz9_2 : w8.cell? ⟨gb427, 2, none⟩ = some (.bool a0_2) := (blk_cell BK427.out 2).trans rfl; have hcz9_3 : w8.cell? ⟨gb427, 3, none⟩ = some (.slice A0_3 l0_3.length c0_3) := (blk_cell BK427.out 3).trans rfl; have hcz9_4 : w8.cell? ⟨gb427, 4, none⟩ = some (.bool a0_4) := (blk_cell BK427.out 4).trans rfl; have hfz9_0 := blk_frozen BK427.out 0; have hfz9_1 := blk_frozen BK427.out 1; have hfz9_2 := blk_frozen BK427.out 2; have hfz9_3 := blk_frozen BK427.out 3; have hfz9_4 := blk_frozen BK427.out 4) | ((with_reducible refine gate_callee (f := 10) rfl ?_); refine goesL_ (some 11) rfl rfl Tryd.func10 (by kernel_rfl) rfl #[.agg #[.bool a0_0, .slice A0_1 l0_1.length c0_1, .bool a0_2, .slice A0_3 l0_3.length c0_3, .bool a0_4]] rfl (by (try simp only [List.map_toArray, List.map_cons, List.map_nil]); first | done | rfl | (simp only [List.length_drop, List.length_take]; rfl)) ?_; (with_reducible refine (stockyardref04_Check.calls k a0_0 _ _ l0_1 a0_2 _ _ l0_3 a0_4 t428 _ ?side1 ?side2 ?side3 ?side4 A3.out).mono ?_); (case side1 => repeat (first | exact (Kd.C_below HR0_1.out HB.out) | (with_reducible refine Kd.C_alloc ?_ _) | (with_reducible refine Kd.C_drewN ?_ _) | (with_reducible refine Kd.C_drew ?_))); (case side2 => exact HC0_1.out); (case side3 => repeat (first | exact (Kd.C_below HR0_3.out HB.out) | (with_reducible refine Kd.C_alloc ?_ _) | (with_reducible refine Kd.C_drewN ?_ _) | (with_reducible refine Kd.C_drew ?_))); (case side4 => exact HC0_3.out); rintro e w10 ⟨rfl, hb⟩; refine ⟨_, rfl, ?_⟩; have n0_ := Aside0.mk (blk_below (g := gb427) (o := .cells #[.bool a0_0, .slice A0_1 l0_1.length c0_1, .bool a0_2, .slice A0_3 l0_3.length c0_3, .bool a0_4] 26 (0, 0)) (by (with_reducible repeat (first | refine blk_drewN ?_ _ | refine blk_drew ?_ | refine blk_alloc ?_ _)); exact BK427.out) hb); have n1_ := Aside0.mk (below_step (by repeat (first | (with_reducible first | exact HB.out | apply below_alloc | apply pw_below_drewN | apply below_drew1 | refine below_set ?_ GE427.out) | exact HB.out)) hb); clear BK427; clear HB; have BK427 := n0_; have HB := n1_; clear n0_ n1_; (try clear hb); (try clear hb2); (try clear hk); (try clear hi); have hcz11_0 : w10.cell? ⟨gb427, 0, none⟩ = some (.bool a0_0) := (blk_cell BK427.out 0).trans rfl; have hcz11_1 : w10.cell? ⟨gb427, 1, none⟩ = some (.slice A0_1 l0_1.length c0_1) := (blk_cell BK427.out 1).trans rfl; have hcz11_2 : w10.cell? ⟨gb427, 2, none⟩ = some (.bool a0_2) := (blk_cell BK427.out 2).trans rfl; have hcz11_3 : w10.cell? ⟨gb427, 3, none⟩ = some (.slice A0_3 l0_3.length c0_3) := (blk_cell BK427.out 3).trans rfl; have hcz11_4 : w10.cell? ⟨gb427, 4, none⟩ = some (.bool a0_4) := (blk_cell BK427.out 4).trans rfl; have hfz11_0 := blk_frozen BK427.out 0; have hfz11_1 := blk_frozen BK427.out 1; have hfz11_2 := blk_frozen BK427.out 2; have hfz11_3 := blk_frozen BK427.out 3; have hfz11_4 := blk_frozen BK427.out 4) | ((with_reducible refine gate_callee (f := 26) rfl ?_); refine goesL_ (some 17) rfl rfl Tryd.func26 (by kernel_rfl) rfl #[.agg #[.slice A0_1 l0_1.length c0_1, .bool a0_2], .string a1] rfl (by (try simp only [List.map_toArray, List.map_cons, List.map_nil]); first | done | rfl | (simp only [List.length_drop, List.length_take]; rfl)) ?_; (with_reducible refine (stockyardref03_Match.calls k _ _ l0_1 a0_2 a1 t429 true _ ?side1 ?side2 A5.out).mono ?_); (case side1 => repeat (first | exact (Kd.C_below HR0_1.out HB.out) | (with_reducible refine Kd.C_alloc ?_ _) | (with_reducible refine Kd.C_drewN ?_ _) | (with_reducible refine Kd.C_drew ?_))); (case side2 => exact HC0_1.out); rintro e w12 ⟨v430, rfl, ho0, hb⟩; refine ⟨_, rfl, ?_⟩; have n0_ := Aside0.mk (Kd.R_lower ho0 (below_size (by repeat (first | (with_reducible first | exact HB.out | apply below_alloc | apply pw_below_drewN | apply below_drew1 | refine below_set ?_ GE427.out) | exact HB.out)))); have n1_ := Aside0.mk (blk_below (g := gb427) (o := .cells #[.bool a0_0, .slice A0_1 l0_1.length c0_1, .bool a0_2, .slice A0_3 l0_3.length c0_3, .bool a0_4] 26 (0, 0)) (by (with_reducible repeat (first | refine blk_drewN ?_ _ | refine blk_drew ?_ | refine blk_alloc ?_ _)); exact BK427.out) hb); have n2_ := Aside0.mk (below_step (by repeat (first | (with_reducible first | exact HB.out | apply below_alloc | apply pw_below_drewN | apply below_drew1 | refine below_set ?_ GE427.out) | exact HB.out)) hb); clear BK427; clear HB; have HO431 := n0_; have BK427 := n1_; have HB := n2_; clear n0_ n1_ n2_; (try clear hb); (try clear hb2); (try clear hk); (try clear hi); (try clear ho0); have hcz13_0 : w12.cell? ⟨gb427, 0, none⟩ = some (.bool a0_0) := (blk_cell BK427.out 0).trans rfl; have hcz13_1 : w12.cell? ⟨gb427, 1, none⟩ = some (.slice A0_1 l0_1.length c0_1) := (blk_cell BK427.out 1).trans rfl; have hcz13_2 : w12.cell? ⟨gb427, 2, none⟩ = some (.bool a0_2) := (blk_cell BK427.out 2).trans rfl; have hcz13_3 : w12.cell? ⟨gb427, 3, none⟩ = some (.slice A0_3 l0_3.length c0_3) := (blk_cell BK427.out 3).trans rfl; have hcz13_4 : w12.cell? ⟨gb427, 4, none⟩ = some (.bool a0_4) := (blk_cell BK427.out 4).trans rfl; have hfz13_0 := blk_frozen BK427.out 0; have hfz13_1 := blk_frozen BK427.out 1; have hfz13_2 := blk_frozen BK427.out 2; have hfz13_3 := blk_frozen BK427.out 3; have hfz13_4 := blk_frozen BK427.out 4; obtain ⟨Ao14, co14, eo14⟩ := Kd.R_slice HO431.out; subst eo14) | ((with_reducible refine gate_callee (f := 27) rfl ?_); refine goesL_ (some 26) rfl rfl Tryd.func27 (by kernel_rfl) rfl #[.agg #[.slice A0_3 l0_3.length c0_3, .bool a0_4], .slice Ao14 t429.length co14] rfl (by (try simp only [List.map_toArray, List.map_cons, List.map_nil]); first | done | rfl | (simp only [List.length_drop, List.length_take]; rfl)) ?_; (with_reducible refine (stockyardref03_Fill.calls k _ _ l0_3 a0_4 _ _ t429 t433 t434 _ ?side1 ?side2 ?side3 ?side4 A7.out).mono ?_); (case side1 => repeat (first | exact (Kd.C_below HR0_3.out HB.out) | (with_reducible refine Kd.C_alloc ?_ _) | (with_reducible refine Kd.C_drewN ?_ _) | (with_reducible refine Kd.C_drew ?_))); (case side2 => exact HC0_3.out); (case side3 => repeat (first | exact (Kd.R_reads' HO431.out).2.2 | (with_reducible refine Kd.C_alloc ?_ _) | (with_reducible refine Kd.C_drewN ?_ _) | (with_reducible refine Kd.C_drew ?_))); (case side4 => exact (Kd.R_reads' HO431.out).2.1); rintro e w15 ⟨rfl, hb⟩; refine ⟨_, rfl, ?_⟩; have n0_ := Aside0.mk (Kd.R_below (by (with_reducible repeat (first | apply Kd.R_alloc | apply Kd.R_drewN | apply Kd.R_drew)); exact HO431.out) hb); have n1_ := Aside0.mk (blk_below (g := gb427) (o := .cells #[.bool a0_0, .slice A0_1 l0_1.length c0_1, .bool a0_2, .slice A0_3 l0_3.length c0_3, .bool a0_4] 26 (0, 0)) (by (with_reducible repeat (first | refine blk_drewN ?_ _ | refine blk_drew ?_ | refine blk_alloc ?_ _)); exact BK427.out) hb); have n2_ := Aside0.mk (below_step (by repeat (first | (with_reducible first | exact HB.out | apply below_alloc | apply pw_below_drewN | apply below_drew1 | refine below_set ?_ GE427.out) | exact HB.out)) hb); clear HO431; clear BK427; clear HB; have HO431 := n0_; have BK427 := n1_; have HB := n2_; clear n0_ n1_ n2_; (try clear hb); (try clear hb2); (try clear hk); (try clear hi)))
      go_ret2
      exact ⟨by first | rfl | (simp [errW_none, errW_some] <;> rfl) | (simp [*, errW_none, errW_some] <;> rfl), by repeat (first | (with_reducible first | exact HB.out | apply below_alloc | apply pw_below_drewN | apply below_drew1 | refine below_set ?_ GE427.out) | exact HB.out)⟩
    · replace c6 := Bool.eq_false_iff.mpr c6
      subst c6
      have H1 : (some ((⟨#[]⟩ : ByteArray), false)) = some (r1, r2) := by rw [if_neg (show ¬ (false = true) by decide)] at H; exact H
      clear H
      have H := H1
      clear H1
      simp only [Option.some.injEq, Prod.mk.injEq] at H
      obtain ⟨rfl, rfl⟩ := H
      go_enter Tryd.func15, Tryd.ntmps15
      go_wp2_with (first | ((with_reducible refine gate_dst (N := 2) rfl ?_); refine box_event ?hg (N := 2) ?hd (cs := #[.bool a0_0, .slice A0_1 l0_1.length c0_1, .bool a0_2, .slice A0_3 l0_3.length c0_3, .bool a0_4]) (t := 26) ?hr ?_; (case hd => rfl); (case hg => rfl); (case hr => first | (go_simp; done) | (go_simp; rfl)); intro gb427 hg w16 hbox hb; have n0_ := Aside0.mk (below_step (by repeat (first | (with_reducible first | exact HB.out | apply below_alloc | apply pw_below_drewN | apply below_drew1) | exact HB.out)) hb); have n1_ := Aside0.mk (hbox); have n2_ := Aside0.mk ((by rw [hg]; exact (below_size (by repeat (first | (with_reducible first | exact HB.out | apply below_alloc | apply pw_below_drewN | apply below_drew1) | exact HB.out))) : w.heap.size ≤ gb427)); have n3_ := Aside0.mk ((by rw [hg]; exact (below_size (by repeat (first | (with_reducible first | exact HB.out | apply below_alloc | apply pw_below_drewN | apply below_drew1) | exact HB.out))) : w.heap.size ≤ gb427)); clear HB; have HB := n0_; have BK427 := n1_; have GW427 := n2_; have GE427 := n3_; clear n0_ n1_ n2_ n3_; clear hb hbox hg; have hcz17_0 : w16.cell? ⟨gb427, 0, none⟩ = some (.bool a0_0) := (blk_cell BK427.out 0).trans rfl; have hcz17_1 : w16.cell? ⟨gb427, 1, none⟩ = some (.slice A0_1 l0_1.length c0_1) := (blk_cell BK427.out 1).trans rfl; have hcz17_2 : w16.cell? ⟨gb427, 2, none⟩ = some (.bool a0_2) := (blk_cell BK427.out 2).trans rfl; have hcz17_3 : w16.cell? ⟨gb427, 3, none⟩ = some (.slice A0_3 l0_3.length c0_3) := (blk_cell BK427.out 3).trans rfl; have hcz17_4 : w16.cell? ⟨gb427, 4, none⟩ = some (.bool a0_4) := (blk_cell BK427.out 4).trans rfl; have hfz17_0 := blk_frozen BK427.out 0; have hfz17_1 := blk_frozen BK427.out 1; have hfz17_2 := blk_frozen BK427.out 2; have hfz17_3 := blk_frozen BK427.out 3; have hfz17_4 := blk_frozen BK427.out 4) | ((with_reducible refine gate_callee (f := 10) rfl ?_); refine goesL_ (some 11) rfl rfl Tryd.func10 (by kernel_rfl) rfl #[.agg #[.bool a0_0, .slice A0_1 l0_1.length c0_1, .bool a0_2, .slice A0_3 l0_3.length c0_3, .bool a0_4]] rfl (by (try simp only [List.map_toArray, List.map_cons, List.map_nil]); first | done | rfl | (simp only [List.length_drop, List.length_take]; rfl)) ?_; (with_reducible refine (stockyardref04_Check.calls k a0_0 _ _ l0_1 a0_2 _ _ l0_3 a0_4 t428 _ ?side1 ?side2 ?side3 ?side4 A3.out).mono ?_); (case side1 => repeat (first | exact (Kd.C_below HR0_1.out HB.out) | (with_reducible refine Kd.C_alloc ?_ _) | (with_reducible refine Kd.C_drewN ?_ _) | (with_reducible refine Kd.C_drew ?_))); (case side2 => exact HC0_1.out); (case side3 => repeat (first | exact (Kd.C_below HR0_3.out HB.out) | (with_reducible refine Kd.C_alloc ?_ _) | (with_reducible refine Kd.C_drewN ?_ _) | (with_reducible refine Kd.C_drew ?_))); (case side4 => exact HC0_3.out); rintro e w18 ⟨rfl, hb⟩; refine ⟨_, rfl, ?_⟩; have n0_ := Aside0.mk (blk_below (g := gb427) (o := .cells #[.bool a0_0, .slice A0_1 l0_1.length c0_1, .bool a0_2, .slice A0_3 l0_3.length c0_3, .bool a0_4] 26 (0, 0)) (by (with_reducible repeat (first | refine blk_drewN ?_ _ | refine blk_drew ?_ | refine blk_alloc ?_ _)); exact BK427.out) hb); have n1_ := Aside0.mk (below_step (by repeat (first | (with_reducible first | exact HB.out | apply below_alloc | apply pw_below_drewN | apply below_drew1 | refine below_set ?_ GE427.out) | exact HB.out)) hb); clear BK427; clear HB; have BK427 := n0_; have HB := n1_; clear n0_ n1_; (try clear hb); (try clear hb2); (try clear hk); (try clear hi); have hcz19_0 : w18.cell? ⟨gb427, 0, none⟩ = some (.bool a0_0) := (blk_cell BK427.out 0).trans rfl; have hcz19_1 : w18.cell? ⟨gb427, 1, none⟩ = some (.slice A0_1 l0_1.length c0_1) := (blk_cell BK427.out 1).trans rfl; have hcz19_2 : w18.cell? ⟨gb427, 2, none⟩ = some (.bool a0_2) := (blk_cell BK427.out 2).trans rfl; have hcz19_3 : w18.cell? ⟨gb427, 3, none⟩ = some (.slice A0_3 l0_3.length c0_3) := (blk_cell BK427.out 3).trans rfl; have hcz19_4 : w18.cell? ⟨gb427, 4, none⟩ = some (.bool a0_4) := (blk_cell BK427.out 4).trans rfl; have hfz19_0 := blk_frozen BK427.out 0; have hfz19_1 := blk_frozen BK427.out 1; have hfz19_2 := blk_frozen BK427.out 2; have hfz19_3 := blk_frozen BK427.out 3; have hfz19_4 := blk_frozen BK427.out 4) | ((with_reducible refine gate_callee (f := 26) rfl ?_); refine goesL_ (some 17) rfl rfl Tryd.func26 (by kernel_rfl) rfl #[.agg #[.slice A0_1 l0_1.length c0_1, .bool a0_2], .string a1] rfl (by (try simp only [List.map_toArray, List.map_cons, List.map_nil]); first | done | rfl | (simp only [List.length_drop, List.length_take]; rfl)) ?_; (with_reducible refine (stockyardref03_Match.calls k _ _ l0_1 a0_2 a1 t429 false _ ?side1 ?side2 A5.out).mono ?_); (case side1 => repeat (first | exact (Kd.C_below HR0_1.out HB.out) | (with_reducible refine Kd.C_alloc ?_ _) | (with_reducible refine Kd.C_drewN ?_ _) | (with_reducible refine Kd.C_drew ?_))); (case side2 => exact HC0_1.out); rintro e w20 ⟨v430, rfl, ho0, hb⟩; refine ⟨_, rfl, ?_⟩; have n0_ := Aside0.mk (Kd.R_lower ho0 (below_size (by repeat (first | (with_reducible first | exact HB.out | apply below_alloc | apply pw_below_drewN | apply below_drew1 | refine below_set ?_ GE427.out) | exact HB.out)))); have n1_ := Aside0.mk (blk_below (g := gb427) (o := .cells #[.bool a0_0, .slice A0_1 l0_1.length c0_1, .bool a0_2, .slice A0_3 l0_3.length c0_3, .bool a0_4] 26 (0, 0)) (by (with_reducible repeat (first | refine blk_drewN ?_ _ | refine blk_drew ?_ | refine blk_alloc ?_ _)); exact BK427.out) hb); have n2_ := Aside0.mk (below_step (by repeat (first | (with_reducible first | exact HB.out | apply below_alloc | apply pw_below_drewN | apply below_drew1 | refine below_set ?_ GE427.out) | exact HB.out)) hb); clear BK427; clear HB; have HO431 := n0_; have BK427 := n1_; have HB := n2_; clear n0_ n1_ n2_; (try clear hb); (try clear hb2); (try clear hk); (try clear hi); (try clear ho0)))
      go_ret2
      exact ⟨by first | rfl | (simp [errW_none, errW_some] <;> rfl) | (simp [*, errW_none, errW_some] <;> rfl), by repeat (first | (with_reducible first | exact HB.out | apply below_alloc | apply pw_below_drewN | apply below_drew1 | refine below_set ?_ GE427.out) | exact HB.out)⟩
  · rw [if_neg c4] at H
    have c4b0 : (t428 == 0) = false := beq_eq_false_iff_ne.mpr c4
    have c4b1 : (t428 != 0) = true := bne_iff_ne.mpr c4
    simp only [Option.some.injEq, Prod.mk.injEq] at H
    obtain ⟨rfl, rfl⟩ := H
    go_enter Tryd.func15, Tryd.ntmps15
    go_wp2_with (first | ((with_reducible refine gate_dst (N := 2) rfl ?_); refine box_event ?hg (N := 2) ?hd (cs := #[.bool a0_0, .slice A0_1 l0_1.length c0_1, .bool a0_2, .slice A0_3 l0_3.length c0_3, .bool a0_4]) (t := 26) ?hr ?_; (case hd => rfl); (case hg => rfl); (case hr => first | (go_simp; done) | (go_simp; rfl)); intro gb427 hg w21 hbox hb; have n0_ := Aside0.mk (below_step (by repeat (first | (with_reducible first | exact HB.out | apply below_alloc | apply pw_below_drewN | apply below_drew1) | exact HB.out)) hb); have n1_ := Aside0.mk (hbox); have n2_ := Aside0.mk ((by rw [hg]; exact (below_size (by repeat (first | (with_reducible first | exact HB.out | apply below_alloc | apply pw_below_drewN | apply below_drew1) | exact HB.out))) : w.heap.size ≤ gb427)); have n3_ := Aside0.mk ((by rw [hg]; exact (below_size (by repeat (first | (with_reducible first | exact HB.out | apply below_alloc | apply pw_below_drewN | apply below_drew1) | exact HB.out))) : w.heap.size ≤ gb427)); clear HB; have HB := n0_; have BK427 := n1_; have GW427 := n2_; have GE427 := n3_; clear n0_ n1_ n2_ n3_; clear hb hbox hg; have hcz22_0 : w21.cell? ⟨gb427, 0, none⟩ = some (.bool a0_0) := (blk_cell BK427.out 0).trans rfl; have hcz22_1 : w21.cell? ⟨gb427, 1, none⟩ = some (.slice A0_1 l0_1.length c0_1) := (blk_cell BK427.out 1).trans rfl; have hcz22_2 : w21.cell? ⟨gb427, 2, none⟩ = some (.bool a0_2) := (blk_cell BK427.out 2).trans rfl; have hcz22_3 : w21.cell? ⟨gb427, 3, none⟩ = some (.slice A0_3 l0_3.length c0_3) := (blk_cell BK427.out 3).trans rfl; have hcz22_4 : w21.cell? ⟨gb427, 4, none⟩ = some (.bool a0_4) := (blk_cell BK427.out 4).trans rfl; have hfz22_0 := blk_frozen BK427.out 0; have hfz22_1 := blk_frozen BK427.out 1; have hfz22_2 := blk_frozen BK427.out 2; have hfz22_3 := blk_frozen BK427.out 3; have hfz22_4 := blk_frozen BK427.out 4) | ((with_reducible refine gate_callee (f := 10) rfl ?_); refine goesL_ (some 11) rfl rfl Tryd.func10 (by kernel_rfl) rfl #[.agg #[.bool a0_0, .slice A0_1 l0_1.length c0_1, .bool a0_2, .slice A0_3 l0_3.length c0_3, .bool a0_4]] rfl (by (try simp only [List.map_toArray, List.map_cons, List.map_nil]); first | done | rfl | (simp only [List.length_drop, List.length_take]; rfl)) ?_; (with_reducible refine (stockyardref04_Check.calls k a0_0 _ _ l0_1 a0_2 _ _ l0_3 a0_4 t428 _ ?side1 ?side2 ?side3 ?side4 A3.out).mono ?_); (case side1 => repeat (first | exact (Kd.C_below HR0_1.out HB.out) | (with_reducible refine Kd.C_alloc ?_ _) | (with_reducible refine Kd.C_drewN ?_ _) | (with_reducible refine Kd.C_drew ?_))); (case side2 => exact HC0_1.out); (case side3 => repeat (first | exact (Kd.C_below HR0_3.out HB.out) | (with_reducible refine Kd.C_alloc ?_ _) | (with_reducible refine Kd.C_drewN ?_ _) | (with_reducible refine Kd.C_drew ?_))); (case side4 => exact HC0_3.out); rintro e w23 ⟨rfl, hb⟩; refine ⟨_, rfl, ?_⟩; have n0_ := Aside0.mk (blk_below (g := gb427) (o := .cells #[.bool a0_0, .slice A0_1 l0_1.length c0_1, .bool a0_2, .slice A0_3 l0_3.length c0_3, .bool a0_4] 26 (0, 0)) (by (with_reducible repeat (first | refine blk_drewN ?_ _ | refine blk_drew ?_ | refine blk_alloc ?_ _)); exact BK427.out) hb); have n1_ := Aside0.mk (below_step (by repeat (first | (with_reducible first | exact HB.out | apply below_alloc | apply pw_below_drewN | apply below_drew1 | refine below_set ?_ GE427.out) | exact HB.out)) hb); clear BK427; clear HB; have BK427 := n0_; have HB := n1_; clear n0_ n1_; (try clear hb); (try clear hb2); (try clear hk); (try clear hi)))
    go_ret2
    exact ⟨by first | rfl | (simp [errW_none, errW_some] <;> rfl) | (simp [*, errW_none, errW_some] <;> rfl), by repeat (first | (with_reducible first | exact HB.out | apply below_alloc | apply pw_below_drewN | apply below_drew1 | refine below_set ?_ GE427.out) | exact HB.out)⟩

end Go.Proofs.YtnfpbnnhijiflaaDoor.P

-- Written by a program of this session (wip/gen.py) over the kit's print: each Go function as a plain Lean function, and the proof that the Go code comes to it. Nothing here is trusted: Lean checks it.
import Derived.Test.YtkakemojljeffaaDoorPx0
import Derived.Test.YtkakemojljeffaaDoorPx2
import Derived.Test.YtkakemojljeffaaDoorPx3
namespace Go.Proofs.YtkakemojljeffaaDoor.P
open Go.RowKit Go.Proofs.YtkakemojljeffaaDoorW.PrintWords Go.Proofs.YtkakemojljeffaaDoorW.PrintLast Go.Proofs.YtkakemojljeffaaDoorW.PrintMore
attribute [local go_sem] str_gtr str_leq str_geq max2_int min2_int max_two min_two max_three min_three max_four min_four   -- for this text's walks alone
set_option linter.unusedVariables false
set_option linter.unusedSimpArgs false

/-! ### pattern_Format: function 26 -/
def pattern_Format.f (k : Nat) (l0_0 : List ByteArray) (a0_1 : Bool) : Option (ByteArray × Int) := (pattern_Check.f k l0_0 a0_1).bind fun t280 => (if t280 = 0 then ((strings_Join.f l0_0 (⟨#[47]⟩ : ByteArray)).bind fun t281 => (if 2 + t281.size ≤ 9223372036854775807 then (if a0_1 = true then (if ((⟨#[47, 47]⟩ : ByteArray) ++ t281).size + 4 ≤ 9223372036854775807 then (some (((⟨#[47, 47]⟩ : ByteArray) ++ t281) ++ (⟨#[47, 46, 46, 46]⟩ : ByteArray), 0)) else (none)) else (some ((⟨#[47, 47]⟩ : ByteArray) ++ t281, 0))) else (none))) else (some ((⟨#[]⟩ : ByteArray), t280)))
theorem pattern_Format.mono : ∀ a0 a1 k, LeO (pattern_Format.f k a0 a1) (pattern_Format.f (k + 1) a0 a1) := by
  intro a0 a1 k
  unfold pattern_Format.f
  repeat' first
      | (with_reducible exact pattern_Check.mono _ _ _)
      | (with_reducible exact LeO.refl _)
      | (with_reducible exact LeO.none _)
      | (with_reducible refine LeO.ite ?_ ?_)
      | (with_reducible refine LeO.bind ?_ (fun _ => ?_))
      | exact pattern_Check.mono _ _ _
      | exact LeO.none _
      | refine LeO.ite ?_ ?_
      | refine LeO.bind ?_ (fun _ => ?_)
set_option maxHeartbeats 8000000 in
set_option maxRecDepth 100000 in
theorem pattern_Format.calls (k : Nat) (A0_0 : Option Addr) (c0_0 : Nat) (l0_0 : List ByteArray) (a0_1 : Bool) (r1 : ByteArray) (r2 : Int) (w : World) (hr0_0 : Kd.C Kd.string w A0_0 l0_0.length l0_0) (hc0_0 : l0_0.length ≤ c0_0) (h : pattern_Format.f k l0_0 a0_1 = some (r1, r2)) :
    Calls Tryd.prog 26 #[.agg #[.slice A0_0 l0_0.length c0_0, .bool a0_1]] w fun e w' => e = .returned (.tuple #[.string r1, .int .i64 r2]) ∧ Below w.heap.size w w' := by
  have hu25 := Tryd.underlying25
  have HR0_0 := Aside0.mk hr0_0
  have HC0_0 := Aside0.mk hc0_0
  clear hr0_0 hc0_0
  have HB := Aside0.mk (Below.refl w.heap.size w)
  have H : ((pattern_Check.f k l0_0 a0_1).bind fun t280 => (if t280 = 0 then ((strings_Join.f l0_0 (⟨#[47]⟩ : ByteArray)).bind fun t281 => (if 2 + t281.size ≤ 9223372036854775807 then (if a0_1 = true then (if ((⟨#[47, 47]⟩ : ByteArray) ++ t281).size + 4 ≤ 9223372036854775807 then (some (((⟨#[47, 47]⟩ : ByteArray) ++ t281) ++ (⟨#[47, 46, 46, 46]⟩ : ByteArray), 0)) else (none)) else (some ((⟨#[47, 47]⟩ : ByteArray) ++ t281, 0))) else (none))) else (some ((⟨#[]⟩ : ByteArray), t280)))) = some (r1, r2) := h
  clear h
  replace H := Option.bind_eq_some_iff.mp H
  obtain ⟨t280, A20, H⟩ := H
  replace H : (if t280 = 0 then ((strings_Join.f l0_0 (⟨#[47]⟩ : ByteArray)).bind fun t281 => (if 2 + t281.size ≤ 9223372036854775807 then (if a0_1 = true then (if ((⟨#[47, 47]⟩ : ByteArray) ++ t281).size + 4 ≤ 9223372036854775807 then (some (((⟨#[47, 47]⟩ : ByteArray) ++ t281) ++ (⟨#[47, 46, 46, 46]⟩ : ByteArray), 0)) else (none)) else (some ((⟨#[47, 47]⟩ : ByteArray) ++ t281, 0))) else (none))) else (some ((⟨#[]⟩ : ByteArray), t280))) = some (r1, r2) := H
  have A2 := Aside0.mk A20
  clear A20
  by_cases c3 : t280 = 0
  · rw [if_pos c3] at H
    have c3b0 : (t280 == 0) = true := beq_iff_eq.mpr c3
    have c3b1 : (t280 != 0) = false := bne_eq_false_iff_eq.mpr c3
    clear c3
    replace H := Option.bind_eq_some_iff.mp H
    obtain ⟨t281, A40, H⟩ := H
    replace H : (if 2 + t281.size ≤ 9223372036854775807 then (if a0_1 = true then (if ((⟨#[47, 47]⟩ : ByteArray) ++ t281).size + 4 ≤ 9223372036854775807 then (some (((⟨#[47, 47]⟩ : ByteArray) ++ t281) ++ (⟨#[47, 46, 46, 46]⟩ : ByteArray), 0)) else (none)) else (some ((⟨#[47, 47]⟩ : ByteArray) ++ t281, 0))) else (none)) = some (r1, r2) := H
    have A4 := Aside0.mk A40
    clear A40
    by_cases c5 : 2 + t281.size ≤ 9223372036854775807
    · rw [if_pos c5] at H
      have c5b0 := eq_true c5
      have c5b1 : decide (2 + t281.size ≤ 9223372036854775807) = true := decide_eq_true c5
      try have c5b2 : (9223372036854775807 < 2 + t281.size) = False := eq_false (Nat.not_lt.2 c5)
      by_cases c6 : a0_1 = true
      · subst c6
        have H1 : (if ((⟨#[47, 47]⟩ : ByteArray) ++ t281).size + 4 ≤ 9223372036854775807 then (some (((⟨#[47, 47]⟩ : ByteArray) ++ t281) ++ (⟨#[47, 46, 46, 46]⟩ : ByteArray), 0)) else (none)) = some (r1, r2) := by rw [if_pos rfl] at H; exact H
        clear H
        have H := H1
        clear H1
        by_cases c7 : ((⟨#[47, 47]⟩ : ByteArray) ++ t281).size + 4 ≤ 9223372036854775807
        · rw [if_pos c7] at H
          have c7b0 := eq_true c7
          have c7b1 : decide (((⟨#[47, 47]⟩ : ByteArray) ++ t281).size + 4 ≤ 9223372036854775807) = true := decide_eq_true c7
          have c7b5 : (2 + t281.size + 4 ≤ 9223372036854775807) = True := eq_true (by have q_ := c7; rw [ByteArray.size_append] at q_; exact q_)
          have c7b6 : decide (2 + t281.size + 4 ≤ 9223372036854775807) = true := decide_eq_true (by have q_ := c7; rw [ByteArray.size_append] at q_; exact q_)
          try have c7b7 : (9223372036854775807 < 2 + t281.size + 4) = False := eq_false (Nat.not_lt.2 (by have q_ := c7; rw [ByteArray.size_append] at q_; exact q_))
          try have c7b2 : (9223372036854775807 < ((⟨#[47, 47]⟩ : ByteArray) ++ t281).size + 4) = False := eq_false (Nat.not_lt.2 c7)
          simp only [Option.some.injEq, Prod.mk.injEq] at H
          obtain ⟨rfl, rfl⟩ := H
          go_enter Tryd.func26, Tryd.ntmps26
          go_wp2_with (first | ((with_reducible refine gate_dst (N := 1) rfl ?_); refine box_event ?hg (N := 1) ?hd (cs := #[.slice A0_0 l0_0.length c0_0, .bool true]) (t := 25) ?hr ?_; (case hd => rfl); (case hg => rfl); (case hr => first | (go_simp; done) | (go_simp; rfl)); intro gb279 hg w8 hbox hb; have n0_ := Aside0.mk (below_step (by repeat (first | (with_reducible first | exact HB.out | apply below_alloc | apply pw_below_drewN | apply below_drew1) | exact HB.out)) hb); have n1_ := Aside0.mk (hbox); have n2_ := Aside0.mk ((by rw [hg]; exact (below_size (by repeat (first | (with_reducible first | exact HB.out | apply below_alloc | apply pw_below_drewN | apply below_drew1) | exact HB.out))) : w.heap.size ≤ gb279)); have n3_ := Aside0.mk ((by rw [hg]; exact (below_size (by repeat (first | (with_reducible first | exact HB.out | apply below_alloc | apply pw_below_drewN | apply below_drew1) | exact HB.out))) : w.heap.size ≤ gb279)); clear HB; have HB := n0_; have BK279 := n1_; have GW279 := n2_; have GE279 := n3_; clear n0_ n1_ n2_ n3_; clear hb hbox hg; have hcz9_0 : w8.cell? ⟨gb279, 0, none⟩ = some (.slice A0_0 l0_0.length c0_0) := (blk_cell BK279.out 0).trans rfl; have hcz9_1 : w8.cell? ⟨gb279, 1, none⟩ = some (.bool true) := (blk_cell BK279.out 1).trans rfl; have hfz9_0 := blk_frozen BK279.out 0; have hfz9_1 := blk_frozen BK279.out 1) | ((with_reducible refine gate_callee (f := 29) rfl ?_); refine goesL_ (some 7) rfl rfl Tryd.func29 (by kernel_rfl) rfl #[.agg #[.slice A0_0 l0_0.length c0_0, .bool true]] rfl (by (try simp only [List.map_toArray, List.map_cons, List.map_nil]); first | done | rfl | (simp only [List.length_drop, List.length_take]; rfl)) ?_; (with_reducible refine (pattern_Check.calls k _ _ l0_0 true t280 _ ?side1 ?side2 A2.out).mono ?_); (case side1 => repeat (first | exact (Kd.C_below HR0_0.out HB.out) | (with_reducible refine Kd.C_alloc ?_ _) | (with_reducible refine Kd.C_drewN ?_ _) | (with_reducible refine Kd.C_drew ?_))); (case side2 => exact HC0_0.out); rintro e w10 ⟨rfl, hb⟩; refine ⟨_, rfl, ?_⟩; have n0_ := Aside0.mk (blk_below (g := gb279) (o := .cells #[.slice A0_0 l0_0.length c0_0, .bool true] 25 (0, 0)) (by (with_reducible repeat (first | refine blk_drewN ?_ _ | refine blk_drew ?_ | refine blk_alloc ?_ _)); exact BK279.out) hb); have n1_ := Aside0.mk (below_step (by repeat (first | (with_reducible first | exact HB.out | apply below_alloc | apply pw_below_drewN | apply below_drew1 | refine below_set ?_ GE279.out) | exact HB.out)) hb); clear BK279; clear HB; have BK279 := n0_; have HB := n1_; clear n0_ n1_; (try clear hb); (try clear hb2); (try clear hk); (try clear hi); have hcz11_0 : w10.cell? ⟨gb279, 0, none⟩ = some (.slice A0_0 l0_0.length c0_0) := (blk_cell BK279.out 0).trans rfl; have hcz11_1 : w10.cell? ⟨gb279, 1, none⟩ = some (.bool true) := (blk_cell BK279.out 1).trans rfl; have hfz11_0 := blk_frozen BK279.out 0; have hfz11_1 := blk_frozen BK279.out 1) | ((with_reducible refine gate_callee (f := 52) rfl ?_); refine goesL_ (some 13) rfl rfl Tryd.func52 (by kernel_rfl) rfl #[.slice A0_0 l0_0.length c0_0, .string (⟨#[47]⟩ : ByteArray)] rfl (by (try simp only [List.map_toArray, List.map_cons, List.map_nil]); first | done | rfl | (simp only [List.length_drop, List.length_take]; rfl)) ?_; (with_reducible refine (strings_Join.calls _ _ l0_0 (⟨#[47]⟩ : ByteArray) t281 _ ?side1 ?side2 A4.out).mono ?_); (case side1 => repeat (first | exact (Kd.C_below HR0_0.out HB.out) | (with_reducible refine Kd.C_alloc ?_ _) | (with_reducible refine Kd.C_drewN ?_ _) | (with_reducible refine Kd.C_drew ?_))); (case side2 => exact HC0_0.out); rintro e w12 ⟨rfl, hb⟩; refine ⟨_, rfl, ?_⟩; have n0_ := Aside0.mk (blk_below (g := gb279) (o := .cells #[.slice A0_0 l0_0.length c0_0, .bool true] 25 (0, 0)) (by (with_reducible repeat (first | refine blk_drewN ?_ _ | refine blk_drew ?_ | refine blk_alloc ?_ _)); exact BK279.out) hb); have n1_ := Aside0.mk (below_step (by repeat (first | (with_reducible first | exact HB.out | apply below_alloc | apply pw_below_drewN | apply below_drew1 | refine below_set ?_ GE279.out) | exact HB.out)) hb); clear BK279; clear HB; have BK279 := n0_; have HB := n1_; clear n0_ n1_; (try clear hb); (try clear hb2); (try clear hk); (try clear hi); have hcz13_0 : w12.cell? ⟨gb279, 0, none⟩ = some (.slice A0_0 l0_0.length c0_0) := (blk_cell BK279.out 0).trans rfl; have hcz13_1 : w12.cell? ⟨gb279, 1, none⟩ = some (.bool true) := (blk_cell BK279.out 1).trans rfl; have hfz13_0 := blk_frozen BK279.out 0; have hfz13_1 := blk_frozen BK279.out 1))
          go_ret2
          exact ⟨by first | rfl | (simp [errW_none, errW_some] <;> rfl) | (simp [*, errW_none, errW_some] <;> rfl), by repeat (first | (with_reducible first | exact HB.out | apply below_alloc | apply pw_below_drewN | apply below_drew1 | refine below_set ?_ GE279.out) | exact HB.out)⟩
        · rw [if_neg c7] at H
          exact absurd H (by simp)
      · replace c6 := Bool.eq_false_iff.mpr c6
        subst c6
        have H1 : (some ((⟨#[47, 47]⟩ : ByteArray) ++ t281, 0)) = some (r1, r2) := by rw [if_neg (show ¬ (false = true) by decide)] at H; exact H
        clear H
        have H := H1
        clear H1
        simp only [Option.some.injEq, Prod.mk.injEq] at H
        obtain ⟨rfl, rfl⟩ := H
        go_enter Tryd.func26, Tryd.ntmps26
        go_wp2_with (first | ((with_reducible refine gate_dst (N := 1) rfl ?_); refine box_event ?hg (N := 1) ?hd (cs := #[.slice A0_0 l0_0.length c0_0, .bool false]) (t := 25) ?hr ?_; (case hd => rfl); (case hg => rfl); (case hr => first | (go_simp; done) | (go_simp; rfl)); intro gb279 hg w14 hbox hb; have n0_ := Aside0.mk (below_step (by repeat (first | (with_reducible first | exact HB.out | apply below_alloc | apply pw_below_drewN | apply below_drew1) | exact HB.out)) hb); have n1_ := Aside0.mk (hbox); have n2_ := Aside0.mk ((by rw [hg]; exact (below_size (by repeat (first | (with_reducible first | exact HB.out | apply below_alloc | apply pw_below_drewN | apply below_drew1) | exact HB.out))) : w.heap.size ≤ gb279)); have n3_ := Aside0.mk ((by rw [hg]; exact (below_size (by repeat (first | (with_reducible first | exact HB.out | apply below_alloc | apply pw_below_drewN | apply below_drew1) | exact HB.out))) : w.heap.size ≤ gb279)); clear HB; have HB := n0_; have BK279 := n1_; have GW279 := n2_; have GE279 := n3_; clear n0_ n1_ n2_ n3_; clear hb hbox hg; have hcz15_0 : w14.cell? ⟨gb279, 0, none⟩ = some (.slice A0_0 l0_0.length c0_0) := (blk_cell BK279.out 0).trans rfl; have hcz15_1 : w14.cell? ⟨gb279, 1, none⟩ = some (.bool false) := (blk_cell BK279.out 1).trans rfl; have hfz15_0 := blk_frozen BK279.out 0; have hfz15_1 := blk_frozen BK279.out 1) | ((with_reducible refine gate_callee (f := 29) rfl ?_); refine goesL_ (some 7) rfl rfl Tryd.func29 (by kernel_rfl) rfl #[.agg #[.slice A0_0 l0_0.length c0_0, .bool false]] rfl (by (try simp only [List.map_toArray, List.map_cons, List.map_nil]); first | done | rfl | (simp only [List.length_drop, List.length_take]; rfl)) ?_; (with_reducible refine (pattern_Check.calls k _ _ l0_0 false t280 _ ?side1 ?side2 A2.out).mono ?_); (case side1 => repeat (first | exact (Kd.C_below HR0_0.out HB.out) | (with_reducible refine Kd.C_alloc ?_ _) | (with_reducible refine Kd.C_drewN ?_ _) | (with_reducible refine Kd.C_drew ?_))); (case side2 => exact HC0_0.out); rintro e w16 ⟨rfl, hb⟩; refine ⟨_, rfl, ?_⟩; have n0_ := Aside0.mk (blk_below (g := gb279) (o := .cells #[.slice A0_0 l0_0.length c0_0, .bool false] 25 (0, 0)) (by (with_reducible repeat (first | refine blk_drewN ?_ _ | refine blk_drew ?_ | refine blk_alloc ?_ _)); exact BK279.out) hb); have n1_ := Aside0.mk (below_step (by repeat (first | (with_reducible first | exact HB.out | apply below_alloc | apply pw_below_drewN | apply below_drew1 | refine below_set ?_ GE279.out) | exact HB.out)) hb); clear BK279; clear HB; have BK279 := n0_; have HB := n1_; clear n0_ n1_; (try clear hb); (try clear hb2); (try clear hk); (try clear hi); have hcz17_0 : w16.cell? ⟨gb279, 0, none⟩ = some (.slice A0_0 l0_0.length c0_0) := (blk_cell BK279.out 0).trans rfl; have hcz17_1 : w16.cell? ⟨gb279, 1, none⟩ = some (.bool false) := (blk_cell BK279.out 1).trans rfl; have hfz17_0 := blk_frozen BK279.out 0; have hfz17_1 := blk_frozen BK279.out 1) | ((with_reducible refine gate_callee (f := 52) rfl ?_); refine goesL_ (some 13) rfl rfl Tryd.func52 (by kernel_rfl) rfl #[.slice A0_0 l0_0.length c0_0, .string (⟨#[47]⟩ : ByteArray)] rfl (by (try simp only [List.map_toArray, List.map_cons, List.map_nil]); first | done | rfl | (simp only [List.length_drop, List.length_take]; rfl)) ?_; (with_reducible refine (strings_Join.calls _ _ l0_0 (⟨#[47]⟩ : ByteArray) t281 _ ?side1 ?side2 A4.out).mono ?_); (case side1 => repeat (first | exact (Kd.C_below HR0_0.out HB.out) | (with_reducible refine Kd.C_alloc ?_ _) | (with_reducible refine Kd.C_drewN ?_ _) | (with_reducible refine Kd.C_drew ?_))); (case side2 => exact HC0_0.out); rintro e w18 ⟨rfl, hb⟩; refine ⟨_, rfl, ?_⟩; have n0_ := Aside0.mk (blk_below (g := gb279) (o := .cells #[.slice A0_0 l0_0.length c0_0, .bool false] 25 (0, 0)) (by (with_reducible repeat (first | refine blk_drewN ?_ _ | refine blk_drew ?_ | refine blk_alloc ?_ _)); exact BK279.out) hb); have n1_ := Aside0.mk (below_step (by repeat (first | (with_reducible first | exact HB.out | apply below_alloc | apply pw_below_drewN | apply below_drew1 | refine below_set ?_ GE279.out) | exact HB.out)) hb); clear BK279; clear HB; have BK279 := n0_; have HB := n1_; clear n0_ n1_; (try clear hb); (try clear hb2); (try clear hk); (try clear hi); have hcz19_0 : w18.cell? ⟨gb279, 0, none⟩ = some (.slice A0_0 l0_0.length c0_0) := (blk_cell BK279.out 0).trans rfl; have hcz19_1 : w18.cell? ⟨gb279, 1, none⟩ = some (.bool false) := (blk_cell BK279.out 1).trans rfl; have hfz19_0 := blk_frozen BK279.out 0; have hfz19_1 := blk_frozen BK279.out 1))
        go_ret2
        exact ⟨by first | rfl | (simp [errW_none, errW_some] <;> rfl) | (simp [*, errW_none, errW_some] <;> rfl), by repeat (first | (with_reducible first | exact HB.out | apply below_alloc | apply pw_below_drewN | apply below_drew1 | refine below_set ?_ GE279.out) | exact HB.out)⟩
    · rw [if_neg c5] at H
      exact absurd H (by simp)
  · rw [if_neg c3] at H
    have c3b0 : (t280 == 0) = false := beq_eq_false_iff_ne.mpr c3
    have c3b1 : (t280 != 0) = true := bne_iff_ne.mpr c3
    simp only [Option.some.injEq, Prod.mk.injEq] at H
    obtain ⟨rfl, rfl⟩ := H
    go_enter Tryd.func26, Tryd.ntmps26
    go_wp2_with (first | ((with_reducible refine gate_dst (N := 1) rfl ?_); refine box_event ?hg (N := 1) ?hd (cs := #[.slice A0_0 l0_0.length c0_0, .bool a0_1]) (t := 25) ?hr ?_; (case hd => rfl); (case hg => rfl); (case hr => first | (go_simp; done) | (go_simp; rfl)); intro gb279 hg w20 hbox hb; have n0_ := Aside0.mk (below_step (by repeat (first | (with_reducible first | exact HB.out | apply below_alloc | apply pw_below_drewN | apply below_drew1) | exact HB.out)) hb); have n1_ := Aside0.mk (hbox); have n2_ := Aside0.mk ((by rw [hg]; exact (below_size (by repeat (first | (with_reducible first | exact HB.out | apply below_alloc | apply pw_below_drewN | apply below_drew1) | exact HB.out))) : w.heap.size ≤ gb279)); have n3_ := Aside0.mk ((by rw [hg]; exact (below_size (by repeat (first | (with_reducible first | exact HB.out | apply below_alloc | apply pw_below_drewN | apply below_drew1) | exact HB.out))) : w.heap.size ≤ gb279)); clear HB; have HB := n0_; have BK279 := n1_; have GW279 := n2_; have GE279 := n3_; clear n0_ n1_ n2_ n3_; clear hb hbox hg; have hcz21_0 : w20.cell? ⟨gb279, 0, none⟩ = some (.slice A0_0 l0_0.length c0_0) := (blk_cell BK279.out 0).trans rfl; have hcz21_1 : w20.cell? ⟨gb279, 1, none⟩ = some (.bool a0_1) := (blk_cell BK279.out 1).trans rfl; have hfz21_0 := blk_frozen BK279.out 0; have hfz21_1 := blk_frozen BK279.out 1) | ((with_reducible refine gate_callee (f := 29) rfl ?_); refine goesL_ (some 7) rfl rfl Tryd.func29 (by kernel_rfl) rfl #[.agg #[.slice A0_0 l0_0.length c0_0, .bool a0_1]] rfl (by (try simp only [List.map_toArray, List.map_cons, List.map_nil]); first | done | rfl | (simp only [List.length_drop, List.length_take]; rfl)) ?_; (with_reducible refine (pattern_Check.calls k _ _ l0_0 a0_1 t280 _ ?side1 ?side2 A2.out).mono ?_); (case side1 => repeat (first | exact (Kd.C_below HR0_0.out HB.out) | (with_reducible refine Kd.C_alloc ?_ _) | (with_reducible refine Kd.C_drewN ?_ _) | (with_reducible refine Kd.C_drew ?_))); (case side2 => exact HC0_0.out); rintro e w22 ⟨rfl, hb⟩; refine ⟨_, rfl, ?_⟩; have n0_ := Aside0.mk (blk_below (g := gb279) (o := .cells #[.slice A0_0 l0_0.length c0_0, .bool a0_1] 25 (0, 0)) (by (with_reducible repeat (first | refine blk_drewN ?_ _ | refine blk_drew ?_ | refine blk_alloc ?_ _)); exact BK279.out) hb); have n1_ := Aside0.mk (below_step (by repeat (first | (with_reducible first | exact HB.out | apply below_alloc | apply pw_below_drewN | apply below_drew1 | refine below_set ?_ GE279.out) | exact HB.out)) hb); clear BK279; clear HB; have BK279 := n0_; have HB := n1_; clear n0_ n1_; (try clear hb); (try clear hb2); (try clear hk); (try clear hi)))
    go_ret2
    exact ⟨by first | rfl | (simp [errW_none, errW_some] <;> rfl) | (simp [*, errW_none, errW_some] <;> rfl), by repeat (first | (with_reducible first | exact HB.out | apply below_alloc | apply pw_below_drewN | apply below_drew1 | refine below_set ?_ GE279.out) | exact HB.out)⟩

/-! ### stockyardref03_Text: function 30 -/
def stockyardref03_Text.f (l0_0 : List ByteArray) (a0_1 : Bool) : Option (ByteArray) := (strings_Join.f l0_0 (⟨#[47]⟩ : ByteArray)).bind fun t310 => (if 2 + t310.size ≤ 9223372036854775807 then (if a0_1 = true then (if ((⟨#[47, 47]⟩ : ByteArray) ++ t310).size + 4 ≤ 9223372036854775807 then (some (((⟨#[47, 47]⟩ : ByteArray) ++ t310) ++ (⟨#[47, 46, 46, 46]⟩ : ByteArray))) else (none)) else (some ((⟨#[47, 47]⟩ : ByteArray) ++ t310))) else (none))
set_option maxHeartbeats 8000000 in
set_option maxRecDepth 100000 in
theorem stockyardref03_Text.calls (A0_0 : Option Addr) (c0_0 : Nat) (l0_0 : List ByteArray) (a0_1 : Bool) (r : ByteArray) (w : World) (hr0_0 : Kd.C Kd.string w A0_0 l0_0.length l0_0) (hc0_0 : l0_0.length ≤ c0_0) (h : stockyardref03_Text.f l0_0 a0_1 = some r) :
    Calls Tryd.prog 30 #[.agg #[.slice A0_0 l0_0.length c0_0, .bool a0_1]] w fun e w' => e = .returned (.string r) ∧ Below w.heap.size w w' := by
  have hu25 := Tryd.underlying25
  have HR0_0 := Aside0.mk hr0_0
  have HC0_0 := Aside0.mk hc0_0
  clear hr0_0 hc0_0
  have HB := Aside0.mk (Below.refl w.heap.size w)
  have H : ((strings_Join.f l0_0 (⟨#[47]⟩ : ByteArray)).bind fun t310 => (if 2 + t310.size ≤ 9223372036854775807 then (if a0_1 = true then (if ((⟨#[47, 47]⟩ : ByteArray) ++ t310).size + 4 ≤ 9223372036854775807 then (some (((⟨#[47, 47]⟩ : ByteArray) ++ t310) ++ (⟨#[47, 46, 46, 46]⟩ : ByteArray))) else (none)) else (some ((⟨#[47, 47]⟩ : ByteArray) ++ t310))) else (none))) = some r := h
  clear h
  replace H := Option.bind_eq_some_iff.mp H
  obtain ⟨t310, A20, H⟩ := H
  replace H : (if 2 + t310.size ≤ 9223372036854775807 then (if a0_1 = true then (if ((⟨#[47, 47]⟩ : ByteArray) ++ t310).size + 4 ≤ 9223372036854775807 then (some (((⟨#[47, 47]⟩ : ByteArray) ++ t310) ++ (⟨#[47, 46, 46, 46]⟩ : ByteArray))) else (none)) else (some ((⟨#[47, 47]⟩ : ByteArray) ++ t310))) else (none)) = some r := H
  have A2 := Aside0.mk A20
  clear A20
  by_cases c3 : 2 + t310.size ≤ 9223372036854775807
  · rw [if_pos c3] at H
    have c3b0 := eq_true c3
    have c3b1 : decide (2 + t310.size ≤ 9223372036854775807) = true := decide_eq_true c3
    try have c3b2 : (9223372036854775807 < 2 + t310.size) = False := eq_false (Nat.not_lt.2 c3)
    by_cases c4 : a0_1 = true
    · subst c4
      have H1 : (if ((⟨#[47, 47]⟩ : ByteArray) ++ t310).size + 4 ≤ 9223372036854775807 then (some (((⟨#[47, 47]⟩ : ByteArray) ++ t310) ++ (⟨#[47, 46, 46, 46]⟩ : ByteArray))) else (none)) = some r := by rw [if_pos rfl] at H; exact H
      clear H
      have H := H1
      clear H1
      by_cases c5 : ((⟨#[47, 47]⟩ : ByteArray) ++ t310).size + 4 ≤ 9223372036854775807
      · rw [if_pos c5] at H
        have c5b0 := eq_true c5
        have c5b1 : decide (((⟨#[47, 47]⟩ : ByteArray) ++ t310).size + 4 ≤ 9223372036854775807) = true := decide_eq_true c5
        have c5b5 : (2 + t310.size + 4 ≤ 9223372036854775807) = True := eq_true (by have q_ := c5; rw [ByteArray.size_append] at q_; exact q_)
        have c5b6 : decide (2 + t310.size + 4 ≤ 9223372036854775807) = true := decide_eq_true (by have q_ := c5; rw [ByteArray.size_append] at q_; exact q_)
        try have c5b7 : (9223372036854775807 < 2 + t310.size + 4) = False := eq_false (Nat.not_lt.2 (by have q_ := c5; rw [ByteArray.size_append] at q_; exact q_))
        try have c5b2 : (9223372036854775807 < ((⟨#[47, 47]⟩ : ByteArray) ++ t310).size + 4) = False := eq_false (Nat.not_lt.2 c5)
        obtain rfl := Option.some.inj H
        go_enter Tryd.func30, Tryd.ntmps30
        go_wp2_with (first | ((with_reducible refine gate_dst (N := 1) rfl ?_); refine box_event ?hg (N := 1) ?hd (cs := #[.slice A0_0 l0_0.length c0_0, .bool true]) (t := 25) ?hr ?_; (case hd => rfl); (case hg => rfl); (case hr => first | (go_simp; done) | (go_simp; rfl)); intro gb309 hg w6 hbox hb; have n0_ := Aside0.mk (below_step (by repeat (first | (with_reducible first | exact HB.out | apply below_alloc | apply pw_below_drewN | apply below_drew1) | exact HB.out)) hb); have n1_ := Aside0.mk (hbox); have n2_ := Aside0.mk ((by rw [hg]; exact (below_size (by repeat (first | (with_reducible first | exact HB.out | apply below_alloc | apply pw_below_drewN | apply below_drew1) | exact HB.out))) : w.heap.size ≤ gb309)); have n3_ := Aside0.mk ((by rw [hg]; exact (below_size (by repeat (first | (with_reducible first | exact HB.out | apply below_alloc | apply pw_below_drewN | apply below_drew1) | exact HB.out))) : w.heap.size ≤ gb309)); clear HB; have HB := n0_; have BK309 := n1_; have GW309 := n2_; have GE309 := n3_; clear n0_ n1_ n2_ n3_; clear hb hbox hg; have hcz7_0 : w6.cell? ⟨gb309, 0, none⟩ = some (.slice A0_0 l0_0.length c0_0) := (blk_cell BK309.out 0).trans rfl; have hcz7_1 : w6.cell? ⟨gb309, 1, none⟩ = some (.bool true) := (blk_cell BK309.out 1).trans rfl; have hfz7_0 := blk_frozen BK309.out 0; have hfz7_1 := blk_frozen BK309.out 1) | ((with_reducible refine gate_callee (f := 52) rfl ?_); refine goesL_ (some 6) rfl rfl Tryd.func52 (by kernel_rfl) rfl #[.slice A0_0 l0_0.length c0_0, .string (⟨#[47]⟩ : ByteArray)] rfl (by (try simp only [List.map_toArray, List.map_cons, List.map_nil]); first | done | rfl | (simp only [List.length_drop, List.length_take]; rfl)) ?_; (with_reducible refine (strings_Join.calls _ _ l0_0 (⟨#[47]⟩ : ByteArray) t310 _ ?side1 ?side2 A2.out).mono ?_); (case side1 => repeat (first | exact (Kd.C_below HR0_0.out HB.out) | (with_reducible refine Kd.C_alloc ?_ _) | (with_reducible refine Kd.C_drewN ?_ _) | (with_reducible refine Kd.C_drew ?_))); (case side2 => exact HC0_0.out); rintro e w8 ⟨rfl, hb⟩; refine ⟨_, rfl, ?_⟩; have n0_ := Aside0.mk (blk_below (g := gb309) (o := .cells #[.slice A0_0 l0_0.length c0_0, .bool true] 25 (0, 0)) (by (with_reducible repeat (first | refine blk_drewN ?_ _ | refine blk_drew ?_ | refine blk_alloc ?_ _)); exact BK309.out) hb); have n1_ := Aside0.mk (below_step (by repeat (first | (with_reducible first | exact HB.out | apply below_alloc | apply pw_below_drewN | apply below_drew1 | refine below_set ?_ GE309.out) | exact HB.out)) hb); clear BK309; clear HB; have BK309 := n0_; have HB := n1_; clear n0_ n1_; (try clear hb); (try clear hb2); (try clear hk); (try clear hi); have hcz9_0 : w8.cell? ⟨gb309, 0, none⟩ = some (.slice A0_0 l0_0.length c0_0) := (blk_cell BK309.out 0).trans rfl; have hcz9_1 : w8.cell? ⟨gb309, 1, none⟩ = some (.bool true) := (blk_cell BK309.out 1).trans rfl; have hfz9_0 := blk_frozen BK309.out 0; have hfz9_1 := blk_frozen BK309.out 1))
        go_ret
        exact ⟨by first | rfl | (simp [errW_none, errW_some] <;> rfl) | (simp [*, errW_none, errW_some] <;> rfl), by repeat (first | (with_reducible first | exact HB.out | apply below_alloc | apply pw_below_drewN | apply below_drew1 | refine below_set ?_ GE309.out) | exact HB.out)⟩
      · rw [if_neg c5] at H
        exact absurd H (by simp)
    · replace c4 := Bool.eq_false_iff.mpr c4
      subst c4
      have H1 : (some ((⟨#[47, 47]⟩ : ByteArray) ++ t310)) = some r := by rw [if_neg (show ¬ (false = true) by decide)] at H; exact H
      clear H
      have H := H1
      clear H1
      obtain rfl := Option.some.inj H
      go_enter Tryd.func30, Tryd.ntmps30
      go_wp2_with (first | ((with_reducible refine gate_dst (N := 1) rfl ?_); refine box_event ?hg (N := 1) ?hd (cs := #[.slice A0_0 l0_0.length c0_0, .bool false]) (t := 25) ?hr ?_; (case hd => rfl); (case hg => rfl); (case hr => first | (go_simp; done) | (go_simp; rfl)); intro gb309 hg w10 hbox hb; have n0_ := Aside0.mk (below_step (by repeat (first | (with_reducible first | exact HB.out | apply below_alloc | apply pw_below_drewN | apply below_drew1) | exact HB.out)) hb); have n1_ := Aside0.mk (hbox); have n2_ := Aside0.mk ((by rw [hg]; exact (below_size (by repeat (first | (with_reducible first | exact HB.out | apply below_alloc | apply pw_below_drewN | apply below_drew1) | exact HB.out))) : w.heap.size ≤ gb309)); have n3_ := Aside0.mk ((by rw [hg]; exact (below_size (by repeat (first | (with_reducible first | exact HB.out | apply below_alloc | apply pw_below_drewN | apply below_drew1) | exact HB.out))) : w.heap.size ≤ gb309)); clear HB; have HB := n0_; have BK309 := n1_; have GW309 := n2_; have GE309 := n3_; clear n0_ n1_ n2_ n3_; clear hb hbox hg; have hcz11_0 : w10.cell? ⟨gb309, 0, none⟩ = some (.slice A0_0 l0_0.length c0_0) := (blk_cell BK309.out 0).trans rfl; have hcz11_1 : w10.cell? ⟨gb309, 1, none⟩ = some (.bool false) := (blk_cell BK309.out 1).trans rfl; have hfz11_0 := blk_frozen BK309.out 0; have hfz11_1 := blk_frozen BK309.out 1) | ((with_reducible refine gate_callee (f := 52) rfl ?_); refine goesL_ (some 6) rfl rfl Tryd.func52 (by kernel_rfl) rfl #[.slice A0_0 l0_0.length c0_0, .string (⟨#[47]⟩ : ByteArray)] rfl (by (try simp only [List.map_toArray, List.map_cons, List.map_nil]); first | done | rfl | (simp only [List.length_drop, List.length_take]; rfl)) ?_; (with_reducible refine (strings_Join.calls _ _ l0_0 (⟨#[47]⟩ : ByteArray) t310 _ ?side1 ?side2 A2.out).mono ?_); (case side1 => repeat (first | exact (Kd.C_below HR0_0.out HB.out) | (with_reducible refine Kd.C_alloc ?_ _) | (with_reducible refine Kd.C_drewN ?_ _) | (with_reducible refine Kd.C_drew ?_))); (case side2 => exact HC0_0.out); rintro e w12 ⟨rfl, hb⟩; refine ⟨_, rfl, ?_⟩; have n0_ := Aside0.mk (blk_below (g := gb309) (o := .cells #[.slice A0_0 l0_0.length c0_0, .bool false] 25 (0, 0)) (by (with_reducible repeat (first | refine blk_drewN ?_ _ | refine blk_drew ?_ | refine blk_alloc ?_ _)); exact BK309.out) hb); have n1_ := Aside0.mk (below_step (by repeat (first | (with_reducible first | exact HB.out | apply below_alloc | apply pw_below_drewN | apply below_drew1 | refine below_set ?_ GE309.out) | exact HB.out)) hb); clear BK309; clear HB; have BK309 := n0_; have HB := n1_; clear n0_ n1_; (try clear hb); (try clear hb2); (try clear hk); (try clear hi); have hcz13_0 : w12.cell? ⟨gb309, 0, none⟩ = some (.slice A0_0 l0_0.length c0_0) := (blk_cell BK309.out 0).trans rfl; have hcz13_1 : w12.cell? ⟨gb309, 1, none⟩ = some (.bool false) := (blk_cell BK309.out 1).trans rfl; have hfz13_0 := blk_frozen BK309.out 0; have hfz13_1 := blk_frozen BK309.out 1))
      go_ret
      exact ⟨by first | rfl | (simp [errW_none, errW_some] <;> rfl) | (simp [*, errW_none, errW_some] <;> rfl), by repeat (first | (with_reducible first | exact HB.out | apply below_alloc | apply pw_below_drewN | apply below_drew1 | refine below_set ?_ GE309.out) | exact HB.out)⟩
  · rw [if_neg c3] at H
    exact absurd H (by simp)

end Go.Proofs.YtkakemojljeffaaDoor.P

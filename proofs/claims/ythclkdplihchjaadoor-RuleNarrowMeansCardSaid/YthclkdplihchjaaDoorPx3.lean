-- Written by a program of this session (wip/gen.py) over the kit's print: each Go function as a plain Lean function, and the proof that the Go code comes to it. Nothing here is trusted: Lean checks it.
import Derived.Test.YthclkdplihchjaaDoorPx0
import Derived.Test.YthclkdplihchjaaDoorPx1
import Derived.Test.YthclkdplihchjaaDoorSq
namespace Go.Proofs.YthclkdplihchjaaDoor.P
open Go.RowKit Go.Proofs.YthclkdplihchjaaDoorW.PrintWords Go.Proofs.YthclkdplihchjaaDoorW.PrintLast Go.Proofs.YthclkdplihchjaaDoorW.PrintMore
attribute [local go_sem] str_gtr str_leq str_geq max2_int min2_int max_two min_two max_three min_three max_four min_four   -- for this text's walks alone
set_option linter.unusedVariables false
set_option linter.unusedSimpArgs false

/-! ### stockyardlaw04_small: function 26 -/
def stockyardlaw04_small.l0 : Nat → Int → List ByteArray → Int → Int → List ByteArray → Bool → Option (Bool)
  | 0, _, _, _, _, _, _ => none
  | k + 1, x3, x7, x8, x9, x416000, x416001 => if x9 < x8 then (if 0 ≤ x9 then (if x9 < (x7.length : Int) then (stockyardlaw04_small.l0 k (wrap64 (x3 + ((rdOf ByteArray.empty x7 x9).size : Int))) x7 x8 (wrap64 (x9 + 1)) x416000 x416001) else (none)) else (none)) else (if (x416000.length : Int) ≤ 20 then (some (decide (x3 ≤ 300))) else (some false))
def stockyardlaw04_small.f (k : Nat) (l0_0 : List ByteArray) (a0_1 : Bool) : Option (Bool) := stockyardlaw04_small.l0 k 0 l0_0 (l0_0.length : Int) 0 l0_0 a0_1
set_option maxHeartbeats 8000000 in
set_option maxRecDepth 100000 in
theorem stockyardlaw04_small.calls (k : Nat) (A0_0 : Option Addr) (c0_0 : Nat) (l0_0 : List ByteArray) (a0_1 : Bool) (r : Bool) (w : World) (hr0_0 : Kd.C Kd.string w A0_0 l0_0.length l0_0) (hc0_0 : l0_0.length ≤ c0_0) (h : stockyardlaw04_small.f k l0_0 a0_1 = some r) :
  Calls Tryd.prog 26 #[.agg #[.slice A0_0 l0_0.length c0_0, .bool a0_1]] w fun e w' => e = .returned (.bool r) ∧ Below w.heap.size w w' := by
 have hu24 := Tryd.underlying24
 have HR0_0 := Aside0.mk hr0_0
 have HC0_0 := Aside0.mk hc0_0
 clear hr0_0 hc0_0
 have HB := Aside0.mk (Below.refl w.heap.size w)
 have H : (stockyardlaw04_small.l0 k 0 l0_0 (l0_0.length : Int) 0 l0_0 a0_1) = some r := h
 clear h
 have H' := Aside0.mk H
 clear H
 go_enter Tryd.func26, Tryd.ntmps26
 go_wp2_with (first | ((with_reducible refine gate_dst (N := 1) rfl ?_); refine box_event ?hg (N := 1) ?hd (cs := #[.slice A0_0 l0_0.length c0_0, .bool a0_1]) (t := 24) ?hr ?_; (case hd => rfl); (case hg => rfl); (case hr => first | (go_simp; done) | (go_simp; rfl)); intro gb415 hg w2 hbox hb; have BK415 := Aside0.mk hbox; have GW415 := gw_ HB hg; have GE415 := gw_ HB hg; replace HB := hs_ HB hb; clear hb hbox hg; obtain ⟨hcz3_0, hcz3_1, hfz3_0, hfz3_1⟩ := c2_ BK415))
 go_loopg [3, 9] k (fun kq v3 v9 w' => ∃ (x3_1 : Int) (x9_1 : Int), v3 = .int .i64 x3_1 ∧ v9 = .int .i64 x9_1 ∧ Aside0 (stockyardlaw04_small.l0 kq x3_1 l0_0 (l0_0.length : Int) x9_1 l0_0 a0_1 = some r) ∧ Aside0 (kq ≤ k) ∧ Aside0 (w'.heap[gb415]? = some (.cells #[(.slice A0_0 l0_0.length c0_0), .bool a0_1] 24 (0, 0))) ∧ Aside0 (Below w.heap.size w w'))
 case atStart => exact ⟨(0), (0), rs_, rs_, H', ⟨Nat.le_refl _⟩, ⟨bk_⟩, ⟨hb_⟩⟩
 case round =>
  clear H'
  (try clear hcz3_0); (try clear hcz3_1); (try clear hfz3_0); (try clear hfz3_1)
  obtain ⟨x3_1, x9_1, rfl, rfl, HA, HK1, BK415, HB⟩ := hrel
  cases gk with
  | zero => exact absurd HA.out (by simp [stockyardlaw04_small.l0])
  | succ k1 =>
   have H := HA.out
   clear HA
   simp only [stockyardlaw04_small.l0] at H
   by_cases c4 : x9_1 < (l0_0.length : Int)
   ·rw [if_pos c4] at H
    have c4b0 := decide_eq_true c4
    clear c4
    by_cases c5 : 0 ≤ x9_1
    ·rw [if_pos c5] at H
     have c5b0 := decide_eq_true c5
     clear c5
     by_cases c6 : x9_1 < (l0_0.length : Int)
     ·rw [if_pos c6] at H
      have c6b0 := decide_eq_true c6
      clear c6
      have H' := Aside0.mk H
      clear H
      have p416 : 0 ≤ (x9_1 : Int) := of_decide_eq_true as_
      have q416 : x9_1 < (l0_0.length : Int) := of_decide_eq_true as_
      obtain ⟨ad416, e416, hx416_0⟩ := Kd.at_string HR0_0.out x9_1 p416 q416
      cases e416
      replace hx416_0 := (HB.out.cell (World.block_lt_of_cell? w _ hx416_0)).trans hx416_0
      replace p416 := eq_true p416
      replace q416 := eq_true q416
      go_wp2
      go_roundg k1
      case measure => have := HK1.out; omega
      case rel => exact ⟨(wrap64 (x3_1 + ((rdOf ByteArray.empty l0_0 x9_1).size : Int))), (wrap64 (x9_1 + 1)), rs_, rs_, H', ⟨by have := HK1.out; omega⟩, ⟨bk_⟩, ⟨hb_⟩⟩
     ·rw [if_neg c6] at H
      exact absurd H (by simp)
    ·rw [if_neg c5] at H
     exact absurd H (by simp)
   ·rw [if_neg c4] at H
    have c4b0 := decide_eq_false c4
    clear c4
    by_cases c7 : (l0_0.length : Int) ≤ 20
    ·rw [if_pos c7] at H
     have c7b0 := decide_eq_true c7
     have c7b1 : decide (l0_0.length ≤ 20) = true := decide_eq_true (by omega)
     clear c7
     obtain rfl := Option.some.inj H
     obtain ⟨hcz8_0, hcz8_1, hfz8_0, hfz8_1⟩ := c2_ BK415
     go_wp2
     go_ret
     exact ⟨rt_, hb_⟩
    ·rw [if_neg c7] at H
     have c7b0 := decide_eq_false c7
     have c7b1 : decide (l0_0.length ≤ 20) = false := decide_eq_false (by omega)
     clear c7
     obtain rfl := Option.some.inj H
     obtain ⟨hcz9_0, hcz9_1, hfz9_0, hfz9_1⟩ := c2_ BK415
     go_wp2
     go_ret
     exact ⟨rt_, hb_⟩

/-! ### stockyardlaw04_fit: function 21 -/
def stockyardlaw04_fit.f (k : Nat) (a0_0 : Bool) (l0_1 : List ByteArray) (a0_2 : Bool) (l0_3 : List ByteArray) (a0_4 : Bool) : Option (Bool) := (stockyardlaw04_small.f k l0_1 a0_2).bind fun t418 => (if t418 = true then ((stockyardlaw04_small.f k l0_3 a0_4).bind fun t419 => (some t419)) else (some false))
set_option maxHeartbeats 8000000 in
set_option maxRecDepth 100000 in
theorem stockyardlaw04_fit.calls (k : Nat) (a0_0 : Bool) (A0_1 : Option Addr) (c0_1 : Nat) (l0_1 : List ByteArray) (a0_2 : Bool) (A0_3 : Option Addr) (c0_3 : Nat) (l0_3 : List ByteArray) (a0_4 : Bool) (r : Bool) (w : World) (hr0_1 : Kd.C Kd.string w A0_1 l0_1.length l0_1) (hc0_1 : l0_1.length ≤ c0_1) (hr0_3 : Kd.C Kd.string w A0_3 l0_3.length l0_3) (hc0_3 : l0_3.length ≤ c0_3) (h : stockyardlaw04_fit.f k a0_0 l0_1 a0_2 l0_3 a0_4 = some r) :
  Calls Tryd.prog 21 #[.agg #[.bool a0_0, .slice A0_1 l0_1.length c0_1, .bool a0_2, .slice A0_3 l0_3.length c0_3, .bool a0_4]] w fun e w' => e = .returned (.bool r) ∧ Below w.heap.size w w' := by
 have hu39 := Tryd.underlying39
 have hu24 := Tryd.underlying24
 have HR0_1 := Aside0.mk hr0_1
 have HC0_1 := Aside0.mk hc0_1
 clear hr0_1 hc0_1
 have HR0_3 := Aside0.mk hr0_3
 have HC0_3 := Aside0.mk hc0_3
 clear hr0_3 hc0_3
 have HB := Aside0.mk (Below.refl w.heap.size w)
 have H : ((stockyardlaw04_small.f k l0_1 a0_2).bind fun t418 => (if t418 = true then ((stockyardlaw04_small.f k l0_3 a0_4).bind fun t419 => (some t419)) else (some false))) = some r := h
 clear h
 replace H := Option.bind_eq_some_iff.mp H
 obtain ⟨t418, A20, H⟩ := H
 replace H : (if t418 = true then ((stockyardlaw04_small.f k l0_3 a0_4).bind fun t419 => (some t419)) else (some false)) = some r := H
 have A2 := Aside0.mk A20
 clear A20
 by_cases c3 : t418 = true
 subst c3
 replace H := ip_ H
 replace H := Option.bind_eq_some_iff.mp H
 obtain ⟨t419, A40, H⟩ := H
 replace H : (some t419) = some r := H
 have A4 := Aside0.mk A40
 clear A40
 obtain rfl := Option.some.inj H
 go_enter Tryd.func21, Tryd.ntmps21
 rotate_left
 replace c3 := Bool.eq_false_iff.mpr c3
 subst c3
 replace H := in_ H
 obtain rfl := Option.some.inj H
 go_enter Tryd.func21, Tryd.ntmps21
 rotate_left
 all_goals go_wp2_with (first | ((with_reducible refine gate_dst (N := 1) rfl ?_); refine box_event ?hg (N := 1) ?hd (cs := #[.bool a0_0, .slice A0_1 l0_1.length c0_1, .bool a0_2, .slice A0_3 l0_3.length c0_3, .bool a0_4]) (t := 39) ?hr ?_; (case hd => rfl); (case hg => rfl); (case hr => first | (go_simp; done) | (go_simp; rfl)); intro gb417 hg w5 hbox hb; have BK417 := Aside0.mk hbox; have GW417 := gw_ HB hg; have GE417 := gw_ HB hg; replace HB := hs_ HB hb; clear hb hbox hg; obtain ⟨hcz6_0, hcz6_1, hcz6_2, hcz6_3, hcz6_4, hfz6_0, hfz6_1, hfz6_2, hfz6_3, hfz6_4⟩ := c5_ BK417) | ((with_reducible refine gate_callee (f := 26) rfl ?_); refine goesL_ (some 5) rfl rfl Tryd.func26 (by kernel_rfl) rfl #[.agg #[.slice A0_1 l0_1.length c0_1, .bool a0_2]] rfl gl_ ?_; (with_reducible refine (stockyardlaw04_small.calls k _ _ l0_1 a0_2 true _ ?side1 ?side2 A2.out).mono ?_); (case side1 => exact sd_); (case side2 => exact HC0_1.out); rintro e w7 ⟨rfl, hb⟩; refine ⟨_, rfl, ?_⟩; replace BK417 := bb_ BK417 hb; replace HB := hs_ HB hb; (try clear hb); obtain ⟨hcz8_0, hcz8_1, hcz8_2, hcz8_3, hcz8_4, hfz8_0, hfz8_1, hfz8_2, hfz8_3, hfz8_4⟩ := c5_ BK417) | (go_at_call 26; (with_reducible refine (stockyardlaw04_small.calls k _ _ l0_3 a0_4 t419 _ ?side1 ?side2 A4.out).mono ?_); (case side1 => exact sd_); (case side2 => exact HC0_3.out); rintro e w9 ⟨rfl, hb⟩; replace BK417 := bb_ BK417 hb; replace HB := hs_ HB hb; (try clear hb)) | ((with_reducible refine gate_callee (f := 26) rfl ?_); refine goesL_ (some 5) rfl rfl Tryd.func26 (by kernel_rfl) rfl #[.agg #[.slice A0_1 l0_1.length c0_1, .bool a0_2]] rfl gl_ ?_; (with_reducible refine (stockyardlaw04_small.calls k _ _ l0_1 a0_2 false _ ?side1 ?side2 A2.out).mono ?_); (case side1 => exact sd_); (case side2 => exact HC0_1.out); rintro e w12 ⟨rfl, hb⟩; refine ⟨_, rfl, ?_⟩; replace BK417 := bb_ BK417 hb; replace HB := hs_ HB hb; (try clear hb)))
 ·go_ret
  exact ⟨rt_, hb_⟩
 ·go_ret
  exact ⟨rt_, hb_⟩

/-! ### rule_Check: function 45 -/
def rule_Check.f (k : Nat) (a0_0 : Bool) (l0_1 : List ByteArray) (a0_2 : Bool) (l0_3 : List ByteArray) (a0_4 : Bool) : Option (Int) := (pattern_Check.f k l0_1 a0_2).bind fun t421 => (if t421 = 0 then ((pattern_Check.f k l0_3 a0_4).bind fun t422 => (if t422 = 0 then ((pattern_Kinds.f k l0_1 a0_2).bind fun bt423 => ((pattern_Kinds.f k l0_3 a0_4).bind fun bt426 => (if bt423.1 = bt426.1 then (if (bt423.2.1 != bt426.2.1) = true then (some 42) else (some 0)) else (some 42)))) else (some 41))) else (some 40))
set_option maxHeartbeats 8000000 in
set_option maxRecDepth 100000 in
theorem rule_Check.calls (k : Nat) (a0_0 : Bool) (A0_1 : Option Addr) (c0_1 : Nat) (l0_1 : List ByteArray) (a0_2 : Bool) (A0_3 : Option Addr) (c0_3 : Nat) (l0_3 : List ByteArray) (a0_4 : Bool) (r : Int) (w : World) (hr0_1 : Kd.C Kd.string w A0_1 l0_1.length l0_1) (hc0_1 : l0_1.length ≤ c0_1) (hr0_3 : Kd.C Kd.string w A0_3 l0_3.length l0_3) (hc0_3 : l0_3.length ≤ c0_3) (h : rule_Check.f k a0_0 l0_1 a0_2 l0_3 a0_4 = some r) :
  Calls Tryd.prog 45 #[.agg #[.bool a0_0, .slice A0_1 l0_1.length c0_1, .bool a0_2, .slice A0_3 l0_3.length c0_3, .bool a0_4]] w fun e w' => e = .returned (.int .i64 r) ∧ Below w.heap.size w w' := by
 have hu39 := Tryd.underlying39
 have hu24 := Tryd.underlying24
 have HR0_1 := Aside0.mk hr0_1
 have HC0_1 := Aside0.mk hc0_1
 clear hr0_1 hc0_1
 have HR0_3 := Aside0.mk hr0_3
 have HC0_3 := Aside0.mk hc0_3
 clear hr0_3 hc0_3
 have HB := Aside0.mk (Below.refl w.heap.size w)
 have H : ((pattern_Check.f k l0_1 a0_2).bind fun t421 => (if t421 = 0 then ((pattern_Check.f k l0_3 a0_4).bind fun t422 => (if t422 = 0 then ((pattern_Kinds.f k l0_1 a0_2).bind fun bt423 => ((pattern_Kinds.f k l0_3 a0_4).bind fun bt426 => (if bt423.1 = bt426.1 then (if (bt423.2.1 != bt426.2.1) = true then (some 42) else (some 0)) else (some 42)))) else (some 41))) else (some 40))) = some r := h
 clear h
 replace H := Option.bind_eq_some_iff.mp H
 obtain ⟨t421, A20, H⟩ := H
 replace H : (if t421 = 0 then ((pattern_Check.f k l0_3 a0_4).bind fun t422 => (if t422 = 0 then ((pattern_Kinds.f k l0_1 a0_2).bind fun bt423 => ((pattern_Kinds.f k l0_3 a0_4).bind fun bt426 => (if bt423.1 = bt426.1 then (if (bt423.2.1 != bt426.2.1) = true then (some 42) else (some 0)) else (some 42)))) else (some 41))) else (some 40)) = some r := H
 have A2 := Aside0.mk A20
 clear A20
 by_cases c3 : t421 = 0
 rw [if_pos c3] at H
 have c3b0 := beq_iff_eq.mpr c3
 have c3b1 := bne_eq_false_iff_eq.mpr c3
 clear c3
 replace H := Option.bind_eq_some_iff.mp H
 obtain ⟨t422, A40, H⟩ := H
 replace H : (if t422 = 0 then ((pattern_Kinds.f k l0_1 a0_2).bind fun bt423 => ((pattern_Kinds.f k l0_3 a0_4).bind fun bt426 => (if bt423.1 = bt426.1 then (if (bt423.2.1 != bt426.2.1) = true then (some 42) else (some 0)) else (some 42)))) else (some 41)) = some r := H
 have A4 := Aside0.mk A40
 clear A40
 by_cases c5 : t422 = 0
 rw [if_pos c5] at H
 have c5b0 := beq_iff_eq.mpr c5
 have c5b1 := bne_eq_false_iff_eq.mpr c5
 clear c5
 replace H := Option.bind_eq_some_iff.mp H
 obtain ⟨⟨t423, t424, t425⟩, A60, H⟩ := H
 replace H : ((pattern_Kinds.f k l0_3 a0_4).bind fun bt426 => (if t423 = bt426.1 then (if (t424 != bt426.2.1) = true then (some 42) else (some 0)) else (some 42))) = some r := H
 have A6 := Aside0.mk A60
 clear A60
 replace H := Option.bind_eq_some_iff.mp H
 obtain ⟨⟨t426, t427, t428⟩, A70, H⟩ := H
 replace H : (if t423 = t426 then (if (t424 != t427) = true then (some 42) else (some 0)) else (some 42)) = some r := H
 have A7 := Aside0.mk A70
 clear A70
 by_cases c8 : t423 = t426
 rw [if_pos c8] at H
 have c8b0 := beq_iff_eq.mpr c8
 have c8b1 := bne_eq_false_iff_eq.mpr c8
 clear c8
 by_cases c9 : (t424 != t427) = true
 rw [if_pos c9] at H
 have c9b0 : (t424 != t427) = true := c9
 (try (have c9b1 : decide (t424 = t427) = false := by simpa using c9))
 (try (have c9b2 : (t424 == t427) = false := by simpa using c9))
 (try (have c9b3 : ¬ (t424 = t427) := by simpa using c9))
 clear c9
 obtain rfl := Option.some.inj H
 go_enter Tryd.func45, Tryd.ntmps45
 rotate_left
 rw [if_neg c9] at H
 have c9b0 : (t424 != t427) = false := by simpa using c9
 (try (have c9b1 : decide (t424 = t427) = true := by simpa using c9))
 (try (have c9b2 : (t424 == t427) = true := by simpa using c9))
 clear c9
 obtain rfl := Option.some.inj H
 go_enter Tryd.func45, Tryd.ntmps45
 rotate_left
 rw [if_neg c8] at H
 have c8b0 := beq_eq_false_iff_ne.mpr c8
 have c8b1 := bne_iff_ne.mpr c8
 obtain rfl := Option.some.inj H
 go_enter Tryd.func45, Tryd.ntmps45
 rotate_left
 rw [if_neg c5] at H
 have c5b0 := beq_eq_false_iff_ne.mpr c5
 have c5b1 := bne_iff_ne.mpr c5
 obtain rfl := Option.some.inj H
 go_enter Tryd.func45, Tryd.ntmps45
 rotate_left
 rw [if_neg c3] at H
 have c3b0 := beq_eq_false_iff_ne.mpr c3
 have c3b1 := bne_iff_ne.mpr c3
 obtain rfl := Option.some.inj H
 go_enter Tryd.func45, Tryd.ntmps45
 rotate_left
 all_goals go_wp2_with (first | ((with_reducible refine gate_dst (N := 1) rfl ?_); refine box_event ?hg (N := 1) ?hd (cs := #[.bool a0_0, .slice A0_1 l0_1.length c0_1, .bool a0_2, .slice A0_3 l0_3.length c0_3, .bool a0_4]) (t := 39) ?hr ?_; (case hd => rfl); (case hg => rfl); (case hr => first | (go_simp; done) | (go_simp; rfl)); intro gb420 hg w10 hbox hb; have BK420 := Aside0.mk hbox; have GW420 := gw_ HB hg; have GE420 := gw_ HB hg; replace HB := hs_ HB hb; clear hb hbox hg; obtain ⟨hcz11_0, hcz11_1, hcz11_2, hcz11_3, hcz11_4, hfz11_0, hfz11_1, hfz11_2, hfz11_3, hfz11_4⟩ := c5_ BK420) | ((with_reducible refine gate_callee (f := 48) rfl ?_); refine goesL_ (some 11) rfl rfl Tryd.func48 (by kernel_rfl) rfl #[.agg #[.slice A0_1 l0_1.length c0_1, .bool a0_2]] rfl gl_ ?_; (with_reducible refine (pattern_Check.calls k _ _ l0_1 a0_2 t421 _ ?side1 ?side2 A2.out).mono ?_); (case side1 => exact sd_); (case side2 => exact HC0_1.out); rintro e w12 ⟨rfl, hb⟩; refine ⟨_, rfl, ?_⟩; replace BK420 := bb_ BK420 hb; replace HB := hs_ HB hb; (try clear hb); obtain ⟨hcz13_0, hcz13_1, hcz13_2, hcz13_3, hcz13_4, hfz13_0, hfz13_1, hfz13_2, hfz13_3, hfz13_4⟩ := c5_ BK420) | ((with_reducible refine gate_callee (f := 48) rfl ?_); refine goesL_ (some 15) rfl rfl Tryd.func48 (by kernel_rfl) rfl #[.agg #[.slice A0_3 l0_3.length c0_3, .bool a0_4]] rfl gl_ ?_; (with_reducible refine (pattern_Check.calls k _ _ l0_3 a0_4 t422 _ ?side1 ?side2 A4.out).mono ?_); (case side1 => exact sd_); (case side2 => exact HC0_3.out); rintro e w14 ⟨rfl, hb⟩; refine ⟨_, rfl, ?_⟩; replace BK420 := bb_ BK420 hb; replace HB := hs_ HB hb; (try clear hb); obtain ⟨hcz15_0, hcz15_1, hcz15_2, hcz15_3, hcz15_4, hfz15_0, hfz15_1, hfz15_2, hfz15_3, hfz15_4⟩ := c5_ BK420) | ((with_reducible refine gate_callee (f := 37) rfl ?_); refine goesL_ (some 20) rfl rfl Tryd.func37 (by kernel_rfl) rfl #[.agg #[.slice A0_1 l0_1.length c0_1, .bool a0_2]] rfl gl_ ?_; (with_reducible refine (pattern_Kinds.calls k _ _ l0_1 a0_2 t423 t424 t425 _ ?side1 ?side2 A6.out).mono ?_); (case side1 => exact sd_); (case side2 => exact HC0_1.out); rintro e w16 ⟨rfl, hb⟩; refine ⟨_, rfl, ?_⟩; replace BK420 := bb_ BK420 hb; replace HB := hs_ HB hb; (try clear hb); obtain ⟨hcz17_0, hcz17_1, hcz17_2, hcz17_3, hcz17_4, hfz17_0, hfz17_1, hfz17_2, hfz17_3, hfz17_4⟩ := c5_ BK420) | ((with_reducible refine gate_callee (f := 37) rfl ?_); refine goesL_ (some 27) rfl rfl Tryd.func37 (by kernel_rfl) rfl #[.agg #[.slice A0_3 l0_3.length c0_3, .bool a0_4]] rfl gl_ ?_; (with_reducible refine (pattern_Kinds.calls k _ _ l0_3 a0_4 t426 t427 t428 _ ?side1 ?side2 A7.out).mono ?_); (case side1 => exact sd_); (case side2 => exact HC0_3.out); rintro e w18 ⟨rfl, hb⟩; refine ⟨_, rfl, ?_⟩; replace BK420 := bb_ BK420 hb; replace HB := hs_ HB hb; (try clear hb)))
 ·go_ret
  exact ⟨rt_, hb_⟩
 ·go_ret
  exact ⟨rt_, hb_⟩
 ·go_ret
  exact ⟨rt_, hb_⟩
 ·go_ret
  exact ⟨rt_, hb_⟩
 ·go_ret
  exact ⟨rt_, hb_⟩

/-! ### path_Join: function 70 -/
def path_Join.l0 : Nat → List ByteArray → List ByteArray → Int → Int → Option (ByteArray × Int)
  | 0, _, _, _, _ => none
  | k + 1, x0, x9, x10, x11 => if x11 < x10 then (if 0 ≤ x11 then (if x11 < (x9.length : Int) then ((path_Component.f k (rdOf ByteArray.empty x9 x11)).bind fun t430 => (if t430 = true then (path_Join.l0 k x0 x9 x10 (wrap64 (x11 + 1))) else (some ((⟨#[]⟩ : ByteArray), 21)))) else (none)) else (none)) else ((strings_Join.f x0 (⟨#[47]⟩ : ByteArray)).bind fun t431 => (if 2 + t431.size ≤ 9223372036854775807 then (some ((⟨#[47, 47]⟩ : ByteArray) ++ t431, 0)) else (none)))
def path_Join.f (k : Nat) (l0 : List ByteArray) : Option (ByteArray × Int) := if (l0.length : Int) < 2 then (some ((⟨#[]⟩ : ByteArray), 21)) else (path_Join.l0 k l0 l0 (l0.length : Int) 0)
set_option maxHeartbeats 8000000 in
set_option maxRecDepth 100000 in
theorem path_Join.calls (k : Nat) (A0 : Option Addr) (c0 : Nat) (l0 : List ByteArray) (r1 : ByteArray) (r2 : Int) (w : World) (hr0 : Kd.C Kd.string w A0 l0.length l0) (hc0 : l0.length ≤ c0) (h : path_Join.f k l0 = some (r1, r2)) :
  Calls Tryd.prog 70 #[.slice A0 l0.length c0] w fun e w' => e = .returned (.tuple #[.string r1, .int .i64 r2]) ∧ Below w.heap.size w w' := by
 have HR0 := Aside0.mk hr0
 have HC0 := Aside0.mk hc0
 clear hr0 hc0
 have HB := Aside0.mk (Below.refl w.heap.size w)
 have H : (if (l0.length : Int) < 2 then (some ((⟨#[]⟩ : ByteArray), 21)) else (path_Join.l0 k l0 l0 (l0.length : Int) 0)) = some (r1, r2) := h
 clear h
 by_cases c2 : (l0.length : Int) < 2
 ·rw [if_pos c2] at H
  have c2b0 := decide_eq_true c2
  have c2b1 : decide (l0.length < 2) = true := decide_eq_true (by omega)
  clear c2
  simp only [Option.some.injEq, Prod.mk.injEq] at H
  obtain ⟨rfl, rfl⟩ := H
  go_enter Tryd.func70, Tryd.ntmps70
  go_wp2
  go_ret2
  exact ⟨rt_, hb_⟩
 ·rw [if_neg c2] at H
  have c2b0 := decide_eq_false c2
  have c2b1 : decide (l0.length < 2) = false := decide_eq_false (by omega)
  clear c2
  have H' := Aside0.mk H
  clear H
  go_enter Tryd.func70, Tryd.ntmps70
  go_wp2
  go_loopg [11] k (fun kq v11 w' => ∃ (x11_1 : Int), v11 = .int .i64 x11_1 ∧ Aside0 (path_Join.l0 kq l0 l0 (l0.length : Int) x11_1 = some (r1, r2)) ∧ Aside0 (kq ≤ k) ∧ Aside0 (Below w.heap.size w w'))
  case atStart => exact ⟨(0), rs_, H', ⟨Nat.le_refl _⟩, ⟨hb_⟩⟩
  case round =>
   clear H'
   (try clear c2); (try clear c2b0); (try clear c2b1)
   obtain ⟨x11_1, rfl, HA, HK1, HB⟩ := hrel
   cases gk with
   | zero => exact absurd HA.out (by simp [path_Join.l0])
   | succ k1 =>
    have H := HA.out
    clear HA
    simp only [path_Join.l0] at H
    by_cases c3 : x11_1 < (l0.length : Int)
    ·rw [if_pos c3] at H
     have c3b0 := decide_eq_true c3
     clear c3
     by_cases c4 : 0 ≤ x11_1
     ·rw [if_pos c4] at H
      have c4b0 := decide_eq_true c4
      clear c4
      by_cases c5 : x11_1 < (l0.length : Int)
      ·rw [if_pos c5] at H
       have c5b0 := decide_eq_true c5
       clear c5
       replace H := Option.bind_eq_some_iff.mp H
       obtain ⟨t430, A60, H⟩ := H
       replace H : (if t430 = true then (path_Join.l0 k1 l0 l0 (l0.length : Int) (wrap64 (x11_1 + 1))) else (some ((⟨#[]⟩ : ByteArray), 21))) = some (r1, r2) := H
       have A6 := Aside0.mk A60
       clear A60
       by_cases c7 : t430 = true
       ·subst c7
        replace H := ip_ H
        have H' := Aside0.mk H
        clear H
        have p429 : 0 ≤ (x11_1 : Int) := of_decide_eq_true as_
        have q429 : x11_1 < (l0.length : Int) := of_decide_eq_true as_
        obtain ⟨ad429, e429, hx429_0⟩ := Kd.at_string HR0.out x11_1 p429 q429
        cases e429
        replace hx429_0 := (HB.out.cell (World.block_lt_of_cell? w _ hx429_0)).trans hx429_0
        replace p429 := eq_true p429
        replace q429 := eq_true q429
        go_wp2_with (first | ((with_reducible refine gate_callee (f := 65) rfl ?_); refine goesL_ (some 16) rfl rfl Tryd.func65 (by kernel_rfl) rfl #[.string (rdOf ByteArray.empty l0 x11_1)] rfl gl_ ?_; (with_reducible refine (path_Component.calls k1 (rdOf ByteArray.empty l0 x11_1) true _ A6.out).mono ?_); rintro e w' ⟨rfl, ⟨nd, rfl⟩⟩; refine ⟨_, rfl, ?_⟩))
        go_roundg k1
        case measure => have := HK1.out; omega
        case rel => exact ⟨(wrap64 (x11_1 + 1)), rs_, H', ⟨by have := HK1.out; omega⟩, ⟨hb_⟩⟩
       ·replace c7 := Bool.eq_false_iff.mpr c7
        subst c7
        replace H := in_ H
        simp only [Option.some.injEq, Prod.mk.injEq] at H
        obtain ⟨rfl, rfl⟩ := H
        have p429 : 0 ≤ (x11_1 : Int) := of_decide_eq_true as_
        have q429 : x11_1 < (l0.length : Int) := of_decide_eq_true as_
        obtain ⟨ad429, e429, hx429_0⟩ := Kd.at_string HR0.out x11_1 p429 q429
        cases e429
        replace hx429_0 := (HB.out.cell (World.block_lt_of_cell? w _ hx429_0)).trans hx429_0
        replace p429 := eq_true p429
        replace q429 := eq_true q429
        go_wp2_with (first | ((with_reducible refine gate_callee (f := 65) rfl ?_); refine goesL_ (some 16) rfl rfl Tryd.func65 (by kernel_rfl) rfl #[.string (rdOf ByteArray.empty l0 x11_1)] rfl gl_ ?_; (with_reducible refine (path_Component.calls k1 (rdOf ByteArray.empty l0 x11_1) false _ A6.out).mono ?_); rintro e w' ⟨rfl, ⟨nd, rfl⟩⟩; refine ⟨_, rfl, ?_⟩))
        go_ret2
        exact ⟨rt_, hb_⟩
      ·rw [if_neg c5] at H
       exact absurd H (by simp)
     ·rw [if_neg c4] at H
      exact absurd H (by simp)
    ·rw [if_neg c3] at H
     have c3b0 := decide_eq_false c3
     clear c3
     replace H := Option.bind_eq_some_iff.mp H
     obtain ⟨t431, A80, H⟩ := H
     replace H : (if 2 + t431.size ≤ 9223372036854775807 then (some ((⟨#[47, 47]⟩ : ByteArray) ++ t431, 0)) else (none)) = some (r1, r2) := H
     have A8 := Aside0.mk A80
     clear A80
     by_cases c9 : 2 + t431.size ≤ 9223372036854775807
     ·rw [if_pos c9] at H
      have c9b0 := eq_true c9
      have c9b1 := decide_eq_true c9
      try have c9b2 : (9223372036854775807 < 2 + t431.size) = False := eq_false (Nat.not_lt.2 c9)
      simp only [Option.some.injEq, Prod.mk.injEq] at H
      obtain ⟨rfl, rfl⟩ := H
      go_wp2_with (first | ((with_reducible refine gate_callee (f := 64) rfl ?_); refine goesL_ (some 20) rfl rfl Tryd.func64 (by kernel_rfl) rfl #[.slice A0 l0.length c0, .string (⟨#[47]⟩ : ByteArray)] rfl gl_ ?_; (with_reducible refine (strings_Join.calls _ _ l0 (⟨#[47]⟩ : ByteArray) t431 _ ?side1 ?side2 A8.out).mono ?_); (case side1 => exact sd_); (case side2 => exact HC0.out); rintro e w10 ⟨rfl, hb⟩; refine ⟨_, rfl, ?_⟩; replace HB := hs_ HB hb; (try clear hb)))
      go_ret2
      exact ⟨rt_, hb_⟩
     ·rw [if_neg c9] at H
      exact absurd H (by simp)

/-! ### pattern_Fill: function 47 -/
mutual
def pattern_Fill.j0 : Nat → List ByteArray → Bool → Int → List ByteArray → Bool → Option (ByteArray × Int)
  | 0, _, _, _, _, _ => none
  | k + 1, x1, x7, x9, x433000, x433001 => if (x1.length : Int) = x9 then (if 0 ≤ (x433000.length : Int) then (if ((x433000.length : Int) : Int).toNat ≤ 17592186044416 then (pattern_Fill.l0 k x1 x7 (List.replicate 0 (⟨#[]⟩ : ByteArray)) x433000 (x433000.length : Int) 0) else (none)) else (none)) else (some ((⟨#[]⟩ : ByteArray), 32))
def pattern_Fill.l0 : Nat → List ByteArray → Bool → List ByteArray → List ByteArray → Int → Int → Option (ByteArray × Int)
  | 0, _, _, _, _, _, _ => none
  | k + 1, x1, x7, x10, x38, x39, x40 => if x40 < x39 then (if 0 ≤ x40 then (if x40 < (x38.length : Int) then ((pattern_formOf.f k (rdOf ByteArray.empty x38 x40)).bind fun bt440 => (if bt440.1 = 2 then (if 0 < (x1.length : Int) then ((path_Component.f k (rdOf ByteArray.empty x1 0)).bind fun t443 => (if t443 = true then (if (rdOf ByteArray.empty x1 0).size + bt440.2.size ≤ 9223372036854775807 then (if 1 ≤ (x1.length : Int) then (if x10.length < 8796093022208 then (pattern_Fill.l0 k (x1.drop 1) x7 (x10 ++ [(rdOf ByteArray.empty x1 0) ++ bt440.2]) x38 x39 (wrap64 (x40 + 1))) else (none)) else (none)) else (none)) else (some ((⟨#[]⟩ : ByteArray), 32)))) else (none)) else (if x10.length < 8796093022208 then (pattern_Fill.l0 k x1 x7 (x10 ++ [rdOf ByteArray.empty x38 x40]) x38 x39 (wrap64 (x40 + 1))) else (none)))) else (none)) else (none)) else (if x7 = true then (if 0 < (x1.length : Int) then ((strings_Split.f (rdOf ByteArray.empty x1 0) (⟨#[47]⟩ : ByteArray)).bind fun t457 => (if x10.length + t457.length < 8796093022208 then ((path_Join.f k (x10 ++ t457)).bind fun bt463 => (if bt463.2 = 0 then (some (bt463.1, 0)) else (some ((⟨#[]⟩ : ByteArray), 32)))) else (none))) else (none)) else ((path_Join.f k x10).bind fun bt465 => (if bt465.2 = 0 then (some (bt465.1, 0)) else (some ((⟨#[]⟩ : ByteArray), 32)))))
end
def pattern_Fill.f (k : Nat) (l0_0 : List ByteArray) (a0_1 : Bool) (l1 : List ByteArray) : Option (ByteArray × Int) := (pattern_Kinds.f k l0_0 a0_1).bind fun bt433 => (if bt433.2.2 = 0 then (if bt433.2.1 = true then (pattern_Fill.j0 k l1 bt433.2.1 (wrap64 (bt433.1 + 1)) l0_0 a0_1) else (pattern_Fill.j0 k l1 bt433.2.1 bt433.1 l0_0 a0_1)) else (some ((⟨#[]⟩ : ByteArray), bt433.2.2)))
set_option maxHeartbeats 8000000 in
set_option maxRecDepth 100000 in
theorem pattern_Fill.calls (k : Nat) (A0_0 : Option Addr) (c0_0 : Nat) (l0_0 : List ByteArray) (a0_1 : Bool) (P1_ : Nat → Prop) (A1 : Option Addr) (c1 : Nat) (l1 : List ByteArray) (r1 : ByteArray) (r2 : Int) (w : World) (hr0_0 : Kd.C Kd.string w A0_0 l0_0.length l0_0) (hc0_0 : l0_0.length ≤ c0_0) (hs1 : Kd.V Kd.string 9 w w.heap.size (fun k_ => P1_ k_) (.slice A1 l1.length c1) l1) (h : pattern_Fill.f k l0_0 a0_1 l1 = some (r1, r2)) :
  Calls Tryd.prog 47 #[.agg #[.slice A0_0 l0_0.length c0_0, .bool a0_1], .slice A1 l1.length c1] w fun e w' => e = .returned (.tuple #[.string r1, .int .i64 r2]) ∧ Below w.heap.size w w' := by
 have hu24 := Tryd.underlying24
 have HR0_0 := Aside0.mk hr0_0
 have HC0_0 := Aside0.mk hc0_0
 clear hr0_0 hc0_0
 have HO1 := Aside0.mk (show Kd.V Kd.string 9 w w.heap.size (fun k_ => (P1_ k_ ∨ w.heap.size ≤ k_)) (.slice A1 l1.length c1) l1 from Kd.V_mono hs1 (fun k_ hk => .inl hk))
 have HB := Aside0.mk (Below.refl w.heap.size w)
 have H : ((pattern_Kinds.f k l0_0 a0_1).bind fun bt433 => (if bt433.2.2 = 0 then (if bt433.2.1 = true then (pattern_Fill.j0 k l1 bt433.2.1 (wrap64 (bt433.1 + 1)) l0_0 a0_1) else (pattern_Fill.j0 k l1 bt433.2.1 bt433.1 l0_0 a0_1)) else (some ((⟨#[]⟩ : ByteArray), bt433.2.2)))) = some (r1, r2) := h
 clear h
 replace H := Option.bind_eq_some_iff.mp H
 obtain ⟨⟨t433, t434, t435⟩, A30, H⟩ := H
 replace H : (if t435 = 0 then (if t434 = true then (pattern_Fill.j0 k l1 t434 (wrap64 (t433 + 1)) l0_0 a0_1) else (pattern_Fill.j0 k l1 t434 t433 l0_0 a0_1)) else (some ((⟨#[]⟩ : ByteArray), t435))) = some (r1, r2) := H
 have A3 := Aside0.mk A30
 clear A30
 by_cases c4 : t435 = 0
 ·rw [if_pos c4] at H
  have c4b0 := beq_iff_eq.mpr c4
  have c4b1 := bne_eq_false_iff_eq.mpr c4
  clear c4
  have HC5 := Aside0.mk H
  clear H
  go_enter Tryd.func47, Tryd.ntmps47
  go_upto_if 26 with (first | ((with_reducible refine gate_dst (N := 2) rfl ?_); refine box_event ?hg (N := 2) ?hd (cs := #[.slice A0_0 l0_0.length c0_0, .bool a0_1]) (t := 24) ?hr ?_; (case hd => rfl); (case hg => rfl); (case hr => first | (go_simp; done) | (go_simp; rfl)); intro gb432 hg w6 hbox hb; have n0_ := Aside0.mk (Kd.V_below (Kd.V_elderB (by (with_reducible repeat (first | apply Kd.V_alloc | apply Kd.V_drewN | apply Kd.V_drew)); exact HO1.out) gb432 (Nat.le_of_eq hg.symm)) hb); have BK432 := Aside0.mk hbox; have GW432 := gw_ HB hg; have GE432 := gw_ HB hg; replace HB := hs_ HB hb; clear HO1; have HO1 := n0_; clear n0_; clear hb hbox hg; obtain ⟨hcz7_0, hcz7_1, hfz7_0, hfz7_1⟩ := c2_ BK432) | (go_at_call 37; (with_reducible refine (pattern_Kinds.calls k _ _ l0_0 a0_1 t433 t434 t435 _ ?side1 ?side2 A3.out).mono ?_); (case side1 => exact sd_); (case side2 => exact HC0_0.out); rintro e w8 ⟨rfl, hb⟩; have n0_ := Aside0.mk (Kd.V_below (by (with_reducible repeat (first | apply Kd.V_alloc | apply Kd.V_drewN | apply Kd.V_drew)); exact HO1.out) hb); replace BK432 := bb_ BK432 hb; replace HB := hs_ HB hb; clear HO1; have HO1 := n0_; clear n0_; (try clear hb)))
  repeat (go_quiet (first | ((with_reducible refine gate_dst (N := 2) rfl ?_); refine box_event ?hg (N := 2) ?hd (cs := #[.slice A0_0 l0_0.length c0_0, .bool a0_1]) (t := 24) ?hr ?_; (case hd => rfl); (case hg => rfl); (case hr => first | (go_simp; done) | (go_simp; rfl)); intro gb432 hg w6 hbox hb; have n0_ := Aside0.mk (Kd.V_below (Kd.V_elderB (by (with_reducible repeat (first | apply Kd.V_alloc | apply Kd.V_drewN | apply Kd.V_drew)); exact HO1.out) gb432 (Nat.le_of_eq hg.symm)) hb); have BK432 := Aside0.mk hbox; have GW432 := gw_ HB hg; have GE432 := gw_ HB hg; replace HB := hs_ HB hb; clear HO1; have HO1 := n0_; clear n0_; clear hb hbox hg; obtain ⟨hcz7_0, hcz7_1, hfz7_0, hfz7_1⟩ := c2_ BK432) | (go_at_call 37; (with_reducible refine (pattern_Kinds.calls k _ _ l0_0 a0_1 t433 t434 t435 _ ?side1 ?side2 A3.out).mono ?_); (case side1 => exact sd_); (case side2 => exact HC0_0.out); rintro e w8 ⟨rfl, hb⟩; have n0_ := Aside0.mk (Kd.V_below (by (with_reducible repeat (first | apply Kd.V_alloc | apply Kd.V_drewN | apply Kd.V_drew)); exact HO1.out) hb); replace BK432 := bb_ BK432 hb; replace HB := hs_ HB hb; clear HO1; have HO1 := n0_; clear n0_; (try clear hb))); go_upto_if 26 with (first | ((with_reducible refine gate_dst (N := 2) rfl ?_); refine box_event ?hg (N := 2) ?hd (cs := #[.slice A0_0 l0_0.length c0_0, .bool a0_1]) (t := 24) ?hr ?_; (case hd => rfl); (case hg => rfl); (case hr => first | (go_simp; done) | (go_simp; rfl)); intro gb432 hg w6 hbox hb; have n0_ := Aside0.mk (Kd.V_below (Kd.V_elderB (by (with_reducible repeat (first | apply Kd.V_alloc | apply Kd.V_drewN | apply Kd.V_drew)); exact HO1.out) gb432 (Nat.le_of_eq hg.symm)) hb); have n1_ := Aside0.mk (below_step hb_ hb); have n2_ := Aside0.mk (hbox); have n3_ := Aside0.mk ((by rw [hg]; exact (below_size hb_) : w.heap.size ≤ gb432)); have n4_ := Aside0.mk ((by rw [hg]; exact (below_size hb_) : w.heap.size ≤ gb432)); clear HO1; clear HB; have HO1 := n0_; have HB := n1_; have BK432 := n2_; have GW432 := n3_; have GE432 := n4_; clear n0_ n1_ n2_ n3_ n4_; clear hb hbox hg; have hcz7_0 : w6.cell? ⟨gb432, 0, none⟩ = some (.slice A0_0 l0_0.length c0_0) := (blk_cell BK432.out 0).trans rfl; have hcz7_1 : w6.cell? ⟨gb432, 1, none⟩ = some (.bool a0_1) := (blk_cell BK432.out 1).trans rfl; have hfz7_0 := blk_frozen BK432.out 0; have hfz7_1 := blk_frozen BK432.out 1) | (go_at_call 37; (with_reducible refine (pattern_Kinds.calls k _ _ l0_0 a0_1 t433 t434 t435 _ ?side1 ?side2 A3.out).mono ?_); (case side1 => exact sd_); (case side2 => exact HC0_0.out); rintro e w8 ⟨rfl, hb⟩; have n0_ := Aside0.mk (Kd.V_below (by (with_reducible repeat (first | apply Kd.V_alloc | apply Kd.V_drewN | apply Kd.V_drew)); exact HO1.out) hb); have n1_ := Aside0.mk (blk_below (g := gb432) (o := .cells #[.slice A0_0 l0_0.length c0_0, .bool a0_1] 24 (0, 0)) bk_ hb); have n2_ := Aside0.mk (below_step hb_ hb); clear HO1; clear BK432; clear HB; have HO1 := n0_; have BK432 := n1_; have HB := n2_; clear n0_ n1_ n2_; (try clear hb); (try clear hb2); (try clear hk); (try clear hi))))
  (try simp only [Act.put, List.setIfInBounds_toArray, List.set_cons_zero, List.set_cons_succ])
  go_cut [9] (fun v9 wc => ∃ (kq : Nat) (x9_4 : Int), v9 = .int .i64 x9_4 ∧ Aside0 (pattern_Fill.j0 kq l1 t434 x9_4 l0_0 a0_1 = some (r1, r2)) ∧ Aside0 (kq ≤ k) ∧ Aside0 (Kd.V Kd.string 9 wc w.heap.size (fun k_ => (P1_ k_ ∨ w.heap.size ≤ k_) ∧ k_ ≠ gb432) (.slice A1 l1.length c1) l1) ∧ Aside0 (wc.heap[gb432]? = some (.cells #[(.slice A0_0 l0_0.length c0_0), .bool a0_1] 24 (0, 0))) ∧ Aside0 (Below w.heap.size w wc))
  case first =>
   have H := HC5.out
   clear HC5
   by_cases c9 : t434 = true
   ·subst c9
    replace H := ip_ H
    have H' := Aside0.mk H
    clear H
    go_wp2
    repeat (go_quiet (fail); try go_wp2)
    go_meet
    case rel => exact ⟨_, (wrap64 (t433 + 1)), rs_, H', ⟨om_⟩, ⟨by (with_reducible repeat (first | apply Kd.V_alloc | apply Kd.V_drewN | apply Kd.V_drew)); exact HO1.out⟩, ⟨bk_⟩, ⟨hb_⟩⟩
   ·replace c9 := Bool.eq_false_iff.mpr c9
    subst c9
    replace H := in_ H
    have H' := Aside0.mk H
    clear H
    go_wp2
    repeat (go_quiet (fail); try go_wp2)
    go_meet
    case rel => exact ⟨_, (t433), rs_, H', ⟨om_⟩, ⟨by (with_reducible repeat (first | apply Kd.V_alloc | apply Kd.V_drewN | apply Kd.V_drew)); exact HO1.out⟩, ⟨bk_⟩, ⟨hb_⟩⟩
  case rest =>
   clear HC5; (try clear c1); (try clear c4); (try clear c4b0); (try clear c4b1); (try clear hcz7_0); (try clear hcz7_1); (try clear hfz7_0); (try clear hfz7_1)
   obtain ⟨kq, x9_4, rfl, HA, HJ4, HO_1, BK432, HB⟩ := hcut
   cases kq with
   | zero => exact absurd HA.out (by simp [pattern_Fill.j0])
   | succ kj4 =>
    have H := HA.out
    clear HA
    simp only [pattern_Fill.j0] at H
    by_cases c10 : (l1.length : Int) = x9_4
    ·rw [if_pos c10] at H
     have c10b0 := beq_iff_eq.mpr c10
     have c10b1 := bne_eq_false_iff_eq.mpr c10
     clear c10
     by_cases c11 : 0 ≤ (l0_0.length : Int)
     ·rw [if_pos c11] at H
      have c11b0 := eq_true c11
      have c11b1 := decide_eq_true c11
      clear c11
      by_cases c12 : ((l0_0.length : Int) : Int).toNat ≤ 17592186044416
      ·rw [if_pos c12] at H
       have c12b0 := eq_true c12
       have c12b1 := decide_eq_true c12
       clear c12
       obtain ⟨y436, hy436⟩ : ∃ y_ : List ByteArray, y_ = (List.replicate 0 (⟨#[]⟩ : ByteArray)) := ⟨_, rfl⟩
       replace H : (pattern_Fill.l0 kj4 l1 t434 y436 l0_0 (l0_0.length : Int) 0) = some (r1, r2) := by first | (rw [hy436]; with_reducible exact H) | (have H2_ := (Option.bind_some _ _).symm.trans H; rw [hy436]; with_reducible exact H2_) | (have H2_ := (Option.bind_some _ _).symm.trans H; with_reducible exact H2_) | with_reducible exact H | (rw [hy436]; exact H) | exact H
       have Ny436 := Aside0.mk hy436
       clear hy436
       have H' := Aside0.mk H
       clear H
       obtain ⟨hcz13_0, hcz13_1, hfz13_0, hfz13_1⟩ := c2_ BK432
       go_wp2_with (first | ((with_reducible refine gate_dst (N := 36) rfl ?_); refine R_make_cap Kd.string _ 9 rfl (N := 36) rfl 22 _ _ rfl (l0_0.length : Int) rfl rfl Tryd.underlying22 (.string ⟨#[]⟩) 16 info9 rfl (by decide) (by omega) (⟨#[]⟩ : ByteArray) (ok := fun _ => True) (okp := fun _ => True) (fun _ hk => hk) trivial (of_decide_eq_true as_) (Nat.le_trans (Nat.mul_le_mul_right _ (of_decide_eq_true as_ : ((l0_0.length : Int) : Int).toNat ≤ 17592186044416)) (by omega)) (Below.refl _ _) (Nat.le_refl _) ?_; intro v437 w14 ho15 hb hg_ hnew_; clear hg_ hnew_; (first | rw [← Ny436.out] at ho15 | (simp only [Int.reduceToNat] at ho15; rw [← Ny436.out] at ho15)); have n0_ := Aside0.mk (Kd.V_elder' (by (with_reducible repeat (first | apply Kd.V_alloc | apply Kd.V_drewN | apply Kd.V_drew)); exact HO_1.out) (Kd.R_base ho15) hb); have n1_ := Aside0.mk (Kd.R_lower (Kd.R_newM (M := fun k_ => (w.heap.size ≤ k_)) ho15 (below_size hb_) (fun k_ h_ => h_)) (below_size hb_)); replace BK432 := bb_ BK432 hb; replace HB := hs_ HB hb; clear HO_1; have HO_1 := n0_; have HO438 := n1_; clear n0_ n1_; clear hb ho15; obtain ⟨hcz16_0, hcz16_1, hfz16_0, hfz16_1⟩ := c2_ BK432))
       repeat (go_quiet (first | ((with_reducible refine gate_dst (N := 36) rfl ?_); refine R_make_cap Kd.string _ 9 rfl (N := 36) rfl 22 _ _ rfl (l0_0.length : Int) rfl rfl Tryd.underlying22 (.string ⟨#[]⟩) 16 info9 rfl (by decide) (by omega) (⟨#[]⟩ : ByteArray) (ok := fun _ => True) (okp := fun _ => True) (fun _ hk => hk) trivial (of_decide_eq_true as_) (Nat.le_trans (Nat.mul_le_mul_right _ (of_decide_eq_true as_ : ((l0_0.length : Int) : Int).toNat ≤ 17592186044416)) (by omega)) (Below.refl _ _) (Nat.le_refl _) ?_; intro v437 w14 ho15 hb hg_ hnew_; clear hg_ hnew_; (first | rw [← Ny436.out] at ho15 | (simp only [Int.reduceToNat] at ho15; rw [← Ny436.out] at ho15)); have n0_ := Aside0.mk (Kd.V_elder' (by (with_reducible repeat (first | apply Kd.V_alloc | apply Kd.V_drewN | apply Kd.V_drew)); exact HO_1.out) (Kd.R_base ho15) hb); have n1_ := Aside0.mk (Kd.R_lower (Kd.R_newM (M := fun k_ => (w.heap.size ≤ k_)) ho15 (below_size hb_) (fun k_ h_ => h_)) (below_size hb_)); replace BK432 := bb_ BK432 hb; replace HB := hs_ HB hb; clear HO_1; have HO_1 := n0_; have HO438 := n1_; clear n0_ n1_; clear hb ho15; obtain ⟨hcz16_0, hcz16_1, hfz16_0, hfz16_1⟩ := c2_ BK432)); try go_wp2_with (first | ((with_reducible refine gate_dst (N := 36) rfl ?_); refine R_make_cap Kd.string _ 9 rfl (N := 36) rfl 22 _ _ rfl (l0_0.length : Int) rfl rfl Tryd.underlying22 (.string ⟨#[]⟩) 16 info9 rfl (by decide) (by omega) (⟨#[]⟩ : ByteArray) (ok := fun _ => True) (okp := fun _ => True) (fun _ hk => hk) trivial (of_decide_eq_true as_) (Nat.le_trans (Nat.mul_le_mul_right _ (of_decide_eq_true as_ : ((l0_0.length : Int) : Int).toNat ≤ 17592186044416)) (by omega)) (Below.refl _ _) (Nat.le_refl _) ?_; intro v437 w14 ho15 hb hg_ hnew_; clear hg_ hnew_; (first | rw [← Ny436.out] at ho15 | (simp only [Int.reduceToNat] at ho15; rw [← Ny436.out] at ho15)); have n0_ := Aside0.mk (Kd.V_elder' (by (with_reducible repeat (first | apply Kd.V_alloc | apply Kd.V_drewN | apply Kd.V_drew)); exact HO_1.out) (Kd.R_base ho15) hb); have n1_ := Aside0.mk (Kd.R_lower (Kd.R_newM (M := fun k_ => (w.heap.size ≤ k_)) ho15 (below_size hb_) (fun k_ h_ => h_)) (below_size hb_)); replace BK432 := bb_ BK432 hb; replace HB := hs_ HB hb; clear HO_1; have HO_1 := n0_; have HO438 := n1_; clear n0_ n1_; clear hb ho15; obtain ⟨hcz16_0, hcz16_1, hfz16_0, hfz16_1⟩ := c2_ BK432)))
       go_loopg [1, 10, 40] kj4 (fun kq v1 v10 v40 w' => ∃ (x1_2 : List ByteArray) (x10_2 : List ByteArray) (x40_2 : Int), v40 = .int .i64 x40_2 ∧ Aside0 (pattern_Fill.l0 kq x1_2 t434 x10_2 l0_0 (l0_0.length : Int) x40_2 = some (r1, r2)) ∧ Aside0 (kq ≤ kj4) ∧ Aside0 (Kd.V Kd.string 9 w' w.heap.size (fun k_ => (P1_ k_ ∨ w.heap.size ≤ k_) ∧ some k_ ≠ (v10 : Value).ownBlock ∧ k_ ≠ gb432) v1 x1_2) ∧ Aside0 (Kd.R Kd.string 9 w' w.heap.size (fun k_ => (w.heap.size ≤ k_)) v10 x10_2) ∧ Aside0 (w'.heap[gb432]? = some (.cells #[(.slice A0_0 l0_0.length c0_0), .bool a0_1] 24 (0, 0))) ∧ Aside0 (Below w.heap.size w w'))
       case atStart => exact ⟨(l1), (y436), (0), rs_, H', ⟨Nat.le_refl _⟩, ⟨by (with_reducible repeat (first | apply Kd.V_alloc | apply Kd.V_drewN | apply Kd.V_drew)); exact Kd.V_mono HO_1.out (fun _ hk => ⟨hk.1.1, ⟨hk.2, hk.1.2⟩⟩)⟩, ⟨by (with_reducible repeat (first | apply Kd.R_alloc | apply Kd.R_drewN | apply Kd.R_drew)); exact Kd.R_mono HO438.out (fun _ hk => hk.1)⟩, ⟨bk_⟩, ⟨hb_⟩⟩
       case round =>
        clear H'
        (try clear c1); (try clear c4); (try clear c4b0); (try clear c4b1); (try clear c10); (try clear c10b0); (try clear c10b1); (try clear c11); (try clear c11b0); (try clear c11b1); (try clear c12); (try clear c12b0); (try clear c12b1); (try clear hcz13_0); (try clear hcz13_1); (try clear hcz16_0); (try clear hcz16_1); (try clear hcz7_0); (try clear hcz7_1); (try clear hfz13_0); (try clear hfz13_1); (try clear hfz16_0); (try clear hfz16_1); (try clear hfz7_0); (try clear hfz7_1)
        obtain ⟨x1_2, x10_2, x40_2, rfl, HA, HK2, HO_1, HO_10, BK432, HB⟩ := hrel
        cases gk with
        | zero => exact absurd HA.out (by simp [pattern_Fill.l0])
        | succ k2 =>
         have H := HA.out
         clear HA
         simp only [pattern_Fill.l0] at H
         by_cases c17 : x40_2 < (l0_0.length : Int)
         ·rw [if_pos c17] at H
          have c17b0 := decide_eq_true c17
          clear c17
          by_cases c18 : 0 ≤ x40_2
          ·rw [if_pos c18] at H
           have c18b0 := decide_eq_true c18
           clear c18
           by_cases c19 : x40_2 < (l0_0.length : Int)
           ·rw [if_pos c19] at H
            have c19b0 := decide_eq_true c19
            clear c19
            replace H := Option.bind_eq_some_iff.mp H
            obtain ⟨⟨t440, t441⟩, A200, H⟩ := H
            replace H : (if t440 = 2 then (if 0 < (x1_2.length : Int) then ((path_Component.f k2 (rdOf ByteArray.empty x1_2 0)).bind fun t443 => (if t443 = true then (if (rdOf ByteArray.empty x1_2 0).size + t441.size ≤ 9223372036854775807 then (if 1 ≤ (x1_2.length : Int) then (if x10_2.length < 8796093022208 then (pattern_Fill.l0 k2 (x1_2.drop 1) t434 (x10_2 ++ [(rdOf ByteArray.empty x1_2 0) ++ t441]) l0_0 (l0_0.length : Int) (wrap64 (x40_2 + 1))) else (none)) else (none)) else (none)) else (some ((⟨#[]⟩ : ByteArray), 32)))) else (none)) else (if x10_2.length < 8796093022208 then (pattern_Fill.l0 k2 x1_2 t434 (x10_2 ++ [rdOf ByteArray.empty l0_0 x40_2]) l0_0 (l0_0.length : Int) (wrap64 (x40_2 + 1))) else (none))) = some (r1, r2) := H
            have A20 := Aside0.mk A200
            clear A200
            by_cases c21 : t440 = 2
            ·rw [if_pos c21] at H
             have c21b0 := beq_iff_eq.mpr c21
             have c21b1 := bne_eq_false_iff_eq.mpr c21
             clear c21
             by_cases c22 : 0 < (x1_2.length : Int)
             ·rw [if_pos c22] at H
              have c22b0 := decide_eq_true c22
              have c22b1 : decide (0 < x1_2.length) = true := decide_eq_true (by omega)
              clear c22
              replace H := Option.bind_eq_some_iff.mp H
              obtain ⟨t443, A230, H⟩ := H
              replace H : (if t443 = true then (if (rdOf ByteArray.empty x1_2 0).size + t441.size ≤ 9223372036854775807 then (if 1 ≤ (x1_2.length : Int) then (if x10_2.length < 8796093022208 then (pattern_Fill.l0 k2 (x1_2.drop 1) t434 (x10_2 ++ [(rdOf ByteArray.empty x1_2 0) ++ t441]) l0_0 (l0_0.length : Int) (wrap64 (x40_2 + 1))) else (none)) else (none)) else (none)) else (some ((⟨#[]⟩ : ByteArray), 32))) = some (r1, r2) := H
              have A23 := Aside0.mk A230
              clear A230
              by_cases c24 : t443 = true
              ·subst c24
               replace H := ip_ H
               by_cases c25 : (rdOf ByteArray.empty x1_2 0).size + t441.size ≤ 9223372036854775807
               ·rw [if_pos c25] at H
                have c25b0 := eq_true c25
                have c25b1 := decide_eq_true c25
                try have c25b2 : (9223372036854775807 < (rdOf ByteArray.empty x1_2 0).size + t441.size) = False := eq_false (Nat.not_lt.2 c25)
                by_cases c26 : 1 ≤ (x1_2.length : Int)
                ·rw [if_pos c26] at H
                 have c26b0 := eq_true c26
                 have c26b1 := decide_eq_true c26
                 clear c26
                 obtain ⟨y445, hy445⟩ : ∃ y_ : List ByteArray, y_ = (x1_2.drop 1) := ⟨_, rfl⟩
                 replace H : (if x10_2.length < 8796093022208 then (pattern_Fill.l0 k2 y445 t434 (x10_2 ++ [(rdOf ByteArray.empty x1_2 0) ++ t441]) l0_0 (l0_0.length : Int) (wrap64 (x40_2 + 1))) else (none)) = some (r1, r2) := by first | (rw [hy445]; with_reducible exact H) | (have H2_ := (Option.bind_some _ _).symm.trans H; rw [hy445]; with_reducible exact H2_) | (have H2_ := (Option.bind_some _ _).symm.trans H; with_reducible exact H2_) | with_reducible exact H | (rw [hy445]; exact H) | exact H
                 have Ny445 := Aside0.mk hy445
                 clear hy445
                 by_cases c27 : x10_2.length < 8796093022208
                 ·rw [if_pos c27] at H
                  have LMc27 := Aside0.mk c27
                  clear c27
                  obtain ⟨y450, hy450⟩ : ∃ y_ : List ByteArray, y_ = (x10_2 ++ [(rdOf ByteArray.empty x1_2 0) ++ t441]) := ⟨_, rfl⟩
                  replace H : (pattern_Fill.l0 k2 y445 t434 y450 l0_0 (l0_0.length : Int) (wrap64 (x40_2 + 1))) = some (r1, r2) := by first | (rw [hy450]; with_reducible exact H) | (have H2_ := (Option.bind_some _ _).symm.trans H; rw [hy450]; with_reducible exact H2_) | (have H2_ := (Option.bind_some _ _).symm.trans H; with_reducible exact H2_) | with_reducible exact H | (rw [hy450]; exact H) | exact H
                  have Ny450 := Aside0.mk hy450
                  clear hy450
                  have H' := Aside0.mk H
                  clear H
                  have p439 : 0 ≤ (x40_2 : Int) := of_decide_eq_true as_
                  have q439 : x40_2 < (l0_0.length : Int) := of_decide_eq_true as_
                  obtain ⟨ad439, e439, hx439_0⟩ := Kd.at_string HR0_0.out x40_2 p439 q439
                  cases e439
                  replace hx439_0 := (HB.out.cell (World.block_lt_of_cell? w _ hx439_0)).trans hx439_0
                  replace p439 := eq_true p439
                  replace q439 := eq_true q439
                  go_wp2_with (first | (go_at_call 39; (with_reducible refine (pattern_formOf.calls k2 (rdOf ByteArray.empty l0_0 x40_2) t440 t441 _ A20.out).mono ?_); rintro e w' ⟨rfl, ⟨nd, rfl⟩⟩; (try first | exact ⟨rfl, _, World.drewN_drewN _ _ _⟩ | exact ⟨rfl, _, Eq.trans (World.drewN_drewN _ _ _) (congrArg (World.drewN _) (Nat.add_assoc _ _ _))⟩); obtain ⟨Ao28, co28, eo28⟩ := Kd.V_slice HO_1.out; subst eo28; have p442 : 0 ≤ (0 : Int) := (by omega); have q442 : 0 < (x1_2.length : Int) := of_decide_eq_true as_; obtain ⟨ad442, e442, hx442_0⟩ := Kd.at_string (Kd.V_reads' HO_1.out).2.2 0 p442 q442; cases e442; have qi442 : (0 < x1_2.length) = True := eq_true (by omega); (try rw [show ((0 : Int)).toNat = 0 from rfl] at hx442_0); (try rw [Addr.add_zero'] at hx442_0); replace p442 := eq_true p442; replace q442 := eq_true q442) | (go_at_call 65; (with_reducible refine (path_Component.calls k2 (rdOf ByteArray.empty x1_2 0) true _ A23.out).mono ?_); rintro e w' ⟨rfl, ⟨nd, rfl⟩⟩; (try first | exact ⟨rfl, _, World.drewN_drewN _ _ _⟩ | exact ⟨rfl, _, Eq.trans (World.drewN_drewN _ _ _) (congrArg (World.drewN _) (Nat.add_assoc _ _ _))⟩); have p444 : 0 ≤ (0 : Int) := (by omega); have q444 : 0 < (x1_2.length : Int) := of_decide_eq_true as_; obtain ⟨ad444, e444, hx444_0⟩ := Kd.at_string (Kd.V_reads' HO_1.out).2.2 0 p444 q444; obtain rfl : ad442 = ad444 := (by injection e444); have qi444 : (0 < x1_2.length) = True := eq_true (by omega); (try rw [show ((0 : Int)).toNat = 0 from rfl] at hx444_0); (try rw [Addr.add_zero'] at hx444_0); replace p444 := eq_true p444; replace q444 := eq_true q444; have q29 : (1 : Int) ≤ ((x1_2.length : Int) : Int) := of_decide_eq_true as_; obtain ⟨i029, hi029, _, hsz29, _⟩ := info_parts info9; have hroom29 : x1_2.length ≤ co28 := (Kd.V_reads' HO_1.out).2.1; have hC29 : Kd.F Kd.string _ _ (some ad442) x1_2.length x1_2 := (Kd.V_at (base := w.heap.size) HO_1.out).2.2; have hcut29 := cut_from (P := Tryd.prog) 22 9 .i64 Tryd.underlying22 hi029 1 hsz29 (some ad442) x1_2.length co28 1 (by omega) q29; have hr29 := Kd.F_cut (m := (1 : Int).toNat) (c := co28) hC29 (by omega) hroom29; obtain ⟨A29, hA29⟩ : ∃ A1, A1 = (if co28 = (1 : Int).toNat then (some ad442) else ((some ad442) : Option Addr).map (·.add ((1 : Int).toNat * 1))) := ⟨_, rfl⟩; obtain ⟨c29, hc29⟩ : ∃ c1, c1 = co28 - (1 : Int).toNat := ⟨_, rfl⟩; have hy29 : y445.length = x1_2.length - (1 : Int).toNat := (by rw [Ny445.out, List.length_drop] <;> omega); rw [show (x1_2).drop (1 : Int).toNat = y445 from Ny445.out.symm] at hr29; replace hr29 : Kd.F Kd.string _ _ A29 y445.length y445 := (by rw [hA29]; exact hr29); rw [← hy29, ← hA29, ← hc29] at hcut29; have HO449 := Aside0.mk (show Kd.V Kd.string 9 _ w.heap.size _ (.slice A29 y445.length c29) y445 from Kd.V_mk (by rw [hy29, hc29]; exact Nat.sub_le_sub_right hroom29 _) hr29); have HC449 := Aside0.mk (show y445.length ≤ c29 from by rw [hy29, hc29]; exact Nat.sub_le_sub_right hroom29 _); clear hr29 hC29 hroom29 hi029 hsz29 hc29; have KY29 := Aside0.mk hy29; have KA29 := Aside0.mk hA29; clear hy29 hA29; replace q29 := eq_true q29) | ((with_reducible refine gate_builtin (b := .append) (xs := #[.tmp 63, .tmp 65]) rfl ?_); at_builtin; refine Kd.R_append Kd.string (w0 := w) w.heap.size rfl (.tmp 63) (.tmp 65) 22 9 (.string ⟨#[]⟩) 16 rfl Tryd.underlying22 info9 rfl (by decide) (by omega) u10 x10_2 ((rdOf ByteArray.empty x1_2 0) ++ t441) [.string ((rdOf ByteArray.empty x1_2 0) ++ t441)] (fun k_ => (w.heap.size ≤ k_)) (fun _ => False) rfl rfl ?aP (fun _ hk => hk.elim) ?aF ?aO ?aB ?aS ?aL ?_; (case aP => exact rfl); (case aB => exact hb_); (case aF => exact (fun k_ hk => (Nat.le_trans (below_size hb_) hk))); (case aO => exact (rp_ HO_10)); (case aS => exact (below_size hb_)); (case aL => have := LMc27.out; omega); intro v451 w30 ho hb hg hat; rw [← Ny450.out] at ho; have n0_ := Aside0.mk (Kd.V_afterv (ok := (fun k_ => (P1_ k_ ∨ w.heap.size ≤ k_) ∧ k_ ≠ gb432)) (by (with_reducible repeat (first | apply Kd.V_alloc | apply Kd.V_drewN | apply Kd.V_drew)); exact Kd.V_mono HO_1.out (fun _ hk => ⟨⟨hk.1, hk.2.2⟩, hk.2.1⟩)) hg hat); have n1_ := Aside0.mk (blk_grown (g := gb432) (o := .cells #[.slice (some ad439) l0_0.length c0_0, .bool a0_1] 24 (0, 0)) bk_ hg (Kd.R_ne HO_10.out BK432.out (by decide))); have n2_ := Aside0.mk (Kd.V_afterv (ok := (fun k_ => (P1_ k_ ∨ w.heap.size ≤ k_) ∧ k_ ≠ gb432)) (by (with_reducible repeat (first | apply Kd.V_alloc | apply Kd.V_drewN | apply Kd.V_drew)); exact Kd.V_mono HO449.out (fun _ hk => ⟨⟨hk.1, hk.2.2⟩, hk.2.1⟩)) hg hat); have n3_ := Aside0.mk (hb); have n4_ := Aside0.mk (ho); clear HO_1 BK432 HO449 HB HO_10; have HO_1 := n0_; have BK432 := n1_; have HO449 := n2_; have HB := n3_; have HO452 := n4_; clear n0_ n1_ n2_ n3_ n4_; clear ho hb hg hat))
                  repeat (go_quiet (first | (go_at_call 39; (with_reducible refine (pattern_formOf.calls k2 (rdOf ByteArray.empty l0_0 x40_2) t440 t441 _ A20.out).mono ?_); rintro e w' ⟨rfl, ⟨nd, rfl⟩⟩; (try first | exact ⟨rfl, _, World.drewN_drewN _ _ _⟩ | exact ⟨rfl, _, Eq.trans (World.drewN_drewN _ _ _) (congrArg (World.drewN _) (Nat.add_assoc _ _ _))⟩); obtain ⟨Ao28, co28, eo28⟩ := Kd.V_slice HO_1.out; subst eo28; have p442 : 0 ≤ (0 : Int) := (by omega); have q442 : 0 < (x1_2.length : Int) := of_decide_eq_true as_; obtain ⟨ad442, e442, hx442_0⟩ := Kd.at_string (Kd.V_reads' HO_1.out).2.2 0 p442 q442; cases e442; have qi442 : (0 < x1_2.length) = True := eq_true (by omega); (try rw [show ((0 : Int)).toNat = 0 from rfl] at hx442_0); (try rw [Addr.add_zero'] at hx442_0); replace p442 := eq_true p442; replace q442 := eq_true q442) | (go_at_call 65; (with_reducible refine (path_Component.calls k2 (rdOf ByteArray.empty x1_2 0) true _ A23.out).mono ?_); rintro e w' ⟨rfl, ⟨nd, rfl⟩⟩; (try first | exact ⟨rfl, _, World.drewN_drewN _ _ _⟩ | exact ⟨rfl, _, Eq.trans (World.drewN_drewN _ _ _) (congrArg (World.drewN _) (Nat.add_assoc _ _ _))⟩); have p444 : 0 ≤ (0 : Int) := (by omega); have q444 : 0 < (x1_2.length : Int) := of_decide_eq_true as_; obtain ⟨ad444, e444, hx444_0⟩ := Kd.at_string (Kd.V_reads' HO_1.out).2.2 0 p444 q444; obtain rfl : ad442 = ad444 := (by injection e444); have qi444 : (0 < x1_2.length) = True := eq_true (by omega); (try rw [show ((0 : Int)).toNat = 0 from rfl] at hx444_0); (try rw [Addr.add_zero'] at hx444_0); replace p444 := eq_true p444; replace q444 := eq_true q444; have q29 : (1 : Int) ≤ ((x1_2.length : Int) : Int) := of_decide_eq_true as_; obtain ⟨i029, hi029, _, hsz29, _⟩ := info_parts info9; have hroom29 : x1_2.length ≤ co28 := (Kd.V_reads' HO_1.out).2.1; have hC29 : Kd.F Kd.string _ _ (some ad442) x1_2.length x1_2 := (Kd.V_at (base := w.heap.size) HO_1.out).2.2; have hcut29 := cut_from (P := Tryd.prog) 22 9 .i64 Tryd.underlying22 hi029 1 hsz29 (some ad442) x1_2.length co28 1 (by omega) q29; have hr29 := Kd.F_cut (m := (1 : Int).toNat) (c := co28) hC29 (by omega) hroom29; obtain ⟨A29, hA29⟩ : ∃ A1, A1 = (if co28 = (1 : Int).toNat then (some ad442) else ((some ad442) : Option Addr).map (·.add ((1 : Int).toNat * 1))) := ⟨_, rfl⟩; obtain ⟨c29, hc29⟩ : ∃ c1, c1 = co28 - (1 : Int).toNat := ⟨_, rfl⟩; have hy29 : y445.length = x1_2.length - (1 : Int).toNat := (by rw [Ny445.out, List.length_drop] <;> omega); rw [show (x1_2).drop (1 : Int).toNat = y445 from Ny445.out.symm] at hr29; replace hr29 : Kd.F Kd.string _ _ A29 y445.length y445 := (by rw [hA29]; exact hr29); rw [← hy29, ← hA29, ← hc29] at hcut29; have HO449 := Aside0.mk (show Kd.V Kd.string 9 _ w.heap.size _ (.slice A29 y445.length c29) y445 from Kd.V_mk (by rw [hy29, hc29]; exact Nat.sub_le_sub_right hroom29 _) hr29); have HC449 := Aside0.mk (show y445.length ≤ c29 from by rw [hy29, hc29]; exact Nat.sub_le_sub_right hroom29 _); clear hr29 hC29 hroom29 hi029 hsz29 hc29; have KY29 := Aside0.mk hy29; have KA29 := Aside0.mk hA29; clear hy29 hA29; replace q29 := eq_true q29) | ((with_reducible refine gate_builtin (b := .append) (xs := #[.tmp 63, .tmp 65]) rfl ?_); at_builtin; refine Kd.R_append Kd.string (w0 := w) w.heap.size rfl (.tmp 63) (.tmp 65) 22 9 (.string ⟨#[]⟩) 16 rfl Tryd.underlying22 info9 rfl (by decide) (by omega) u10 x10_2 ((rdOf ByteArray.empty x1_2 0) ++ t441) [.string ((rdOf ByteArray.empty x1_2 0) ++ t441)] (fun k_ => (w.heap.size ≤ k_)) (fun _ => False) rfl rfl ?aP (fun _ hk => hk.elim) ?aF ?aO ?aB ?aS ?aL ?_; (case aP => exact rfl); (case aB => exact hb_); (case aF => exact (fun k_ hk => (Nat.le_trans (below_size hb_) hk))); (case aO => exact (rp_ HO_10)); (case aS => exact (below_size hb_)); (case aL => have := LMc27.out; omega); intro v451 w30 ho hb hg hat; rw [← Ny450.out] at ho; have n0_ := Aside0.mk (Kd.V_afterv (ok := (fun k_ => (P1_ k_ ∨ w.heap.size ≤ k_) ∧ k_ ≠ gb432)) (by (with_reducible repeat (first | apply Kd.V_alloc | apply Kd.V_drewN | apply Kd.V_drew)); exact Kd.V_mono HO_1.out (fun _ hk => ⟨⟨hk.1, hk.2.2⟩, hk.2.1⟩)) hg hat); have n1_ := Aside0.mk (blk_grown (g := gb432) (o := .cells #[.slice (some ad439) l0_0.length c0_0, .bool a0_1] 24 (0, 0)) bk_ hg (Kd.R_ne HO_10.out BK432.out (by decide))); have n2_ := Aside0.mk (Kd.V_afterv (ok := (fun k_ => (P1_ k_ ∨ w.heap.size ≤ k_) ∧ k_ ≠ gb432)) (by (with_reducible repeat (first | apply Kd.V_alloc | apply Kd.V_drewN | apply Kd.V_drew)); exact Kd.V_mono HO449.out (fun _ hk => ⟨⟨hk.1, hk.2.2⟩, hk.2.1⟩)) hg hat); have n3_ := Aside0.mk (hb); have n4_ := Aside0.mk (ho); clear HO_1 BK432 HO449 HB HO_10; have HO_1 := n0_; have BK432 := n1_; have HO449 := n2_; have HB := n3_; have HO452 := n4_; clear n0_ n1_ n2_ n3_ n4_; clear ho hb hg hat)); try go_wp2_with (first | (go_at_call 39; (with_reducible refine (pattern_formOf.calls k2 (rdOf ByteArray.empty l0_0 x40_2) t440 t441 _ A20.out).mono ?_); rintro e w' ⟨rfl, ⟨nd, rfl⟩⟩; (try first | exact ⟨rfl, _, World.drewN_drewN _ _ _⟩ | exact ⟨rfl, _, Eq.trans (World.drewN_drewN _ _ _) (congrArg (World.drewN _) (Nat.add_assoc _ _ _))⟩); obtain ⟨Ao28, co28, eo28⟩ := Kd.V_slice HO_1.out; subst eo28; have p442 : 0 ≤ (0 : Int) := (by omega); have q442 : 0 < (x1_2.length : Int) := of_decide_eq_true as_; obtain ⟨ad442, e442, hx442_0⟩ := Kd.at_string (Kd.V_reads' HO_1.out).2.2 0 p442 q442; cases e442; have qi442 : (0 < x1_2.length) = True := eq_true (by omega); (try rw [show ((0 : Int)).toNat = 0 from rfl] at hx442_0); (try rw [Addr.add_zero'] at hx442_0); replace p442 := eq_true p442; replace q442 := eq_true q442) | (go_at_call 65; (with_reducible refine (path_Component.calls k2 (rdOf ByteArray.empty x1_2 0) true _ A23.out).mono ?_); rintro e w' ⟨rfl, ⟨nd, rfl⟩⟩; (try first | exact ⟨rfl, _, World.drewN_drewN _ _ _⟩ | exact ⟨rfl, _, Eq.trans (World.drewN_drewN _ _ _) (congrArg (World.drewN _) (Nat.add_assoc _ _ _))⟩); have p444 : 0 ≤ (0 : Int) := (by omega); have q444 : 0 < (x1_2.length : Int) := of_decide_eq_true as_; obtain ⟨ad444, e444, hx444_0⟩ := Kd.at_string (Kd.V_reads' HO_1.out).2.2 0 p444 q444; obtain rfl : ad442 = ad444 := (by injection e444); have qi444 : (0 < x1_2.length) = True := eq_true (by omega); (try rw [show ((0 : Int)).toNat = 0 from rfl] at hx444_0); (try rw [Addr.add_zero'] at hx444_0); replace p444 := eq_true p444; replace q444 := eq_true q444; have q29 : (1 : Int) ≤ ((x1_2.length : Int) : Int) := of_decide_eq_true as_; obtain ⟨i029, hi029, _, hsz29, _⟩ := info_parts info9; have hroom29 : x1_2.length ≤ co28 := (Kd.V_reads' HO_1.out).2.1; have hC29 : Kd.F Kd.string _ _ (some ad442) x1_2.length x1_2 := (Kd.V_at (base := w.heap.size) HO_1.out).2.2; have hcut29 := cut_from (P := Tryd.prog) 22 9 .i64 Tryd.underlying22 hi029 1 hsz29 (some ad442) x1_2.length co28 1 (by omega) q29; have hr29 := Kd.F_cut (m := (1 : Int).toNat) (c := co28) hC29 (by omega) hroom29; obtain ⟨A29, hA29⟩ : ∃ A1, A1 = (if co28 = (1 : Int).toNat then (some ad442) else ((some ad442) : Option Addr).map (·.add ((1 : Int).toNat * 1))) := ⟨_, rfl⟩; obtain ⟨c29, hc29⟩ : ∃ c1, c1 = co28 - (1 : Int).toNat := ⟨_, rfl⟩; have hy29 : y445.length = x1_2.length - (1 : Int).toNat := (by rw [Ny445.out, List.length_drop] <;> omega); rw [show (x1_2).drop (1 : Int).toNat = y445 from Ny445.out.symm] at hr29; replace hr29 : Kd.F Kd.string _ _ A29 y445.length y445 := (by rw [hA29]; exact hr29); rw [← hy29, ← hA29, ← hc29] at hcut29; have HO449 := Aside0.mk (show Kd.V Kd.string 9 _ w.heap.size _ (.slice A29 y445.length c29) y445 from Kd.V_mk (by rw [hy29, hc29]; exact Nat.sub_le_sub_right hroom29 _) hr29); have HC449 := Aside0.mk (show y445.length ≤ c29 from by rw [hy29, hc29]; exact Nat.sub_le_sub_right hroom29 _); clear hr29 hC29 hroom29 hi029 hsz29 hc29; have KY29 := Aside0.mk hy29; have KA29 := Aside0.mk hA29; clear hy29 hA29; replace q29 := eq_true q29) | ((with_reducible refine gate_builtin (b := .append) (xs := #[.tmp 63, .tmp 65]) rfl ?_); at_builtin; refine Kd.R_append Kd.string (w0 := w) w.heap.size rfl (.tmp 63) (.tmp 65) 22 9 (.string ⟨#[]⟩) 16 rfl Tryd.underlying22 info9 rfl (by decide) (by omega) u10 x10_2 ((rdOf ByteArray.empty x1_2 0) ++ t441) [.string ((rdOf ByteArray.empty x1_2 0) ++ t441)] (fun k_ => (w.heap.size ≤ k_)) (fun _ => False) rfl rfl ?aP (fun _ hk => hk.elim) ?aF ?aO ?aB ?aS ?aL ?_; (case aP => exact rfl); (case aB => exact hb_); (case aF => exact (fun k_ hk => (Nat.le_trans (below_size hb_) hk))); (case aO => exact (rp_ HO_10)); (case aS => exact (below_size hb_)); (case aL => have := LMc27.out; omega); intro v451 w30 ho hb hg hat; rw [← Ny450.out] at ho; have n0_ := Aside0.mk (Kd.V_afterv (ok := (fun k_ => (P1_ k_ ∨ w.heap.size ≤ k_) ∧ k_ ≠ gb432)) (by (with_reducible repeat (first | apply Kd.V_alloc | apply Kd.V_drewN | apply Kd.V_drew)); exact Kd.V_mono HO_1.out (fun _ hk => ⟨⟨hk.1, hk.2.2⟩, hk.2.1⟩)) hg hat); have n1_ := Aside0.mk (blk_grown (g := gb432) (o := .cells #[.slice (some ad439) l0_0.length c0_0, .bool a0_1] 24 (0, 0)) bk_ hg (Kd.R_ne HO_10.out BK432.out (by decide))); have n2_ := Aside0.mk (Kd.V_afterv (ok := (fun k_ => (P1_ k_ ∨ w.heap.size ≤ k_) ∧ k_ ≠ gb432)) (by (with_reducible repeat (first | apply Kd.V_alloc | apply Kd.V_drewN | apply Kd.V_drew)); exact Kd.V_mono HO449.out (fun _ hk => ⟨⟨hk.1, hk.2.2⟩, hk.2.1⟩)) hg hat); have n3_ := Aside0.mk (hb); have n4_ := Aside0.mk (ho); clear HO_1 BK432 HO449 HB HO_10; have HO_1 := n0_; have BK432 := n1_; have HO449 := n2_; have HB := n3_; have HO452 := n4_; clear n0_ n1_ n2_ n3_ n4_; clear ho hb hg hat)))
                  go_roundg k2
                  case measure => have := HJ4.out; have := HK2.out; omega
                  case rel => exact ⟨(y445), (y450), (wrap64 (x40_2 + 1)), rs_, H', ⟨by have := HJ4.out; have := HK2.out; omega⟩, ⟨by (with_reducible repeat (first | apply Kd.V_alloc | apply Kd.V_drewN | apply Kd.V_drew)); exact Kd.V_mono HO449.out (fun _ hk => ⟨hk.1.1, ⟨hk.2, hk.1.2⟩⟩)⟩, ⟨by (with_reducible repeat (first | apply Kd.R_alloc | apply Kd.R_drewN | apply Kd.R_drew)); exact HO452.out⟩, ⟨bk_⟩, ⟨hb_⟩⟩
                 ·rw [if_neg c27] at H
                  exact absurd H (by simp)
                ·rw [if_neg c26] at H
                 exact absurd H (by simp)
               ·rw [if_neg c25] at H
                exact absurd H (by simp)
              ·replace c24 := Bool.eq_false_iff.mpr c24
               subst c24
               replace H := in_ H
               simp only [Option.some.injEq, Prod.mk.injEq] at H
               obtain ⟨rfl, rfl⟩ := H
               have p439 : 0 ≤ (x40_2 : Int) := of_decide_eq_true as_
               have q439 : x40_2 < (l0_0.length : Int) := of_decide_eq_true as_
               obtain ⟨ad439, e439, hx439_0⟩ := Kd.at_string HR0_0.out x40_2 p439 q439
               cases e439
               replace hx439_0 := (HB.out.cell (World.block_lt_of_cell? w _ hx439_0)).trans hx439_0
               replace p439 := eq_true p439
               replace q439 := eq_true q439
               go_wp2_with (first | (go_at_call 39; (with_reducible refine (pattern_formOf.calls k2 (rdOf ByteArray.empty l0_0 x40_2) t440 t441 _ A20.out).mono ?_); rintro e w' ⟨rfl, ⟨nd, rfl⟩⟩; (try first | exact ⟨rfl, _, World.drewN_drewN _ _ _⟩ | exact ⟨rfl, _, Eq.trans (World.drewN_drewN _ _ _) (congrArg (World.drewN _) (Nat.add_assoc _ _ _))⟩); obtain ⟨Ao31, co31, eo31⟩ := Kd.V_slice HO_1.out; subst eo31; have p442 : 0 ≤ (0 : Int) := (by omega); have q442 : 0 < (x1_2.length : Int) := of_decide_eq_true as_; obtain ⟨ad442, e442, hx442_0⟩ := Kd.at_string (Kd.V_reads' HO_1.out).2.2 0 p442 q442; cases e442; have qi442 : (0 < x1_2.length) = True := eq_true (by omega); (try rw [show ((0 : Int)).toNat = 0 from rfl] at hx442_0); (try rw [Addr.add_zero'] at hx442_0); replace p442 := eq_true p442; replace q442 := eq_true q442) | (go_at_call 65; (with_reducible refine (path_Component.calls k2 (rdOf ByteArray.empty x1_2 0) false _ A23.out).mono ?_); rintro e w' ⟨rfl, ⟨nd, rfl⟩⟩; (try first | exact ⟨rfl, _, World.drewN_drewN _ _ _⟩ | exact ⟨rfl, _, Eq.trans (World.drewN_drewN _ _ _) (congrArg (World.drewN _) (Nat.add_assoc _ _ _))⟩)))
               repeat (go_quiet (first | (go_at_call 39; (with_reducible refine (pattern_formOf.calls k2 (rdOf ByteArray.empty l0_0 x40_2) t440 t441 _ A20.out).mono ?_); rintro e w' ⟨rfl, ⟨nd, rfl⟩⟩; (try first | exact ⟨rfl, _, World.drewN_drewN _ _ _⟩ | exact ⟨rfl, _, Eq.trans (World.drewN_drewN _ _ _) (congrArg (World.drewN _) (Nat.add_assoc _ _ _))⟩); obtain ⟨Ao31, co31, eo31⟩ := Kd.V_slice HO_1.out; subst eo31; have p442 : 0 ≤ (0 : Int) := (by omega); have q442 : 0 < (x1_2.length : Int) := of_decide_eq_true as_; obtain ⟨ad442, e442, hx442_0⟩ := Kd.at_string (Kd.V_reads' HO_1.out).2.2 0 p442 q442; cases e442; have qi442 : (0 < x1_2.length) = True := eq_true (by omega); (try rw [show ((0 : Int)).toNat = 0 from rfl] at hx442_0); (try rw [Addr.add_zero'] at hx442_0); replace p442 := eq_true p442; replace q442 := eq_true q442) | (go_at_call 65; (with_reducible refine (path_Component.calls k2 (rdOf ByteArray.empty x1_2 0) false _ A23.out).mono ?_); rintro e w' ⟨rfl, ⟨nd, rfl⟩⟩; (try first | exact ⟨rfl, _, World.drewN_drewN _ _ _⟩ | exact ⟨rfl, _, Eq.trans (World.drewN_drewN _ _ _) (congrArg (World.drewN _) (Nat.add_assoc _ _ _))⟩))); try go_wp2_with (first | (go_at_call 39; (with_reducible refine (pattern_formOf.calls k2 (rdOf ByteArray.empty l0_0 x40_2) t440 t441 _ A20.out).mono ?_); rintro e w' ⟨rfl, ⟨nd, rfl⟩⟩; (try first | exact ⟨rfl, _, World.drewN_drewN _ _ _⟩ | exact ⟨rfl, _, Eq.trans (World.drewN_drewN _ _ _) (congrArg (World.drewN _) (Nat.add_assoc _ _ _))⟩); obtain ⟨Ao31, co31, eo31⟩ := Kd.V_slice HO_1.out; subst eo31; have p442 : 0 ≤ (0 : Int) := (by omega); have q442 : 0 < (x1_2.length : Int) := of_decide_eq_true as_; obtain ⟨ad442, e442, hx442_0⟩ := Kd.at_string (Kd.V_reads' HO_1.out).2.2 0 p442 q442; cases e442; have qi442 : (0 < x1_2.length) = True := eq_true (by omega); (try rw [show ((0 : Int)).toNat = 0 from rfl] at hx442_0); (try rw [Addr.add_zero'] at hx442_0); replace p442 := eq_true p442; replace q442 := eq_true q442) | (go_at_call 65; (with_reducible refine (path_Component.calls k2 (rdOf ByteArray.empty x1_2 0) false _ A23.out).mono ?_); rintro e w' ⟨rfl, ⟨nd, rfl⟩⟩; (try first | exact ⟨rfl, _, World.drewN_drewN _ _ _⟩ | exact ⟨rfl, _, Eq.trans (World.drewN_drewN _ _ _) (congrArg (World.drewN _) (Nat.add_assoc _ _ _))⟩))))
               go_ret2
               exact ⟨rt_, hb_⟩
             ·rw [if_neg c22] at H
              exact absurd H (by simp)
            ·rw [if_neg c21] at H
             have c21b0 := beq_eq_false_iff_ne.mpr c21
             have c21b1 := bne_iff_ne.mpr c21
             by_cases c32 : x10_2.length < 8796093022208
             ·rw [if_pos c32] at H
              have LMc32 := Aside0.mk c32
              clear c32
              obtain ⟨y453, hy453⟩ : ∃ y_ : List ByteArray, y_ = (x10_2 ++ [rdOf ByteArray.empty l0_0 x40_2]) := ⟨_, rfl⟩
              replace H : (pattern_Fill.l0 k2 x1_2 t434 y453 l0_0 (l0_0.length : Int) (wrap64 (x40_2 + 1))) = some (r1, r2) := by first | (rw [hy453]; with_reducible exact H) | (have H2_ := (Option.bind_some _ _).symm.trans H; rw [hy453]; with_reducible exact H2_) | (have H2_ := (Option.bind_some _ _).symm.trans H; with_reducible exact H2_) | with_reducible exact H | (rw [hy453]; exact H) | exact H
              have Ny453 := Aside0.mk hy453
              clear hy453
              have H' := Aside0.mk H
              clear H
              have p439 : 0 ≤ (x40_2 : Int) := of_decide_eq_true as_
              have q439 : x40_2 < (l0_0.length : Int) := of_decide_eq_true as_
              obtain ⟨ad439, e439, hx439_0⟩ := Kd.at_string HR0_0.out x40_2 p439 q439
              cases e439
              replace hx439_0 := (HB.out.cell (World.block_lt_of_cell? w _ hx439_0)).trans hx439_0
              replace p439 := eq_true p439
              replace q439 := eq_true q439
              go_wp2_with (first | (go_at_call 39; (with_reducible refine (pattern_formOf.calls k2 (rdOf ByteArray.empty l0_0 x40_2) t440 t441 _ A20.out).mono ?_); rintro e w' ⟨rfl, ⟨nd, rfl⟩⟩; (try first | exact ⟨rfl, _, World.drewN_drewN _ _ _⟩ | exact ⟨rfl, _, Eq.trans (World.drewN_drewN _ _ _) (congrArg (World.drewN _) (Nat.add_assoc _ _ _))⟩)) | ((with_reducible refine gate_builtin (b := .append) (xs := #[.tmp 63, .tmp 65]) rfl ?_); at_builtin; refine Kd.R_append Kd.string (w0 := w) w.heap.size rfl (.tmp 63) (.tmp 65) 22 9 (.string ⟨#[]⟩) 16 rfl Tryd.underlying22 info9 rfl (by decide) (by omega) u10 x10_2 (rdOf ByteArray.empty l0_0 x40_2) [.string (rdOf ByteArray.empty l0_0 x40_2)] (fun k_ => (w.heap.size ≤ k_)) (fun _ => False) rfl rfl ?aP (fun _ hk => hk.elim) ?aF ?aO ?aB ?aS ?aL ?_; (case aP => exact rfl); (case aB => exact hb_); (case aF => exact (fun k_ hk => (Nat.le_trans (below_size hb_) hk))); (case aO => exact (rp_ HO_10)); (case aS => exact (below_size hb_)); (case aL => have := LMc32.out; omega); intro v454 w33 ho hb hg hat; rw [← Ny453.out] at ho; have n0_ := Aside0.mk (Kd.V_afterv (ok := (fun k_ => (P1_ k_ ∨ w.heap.size ≤ k_) ∧ k_ ≠ gb432)) (by (with_reducible repeat (first | apply Kd.V_alloc | apply Kd.V_drewN | apply Kd.V_drew)); exact Kd.V_mono HO_1.out (fun _ hk => ⟨⟨hk.1, hk.2.2⟩, hk.2.1⟩)) hg hat); have n1_ := Aside0.mk (blk_grown (g := gb432) (o := .cells #[.slice (some ad439) l0_0.length c0_0, .bool a0_1] 24 (0, 0)) bk_ hg (Kd.R_ne HO_10.out BK432.out (by decide))); have n2_ := Aside0.mk (hb); have n3_ := Aside0.mk (ho); clear HO_1 BK432 HB HO_10; have HO_1 := n0_; have BK432 := n1_; have HB := n2_; have HO455 := n3_; clear n0_ n1_ n2_ n3_; clear ho hb hg hat))
              repeat (go_quiet (first | (go_at_call 39; (with_reducible refine (pattern_formOf.calls k2 (rdOf ByteArray.empty l0_0 x40_2) t440 t441 _ A20.out).mono ?_); rintro e w' ⟨rfl, ⟨nd, rfl⟩⟩; (try first | exact ⟨rfl, _, World.drewN_drewN _ _ _⟩ | exact ⟨rfl, _, Eq.trans (World.drewN_drewN _ _ _) (congrArg (World.drewN _) (Nat.add_assoc _ _ _))⟩)) | ((with_reducible refine gate_builtin (b := .append) (xs := #[.tmp 63, .tmp 65]) rfl ?_); at_builtin; refine Kd.R_append Kd.string (w0 := w) w.heap.size rfl (.tmp 63) (.tmp 65) 22 9 (.string ⟨#[]⟩) 16 rfl Tryd.underlying22 info9 rfl (by decide) (by omega) u10 x10_2 (rdOf ByteArray.empty l0_0 x40_2) [.string (rdOf ByteArray.empty l0_0 x40_2)] (fun k_ => (w.heap.size ≤ k_)) (fun _ => False) rfl rfl ?aP (fun _ hk => hk.elim) ?aF ?aO ?aB ?aS ?aL ?_; (case aP => exact rfl); (case aB => exact hb_); (case aF => exact (fun k_ hk => (Nat.le_trans (below_size hb_) hk))); (case aO => exact (rp_ HO_10)); (case aS => exact (below_size hb_)); (case aL => have := LMc32.out; omega); intro v454 w33 ho hb hg hat; rw [← Ny453.out] at ho; have n0_ := Aside0.mk (Kd.V_afterv (ok := (fun k_ => (P1_ k_ ∨ w.heap.size ≤ k_) ∧ k_ ≠ gb432)) (by (with_reducible repeat (first | apply Kd.V_alloc | apply Kd.V_drewN | apply Kd.V_drew)); exact Kd.V_mono HO_1.out (fun _ hk => ⟨⟨hk.1, hk.2.2⟩, hk.2.1⟩)) hg hat); have n1_ := Aside0.mk (blk_grown (g := gb432) (o := .cells #[.slice (some ad439) l0_0.length c0_0, .bool a0_1] 24 (0, 0)) bk_ hg (Kd.R_ne HO_10.out BK432.out (by decide))); have n2_ := Aside0.mk (hb); have n3_ := Aside0.mk (ho); clear HO_1 BK432 HB HO_10; have HO_1 := n0_; have BK432 := n1_; have HB := n2_; have HO455 := n3_; clear n0_ n1_ n2_ n3_; clear ho hb hg hat)); try go_wp2_with (first | (go_at_call 39; (with_reducible refine (pattern_formOf.calls k2 (rdOf ByteArray.empty l0_0 x40_2) t440 t441 _ A20.out).mono ?_); rintro e w' ⟨rfl, ⟨nd, rfl⟩⟩; (try first | exact ⟨rfl, _, World.drewN_drewN _ _ _⟩ | exact ⟨rfl, _, Eq.trans (World.drewN_drewN _ _ _) (congrArg (World.drewN _) (Nat.add_assoc _ _ _))⟩)) | ((with_reducible refine gate_builtin (b := .append) (xs := #[.tmp 63, .tmp 65]) rfl ?_); at_builtin; refine Kd.R_append Kd.string (w0 := w) w.heap.size rfl (.tmp 63) (.tmp 65) 22 9 (.string ⟨#[]⟩) 16 rfl Tryd.underlying22 info9 rfl (by decide) (by omega) u10 x10_2 (rdOf ByteArray.empty l0_0 x40_2) [.string (rdOf ByteArray.empty l0_0 x40_2)] (fun k_ => (w.heap.size ≤ k_)) (fun _ => False) rfl rfl ?aP (fun _ hk => hk.elim) ?aF ?aO ?aB ?aS ?aL ?_; (case aP => exact rfl); (case aB => exact hb_); (case aF => exact (fun k_ hk => (Nat.le_trans (below_size hb_) hk))); (case aO => exact (rp_ HO_10)); (case aS => exact (below_size hb_)); (case aL => have := LMc32.out; omega); intro v454 w33 ho hb hg hat; rw [← Ny453.out] at ho; have n0_ := Aside0.mk (Kd.V_afterv (ok := (fun k_ => (P1_ k_ ∨ w.heap.size ≤ k_) ∧ k_ ≠ gb432)) (by (with_reducible repeat (first | apply Kd.V_alloc | apply Kd.V_drewN | apply Kd.V_drew)); exact Kd.V_mono HO_1.out (fun _ hk => ⟨⟨hk.1, hk.2.2⟩, hk.2.1⟩)) hg hat); have n1_ := Aside0.mk (blk_grown (g := gb432) (o := .cells #[.slice (some ad439) l0_0.length c0_0, .bool a0_1] 24 (0, 0)) bk_ hg (Kd.R_ne HO_10.out BK432.out (by decide))); have n2_ := Aside0.mk (hb); have n3_ := Aside0.mk (ho); clear HO_1 BK432 HB HO_10; have HO_1 := n0_; have BK432 := n1_; have HB := n2_; have HO455 := n3_; clear n0_ n1_ n2_ n3_; clear ho hb hg hat)))
              go_roundg k2
              case measure => have := HJ4.out; have := HK2.out; omega
              case rel => exact ⟨(x1_2), (y453), (wrap64 (x40_2 + 1)), rs_, H', ⟨by have := HJ4.out; have := HK2.out; omega⟩, ⟨by (with_reducible repeat (first | apply Kd.V_alloc | apply Kd.V_drewN | apply Kd.V_drew)); exact Kd.V_mono HO_1.out (fun _ hk => ⟨hk.1.1, ⟨hk.2, hk.1.2⟩⟩)⟩, ⟨by (with_reducible repeat (first | apply Kd.R_alloc | apply Kd.R_drewN | apply Kd.R_drew)); exact HO455.out⟩, ⟨bk_⟩, ⟨hb_⟩⟩
             ·rw [if_neg c32] at H
              exact absurd H (by simp)
           ·rw [if_neg c19] at H
            exact absurd H (by simp)
          ·rw [if_neg c18] at H
           exact absurd H (by simp)
         ·rw [if_neg c17] at H
          have c17b0 := decide_eq_false c17
          clear c17
          by_cases c34 : t434 = true
          ·subst c34
           replace H := ip_ H
           by_cases c35 : 0 < (x1_2.length : Int)
           ·rw [if_pos c35] at H
            have c35b0 := decide_eq_true c35
            have c35b1 : decide (0 < x1_2.length) = true := decide_eq_true (by omega)
            clear c35
            replace H := Option.bind_eq_some_iff.mp H
            obtain ⟨t457, A360, H⟩ := H
            replace H : (if x10_2.length + t457.length < 8796093022208 then ((path_Join.f k2 (x10_2 ++ t457)).bind fun bt463 => (if bt463.2 = 0 then (some (bt463.1, 0)) else (some ((⟨#[]⟩ : ByteArray), 32)))) else (none)) = some (r1, r2) := H
            have A36 := Aside0.mk A360
            clear A360
            by_cases c37 : x10_2.length + t457.length < 8796093022208
            ·rw [if_pos c37] at H
             have LMc37 := Aside0.mk c37
             clear c37
             obtain ⟨y460, hy460⟩ : ∃ y_ : List ByteArray, y_ = (x10_2 ++ t457) := ⟨_, rfl⟩
             replace H : ((path_Join.f k2 y460).bind fun bt463 => (if bt463.2 = 0 then (some (bt463.1, 0)) else (some ((⟨#[]⟩ : ByteArray), 32)))) = some (r1, r2) := by first | (rw [hy460]; with_reducible exact H) | (have H2_ := (Option.bind_some _ _).symm.trans H; rw [hy460]; with_reducible exact H2_) | (have H2_ := (Option.bind_some _ _).symm.trans H; with_reducible exact H2_) | with_reducible exact H | (rw [hy460]; exact H) | exact H
             have Ny460 := Aside0.mk hy460
             clear hy460
             replace H := Option.bind_eq_some_iff.mp H
             obtain ⟨⟨t463, t464⟩, A380, H⟩ := H
             replace H : (if t464 = 0 then (some (t463, 0)) else (some ((⟨#[]⟩ : ByteArray), 32))) = some (r1, r2) := H
             have A38 := Aside0.mk A380
             clear A380
             by_cases c39 : t464 = 0
             ·rw [if_pos c39] at H
              have c39b0 := beq_iff_eq.mpr c39
              have c39b1 := bne_eq_false_iff_eq.mpr c39
              clear c39
              simp only [Option.some.injEq, Prod.mk.injEq] at H
              obtain ⟨rfl, rfl⟩ := H
              obtain ⟨Ao40, co40, eo40⟩ := Kd.V_slice HO_1.out
              subst eo40
              have p456 : 0 ≤ (0 : Int) := (by omega)
              have q456 : 0 < (x1_2.length : Int) := of_decide_eq_true as_
              obtain ⟨ad456, e456, hx456_0⟩ := Kd.at_string (Kd.V_reads' HO_1.out).2.2 0 p456 q456
              cases e456
              have qi456 : (0 < x1_2.length) = True := eq_true (by omega)
              (try rw [show ((0 : Int)).toNat = 0 from rfl] at hx456_0)
              (try rw [Addr.add_zero'] at hx456_0)
              replace p456 := eq_true p456
              replace q456 := eq_true q456
              go_wp2_with (first | (go_at_call 61; (with_reducible refine (strings_Split.calls (rdOf ByteArray.empty x1_2 0) (⟨#[47]⟩ : ByteArray) t457 _ A36.out).mono ?_); rintro e w41 ⟨v458, rfl, ho0, hb⟩; have n0_ := Aside0.mk (Kd.V_elder' (by (with_reducible repeat (first | apply Kd.V_alloc | apply Kd.V_drewN | apply Kd.V_drew)); exact HO_1.out) (Kd.R_base ho0) hb); have n1_ := Aside0.mk (Kd.R_elder' (rp_ HO_10) (Kd.R_base ho0) hb); have n2_ := Aside0.mk (Kd.R_lower (Kd.R_new' (Kd.R_newM (M := fun k_ => (w.heap.size ≤ k_)) ho0 (below_size hb_) (fun k_ h_ => h_)) (Kd.R_lt (rp_ HO_10))) (below_size hb_)); replace BK432 := bb_ BK432 hb; replace HB := hs_ HB hb; clear HO_1 HO_10; have HO_1 := n0_; have HO_10 := n1_; have HO459 := n2_; clear n0_ n1_ n2_; (try clear hb); (try clear ho0); obtain ⟨Ao43, co43, eo43⟩ := Kd.R_slice HO459.out; subst eo43) | ((with_reducible refine gate_builtin (b := .append) (xs := #[.tmp 69, .tmp 73]) rfl ?_); at_builtin; refine Kd.R_append_rows Kd.string (w0 := w) w.heap.size rfl (.tmp 69) (.tmp 73) 22 9 (.string ⟨#[]⟩) 16 rfl Tryd.underlying22 info9 rfl (by decide) (by omega) u10 x10_2 t457 _ _ _ (fun k_ => (w.heap.size ≤ k_) ∧ some k_ ≠ (.slice Ao43 t457.length co43 : Value).ownBlock) (fun _ => False) rfl rfl ?aO ?aR (fun _ _ h => h) (fun _ h => h.elim) ?aF ?aB ?aS ?aL ?_; (case aR => repeat (first | exact (Kd.R_reads' HO459.out).2.2 | (with_reducible refine Kd.C_alloc ?_ _) | (with_reducible refine Kd.C_drewN ?_ _) | (with_reducible refine Kd.C_drew ?_))); (case aB => exact hb_); (case aF => exact (fun k_ hk => ⟨(Nat.le_trans (below_size hb_) hk), Kd.fresh' (Kd.R_lt (rp_ HO459)) k_ hk⟩)); (case aO => exact (rp_ HO_10)); (case aS => exact (below_size hb_)); (case aL => have := LMc37.out; omega); intro v461 w42 ho hb hg hat; rw [← Ny460.out] at ho; have n0_ := Aside0.mk (Kd.V_afterv (ok := (fun k_ => (P1_ k_ ∨ w.heap.size ≤ k_) ∧ some k_ ≠ (.slice Ao43 t457.length co43 : Value).ownBlock ∧ k_ ≠ gb432)) (by (with_reducible repeat (first | apply Kd.V_alloc | apply Kd.V_drewN | apply Kd.V_drew)); exact Kd.V_mono HO_1.out (fun _ hk => ⟨⟨hk.1.1, ⟨hk.2, hk.1.2.2⟩⟩, hk.1.2.1⟩)) hg hat); have n1_ := Aside0.mk (blk_grown (g := gb432) (o := .cells #[.slice A0_0 l0_0.length c0_0, .bool a0_1] 24 (0, 0)) bk_ hg (Kd.R_ne HO_10.out BK432.out (by decide))); have n2_ := Aside0.mk (Kd.R_after (ok := (fun k_ => (w.heap.size ≤ k_))) (by (with_reducible repeat (first | apply Kd.R_alloc | apply Kd.R_drewN | apply Kd.R_drew)); exact Kd.R_mono HO459.out (fun _ hk => ⟨hk.1.1, hk.2⟩)) hg hat); have n3_ := Aside0.mk (hb); have n4_ := Aside0.mk (ho); clear HO_1 BK432 HO459 HB HO_10; have HO_1 := n0_; have BK432 := n1_; have HO459 := n2_; have HB := n3_; have HO462 := n4_; clear n0_ n1_ n2_ n3_ n4_; clear ho hb hg hat; obtain ⟨Ao44, co44, eo44⟩ := Kd.R_slice HO462.out; subst eo44) | (go_at_call 70; (with_reducible refine (path_Join.calls k2 _ _ y460 t463 t464 _ ?side1 ?side2 A38.out).mono ?_); (case side1 => repeat (first | exact (Kd.R_reads' HO462.out).2.2 | (with_reducible refine Kd.C_alloc ?_ _) | (with_reducible refine Kd.C_drewN ?_ _) | (with_reducible refine Kd.C_drew ?_))); (case side2 => exact (Kd.R_reads' HO462.out).2.1); rintro e w45 ⟨rfl, hb⟩; have n0_ := Aside0.mk (Kd.V_below (by (with_reducible repeat (first | apply Kd.V_alloc | apply Kd.V_drewN | apply Kd.V_drew)); exact HO_1.out) hb); replace HO459 := rb_ HO459 hb; replace HO462 := rb_ HO462 hb; replace BK432 := bb_ BK432 hb; replace HB := hs_ HB hb; clear HO_1; have HO_1 := n0_; clear n0_; (try clear hb)))
              repeat (go_quiet (first | (go_at_call 61; (with_reducible refine (strings_Split.calls (rdOf ByteArray.empty x1_2 0) (⟨#[47]⟩ : ByteArray) t457 _ A36.out).mono ?_); rintro e w41 ⟨v458, rfl, ho0, hb⟩; have n0_ := Aside0.mk (Kd.V_elder' (by (with_reducible repeat (first | apply Kd.V_alloc | apply Kd.V_drewN | apply Kd.V_drew)); exact HO_1.out) (Kd.R_base ho0) hb); have n1_ := Aside0.mk (Kd.R_elder' (rp_ HO_10) (Kd.R_base ho0) hb); have n2_ := Aside0.mk (Kd.R_lower (Kd.R_new' (Kd.R_newM (M := fun k_ => (w.heap.size ≤ k_)) ho0 (below_size hb_) (fun k_ h_ => h_)) (Kd.R_lt (rp_ HO_10))) (below_size hb_)); replace BK432 := bb_ BK432 hb; replace HB := hs_ HB hb; clear HO_1 HO_10; have HO_1 := n0_; have HO_10 := n1_; have HO459 := n2_; clear n0_ n1_ n2_; (try clear hb); (try clear ho0); obtain ⟨Ao43, co43, eo43⟩ := Kd.R_slice HO459.out; subst eo43) | ((with_reducible refine gate_builtin (b := .append) (xs := #[.tmp 69, .tmp 73]) rfl ?_); at_builtin; refine Kd.R_append_rows Kd.string (w0 := w) w.heap.size rfl (.tmp 69) (.tmp 73) 22 9 (.string ⟨#[]⟩) 16 rfl Tryd.underlying22 info9 rfl (by decide) (by omega) u10 x10_2 t457 _ _ _ (fun k_ => (w.heap.size ≤ k_) ∧ some k_ ≠ (.slice Ao43 t457.length co43 : Value).ownBlock) (fun _ => False) rfl rfl ?aO ?aR (fun _ _ h => h) (fun _ h => h.elim) ?aF ?aB ?aS ?aL ?_; (case aR => repeat (first | exact (Kd.R_reads' HO459.out).2.2 | (with_reducible refine Kd.C_alloc ?_ _) | (with_reducible refine Kd.C_drewN ?_ _) | (with_reducible refine Kd.C_drew ?_))); (case aB => exact hb_); (case aF => exact (fun k_ hk => ⟨(Nat.le_trans (below_size hb_) hk), Kd.fresh' (Kd.R_lt (rp_ HO459)) k_ hk⟩)); (case aO => exact (rp_ HO_10)); (case aS => exact (below_size hb_)); (case aL => have := LMc37.out; omega); intro v461 w42 ho hb hg hat; rw [← Ny460.out] at ho; have n0_ := Aside0.mk (Kd.V_afterv (ok := (fun k_ => (P1_ k_ ∨ w.heap.size ≤ k_) ∧ some k_ ≠ (.slice Ao43 t457.length co43 : Value).ownBlock ∧ k_ ≠ gb432)) (by (with_reducible repeat (first | apply Kd.V_alloc | apply Kd.V_drewN | apply Kd.V_drew)); exact Kd.V_mono HO_1.out (fun _ hk => ⟨⟨hk.1.1, ⟨hk.2, hk.1.2.2⟩⟩, hk.1.2.1⟩)) hg hat); have n1_ := Aside0.mk (blk_grown (g := gb432) (o := .cells #[.slice A0_0 l0_0.length c0_0, .bool a0_1] 24 (0, 0)) bk_ hg (Kd.R_ne HO_10.out BK432.out (by decide))); have n2_ := Aside0.mk (Kd.R_after (ok := (fun k_ => (w.heap.size ≤ k_))) (by (with_reducible repeat (first | apply Kd.R_alloc | apply Kd.R_drewN | apply Kd.R_drew)); exact Kd.R_mono HO459.out (fun _ hk => ⟨hk.1.1, hk.2⟩)) hg hat); have n3_ := Aside0.mk (hb); have n4_ := Aside0.mk (ho); clear HO_1 BK432 HO459 HB HO_10; have HO_1 := n0_; have BK432 := n1_; have HO459 := n2_; have HB := n3_; have HO462 := n4_; clear n0_ n1_ n2_ n3_ n4_; clear ho hb hg hat; obtain ⟨Ao44, co44, eo44⟩ := Kd.R_slice HO462.out; subst eo44) | (go_at_call 70; (with_reducible refine (path_Join.calls k2 _ _ y460 t463 t464 _ ?side1 ?side2 A38.out).mono ?_); (case side1 => repeat (first | exact (Kd.R_reads' HO462.out).2.2 | (with_reducible refine Kd.C_alloc ?_ _) | (with_reducible refine Kd.C_drewN ?_ _) | (with_reducible refine Kd.C_drew ?_))); (case side2 => exact (Kd.R_reads' HO462.out).2.1); rintro e w45 ⟨rfl, hb⟩; have n0_ := Aside0.mk (Kd.V_below (by (with_reducible repeat (first | apply Kd.V_alloc | apply Kd.V_drewN | apply Kd.V_drew)); exact HO_1.out) hb); replace HO459 := rb_ HO459 hb; replace HO462 := rb_ HO462 hb; replace BK432 := bb_ BK432 hb; replace HB := hs_ HB hb; clear HO_1; have HO_1 := n0_; clear n0_; (try clear hb))); try go_wp2_with (first | (go_at_call 61; (with_reducible refine (strings_Split.calls (rdOf ByteArray.empty x1_2 0) (⟨#[47]⟩ : ByteArray) t457 _ A36.out).mono ?_); rintro e w41 ⟨v458, rfl, ho0, hb⟩; have n0_ := Aside0.mk (Kd.V_elder' (by (with_reducible repeat (first | apply Kd.V_alloc | apply Kd.V_drewN | apply Kd.V_drew)); exact HO_1.out) (Kd.R_base ho0) hb); have n1_ := Aside0.mk (Kd.R_elder' (rp_ HO_10) (Kd.R_base ho0) hb); have n2_ := Aside0.mk (Kd.R_lower (Kd.R_new' (Kd.R_newM (M := fun k_ => (w.heap.size ≤ k_)) ho0 (below_size hb_) (fun k_ h_ => h_)) (Kd.R_lt (rp_ HO_10))) (below_size hb_)); replace BK432 := bb_ BK432 hb; replace HB := hs_ HB hb; clear HO_1 HO_10; have HO_1 := n0_; have HO_10 := n1_; have HO459 := n2_; clear n0_ n1_ n2_; (try clear hb); (try clear ho0); obtain ⟨Ao43, co43, eo43⟩ := Kd.R_slice HO459.out; subst eo43) | ((with_reducible refine gate_builtin (b := .append) (xs := #[.tmp 69, .tmp 73]) rfl ?_); at_builtin; refine Kd.R_append_rows Kd.string (w0 := w) w.heap.size rfl (.tmp 69) (.tmp 73) 22 9 (.string ⟨#[]⟩) 16 rfl Tryd.underlying22 info9 rfl (by decide) (by omega) u10 x10_2 t457 _ _ _ (fun k_ => (w.heap.size ≤ k_) ∧ some k_ ≠ (.slice Ao43 t457.length co43 : Value).ownBlock) (fun _ => False) rfl rfl ?aO ?aR (fun _ _ h => h) (fun _ h => h.elim) ?aF ?aB ?aS ?aL ?_; (case aR => repeat (first | exact (Kd.R_reads' HO459.out).2.2 | (with_reducible refine Kd.C_alloc ?_ _) | (with_reducible refine Kd.C_drewN ?_ _) | (with_reducible refine Kd.C_drew ?_))); (case aB => exact hb_); (case aF => exact (fun k_ hk => ⟨(Nat.le_trans (below_size hb_) hk), Kd.fresh' (Kd.R_lt (rp_ HO459)) k_ hk⟩)); (case aO => exact (rp_ HO_10)); (case aS => exact (below_size hb_)); (case aL => have := LMc37.out; omega); intro v461 w42 ho hb hg hat; rw [← Ny460.out] at ho; have n0_ := Aside0.mk (Kd.V_afterv (ok := (fun k_ => (P1_ k_ ∨ w.heap.size ≤ k_) ∧ some k_ ≠ (.slice Ao43 t457.length co43 : Value).ownBlock ∧ k_ ≠ gb432)) (by (with_reducible repeat (first | apply Kd.V_alloc | apply Kd.V_drewN | apply Kd.V_drew)); exact Kd.V_mono HO_1.out (fun _ hk => ⟨⟨hk.1.1, ⟨hk.2, hk.1.2.2⟩⟩, hk.1.2.1⟩)) hg hat); have n1_ := Aside0.mk (blk_grown (g := gb432) (o := .cells #[.slice A0_0 l0_0.length c0_0, .bool a0_1] 24 (0, 0)) bk_ hg (Kd.R_ne HO_10.out BK432.out (by decide))); have n2_ := Aside0.mk (Kd.R_after (ok := (fun k_ => (w.heap.size ≤ k_))) (by (with_reducible repeat (first | apply Kd.R_alloc | apply Kd.R_drewN | apply Kd.R_drew)); exact Kd.R_mono HO459.out (fun _ hk => ⟨hk.1.1, hk.2⟩)) hg hat); have n3_ := Aside0.mk (hb); have n4_ := Aside0.mk (ho); clear HO_1 BK432 HO459 HB HO_10; have HO_1 := n0_; have BK432 := n1_; have HO459 := n2_; have HB := n3_; have HO462 := n4_; clear n0_ n1_ n2_ n3_ n4_; clear ho hb hg hat; obtain ⟨Ao44, co44, eo44⟩ := Kd.R_slice HO462.out; subst eo44) | (go_at_call 70; (with_reducible refine (path_Join.calls k2 _ _ y460 t463 t464 _ ?side1 ?side2 A38.out).mono ?_); (case side1 => repeat (first | exact (Kd.R_reads' HO462.out).2.2 | (with_reducible refine Kd.C_alloc ?_ _) | (with_reducible refine Kd.C_drewN ?_ _) | (with_reducible refine Kd.C_drew ?_))); (case side2 => exact (Kd.R_reads' HO462.out).2.1); rintro e w45 ⟨rfl, hb⟩; have n0_ := Aside0.mk (Kd.V_below (by (with_reducible repeat (first | apply Kd.V_alloc | apply Kd.V_drewN | apply Kd.V_drew)); exact HO_1.out) hb); replace HO459 := rb_ HO459 hb; replace HO462 := rb_ HO462 hb; replace BK432 := bb_ BK432 hb; replace HB := hs_ HB hb; clear HO_1; have HO_1 := n0_; clear n0_; (try clear hb))))
              go_ret2
              exact ⟨rt_, hb_⟩
             ·rw [if_neg c39] at H
              have c39b0 := beq_eq_false_iff_ne.mpr c39
              have c39b1 := bne_iff_ne.mpr c39
              simp only [Option.some.injEq, Prod.mk.injEq] at H
              obtain ⟨rfl, rfl⟩ := H
              obtain ⟨Ao46, co46, eo46⟩ := Kd.V_slice HO_1.out
              subst eo46
              have p456 : 0 ≤ (0 : Int) := (by omega)
              have q456 : 0 < (x1_2.length : Int) := of_decide_eq_true as_
              obtain ⟨ad456, e456, hx456_0⟩ := Kd.at_string (Kd.V_reads' HO_1.out).2.2 0 p456 q456
              cases e456
              have qi456 : (0 < x1_2.length) = True := eq_true (by omega)
              (try rw [show ((0 : Int)).toNat = 0 from rfl] at hx456_0)
              (try rw [Addr.add_zero'] at hx456_0)
              replace p456 := eq_true p456
              replace q456 := eq_true q456
              go_wp2_with (first | (go_at_call 61; (with_reducible refine (strings_Split.calls (rdOf ByteArray.empty x1_2 0) (⟨#[47]⟩ : ByteArray) t457 _ A36.out).mono ?_); rintro e w47 ⟨v458, rfl, ho0, hb⟩; have n0_ := Aside0.mk (Kd.V_elder' (by (with_reducible repeat (first | apply Kd.V_alloc | apply Kd.V_drewN | apply Kd.V_drew)); exact HO_1.out) (Kd.R_base ho0) hb); have n1_ := Aside0.mk (Kd.R_elder' (rp_ HO_10) (Kd.R_base ho0) hb); have n2_ := Aside0.mk (Kd.R_lower (Kd.R_new' (Kd.R_newM (M := fun k_ => (w.heap.size ≤ k_)) ho0 (below_size hb_) (fun k_ h_ => h_)) (Kd.R_lt (rp_ HO_10))) (below_size hb_)); replace BK432 := bb_ BK432 hb; replace HB := hs_ HB hb; clear HO_1 HO_10; have HO_1 := n0_; have HO_10 := n1_; have HO459 := n2_; clear n0_ n1_ n2_; (try clear hb); (try clear ho0); obtain ⟨Ao49, co49, eo49⟩ := Kd.R_slice HO459.out; subst eo49) | ((with_reducible refine gate_builtin (b := .append) (xs := #[.tmp 69, .tmp 73]) rfl ?_); at_builtin; refine Kd.R_append_rows Kd.string (w0 := w) w.heap.size rfl (.tmp 69) (.tmp 73) 22 9 (.string ⟨#[]⟩) 16 rfl Tryd.underlying22 info9 rfl (by decide) (by omega) u10 x10_2 t457 _ _ _ (fun k_ => (w.heap.size ≤ k_) ∧ some k_ ≠ (.slice Ao49 t457.length co49 : Value).ownBlock) (fun _ => False) rfl rfl ?aO ?aR (fun _ _ h => h) (fun _ h => h.elim) ?aF ?aB ?aS ?aL ?_; (case aR => repeat (first | exact (Kd.R_reads' HO459.out).2.2 | (with_reducible refine Kd.C_alloc ?_ _) | (with_reducible refine Kd.C_drewN ?_ _) | (with_reducible refine Kd.C_drew ?_))); (case aB => exact hb_); (case aF => exact (fun k_ hk => ⟨(Nat.le_trans (below_size hb_) hk), Kd.fresh' (Kd.R_lt (rp_ HO459)) k_ hk⟩)); (case aO => exact (rp_ HO_10)); (case aS => exact (below_size hb_)); (case aL => have := LMc37.out; omega); intro v461 w48 ho hb hg hat; rw [← Ny460.out] at ho; have n0_ := Aside0.mk (Kd.V_afterv (ok := (fun k_ => (P1_ k_ ∨ w.heap.size ≤ k_) ∧ some k_ ≠ (.slice Ao49 t457.length co49 : Value).ownBlock ∧ k_ ≠ gb432)) (by (with_reducible repeat (first | apply Kd.V_alloc | apply Kd.V_drewN | apply Kd.V_drew)); exact Kd.V_mono HO_1.out (fun _ hk => ⟨⟨hk.1.1, ⟨hk.2, hk.1.2.2⟩⟩, hk.1.2.1⟩)) hg hat); have n1_ := Aside0.mk (blk_grown (g := gb432) (o := .cells #[.slice A0_0 l0_0.length c0_0, .bool a0_1] 24 (0, 0)) bk_ hg (Kd.R_ne HO_10.out BK432.out (by decide))); have n2_ := Aside0.mk (Kd.R_after (ok := (fun k_ => (w.heap.size ≤ k_))) (by (with_reducible repeat (first | apply Kd.R_alloc | apply Kd.R_drewN | apply Kd.R_drew)); exact Kd.R_mono HO459.out (fun _ hk => ⟨hk.1.1, hk.2⟩)) hg hat); have n3_ := Aside0.mk (hb); have n4_ := Aside0.mk (ho); clear HO_1 BK432 HO459 HB HO_10; have HO_1 := n0_; have BK432 := n1_; have HO459 := n2_; have HB := n3_; have HO462 := n4_; clear n0_ n1_ n2_ n3_ n4_; clear ho hb hg hat; obtain ⟨Ao50, co50, eo50⟩ := Kd.R_slice HO462.out; subst eo50) | (go_at_call 70; (with_reducible refine (path_Join.calls k2 _ _ y460 t463 t464 _ ?side1 ?side2 A38.out).mono ?_); (case side1 => repeat (first | exact (Kd.R_reads' HO462.out).2.2 | (with_reducible refine Kd.C_alloc ?_ _) | (with_reducible refine Kd.C_drewN ?_ _) | (with_reducible refine Kd.C_drew ?_))); (case side2 => exact (Kd.R_reads' HO462.out).2.1); rintro e w51 ⟨rfl, hb⟩; have n0_ := Aside0.mk (Kd.V_below (by (with_reducible repeat (first | apply Kd.V_alloc | apply Kd.V_drewN | apply Kd.V_drew)); exact HO_1.out) hb); replace HO459 := rb_ HO459 hb; replace HO462 := rb_ HO462 hb; replace BK432 := bb_ BK432 hb; replace HB := hs_ HB hb; clear HO_1; have HO_1 := n0_; clear n0_; (try clear hb)))
              repeat (go_quiet (first | (go_at_call 61; (with_reducible refine (strings_Split.calls (rdOf ByteArray.empty x1_2 0) (⟨#[47]⟩ : ByteArray) t457 _ A36.out).mono ?_); rintro e w47 ⟨v458, rfl, ho0, hb⟩; have n0_ := Aside0.mk (Kd.V_elder' (by (with_reducible repeat (first | apply Kd.V_alloc | apply Kd.V_drewN | apply Kd.V_drew)); exact HO_1.out) (Kd.R_base ho0) hb); have n1_ := Aside0.mk (Kd.R_elder' (rp_ HO_10) (Kd.R_base ho0) hb); have n2_ := Aside0.mk (Kd.R_lower (Kd.R_new' (Kd.R_newM (M := fun k_ => (w.heap.size ≤ k_)) ho0 (below_size hb_) (fun k_ h_ => h_)) (Kd.R_lt (rp_ HO_10))) (below_size hb_)); replace BK432 := bb_ BK432 hb; replace HB := hs_ HB hb; clear HO_1 HO_10; have HO_1 := n0_; have HO_10 := n1_; have HO459 := n2_; clear n0_ n1_ n2_; (try clear hb); (try clear ho0); obtain ⟨Ao49, co49, eo49⟩ := Kd.R_slice HO459.out; subst eo49) | ((with_reducible refine gate_builtin (b := .append) (xs := #[.tmp 69, .tmp 73]) rfl ?_); at_builtin; refine Kd.R_append_rows Kd.string (w0 := w) w.heap.size rfl (.tmp 69) (.tmp 73) 22 9 (.string ⟨#[]⟩) 16 rfl Tryd.underlying22 info9 rfl (by decide) (by omega) u10 x10_2 t457 _ _ _ (fun k_ => (w.heap.size ≤ k_) ∧ some k_ ≠ (.slice Ao49 t457.length co49 : Value).ownBlock) (fun _ => False) rfl rfl ?aO ?aR (fun _ _ h => h) (fun _ h => h.elim) ?aF ?aB ?aS ?aL ?_; (case aR => repeat (first | exact (Kd.R_reads' HO459.out).2.2 | (with_reducible refine Kd.C_alloc ?_ _) | (with_reducible refine Kd.C_drewN ?_ _) | (with_reducible refine Kd.C_drew ?_))); (case aB => exact hb_); (case aF => exact (fun k_ hk => ⟨(Nat.le_trans (below_size hb_) hk), Kd.fresh' (Kd.R_lt (rp_ HO459)) k_ hk⟩)); (case aO => exact (rp_ HO_10)); (case aS => exact (below_size hb_)); (case aL => have := LMc37.out; omega); intro v461 w48 ho hb hg hat; rw [← Ny460.out] at ho; have n0_ := Aside0.mk (Kd.V_afterv (ok := (fun k_ => (P1_ k_ ∨ w.heap.size ≤ k_) ∧ some k_ ≠ (.slice Ao49 t457.length co49 : Value).ownBlock ∧ k_ ≠ gb432)) (by (with_reducible repeat (first | apply Kd.V_alloc | apply Kd.V_drewN | apply Kd.V_drew)); exact Kd.V_mono HO_1.out (fun _ hk => ⟨⟨hk.1.1, ⟨hk.2, hk.1.2.2⟩⟩, hk.1.2.1⟩)) hg hat); have n1_ := Aside0.mk (blk_grown (g := gb432) (o := .cells #[.slice A0_0 l0_0.length c0_0, .bool a0_1] 24 (0, 0)) bk_ hg (Kd.R_ne HO_10.out BK432.out (by decide))); have n2_ := Aside0.mk (Kd.R_after (ok := (fun k_ => (w.heap.size ≤ k_))) (by (with_reducible repeat (first | apply Kd.R_alloc | apply Kd.R_drewN | apply Kd.R_drew)); exact Kd.R_mono HO459.out (fun _ hk => ⟨hk.1.1, hk.2⟩)) hg hat); have n3_ := Aside0.mk (hb); have n4_ := Aside0.mk (ho); clear HO_1 BK432 HO459 HB HO_10; have HO_1 := n0_; have BK432 := n1_; have HO459 := n2_; have HB := n3_; have HO462 := n4_; clear n0_ n1_ n2_ n3_ n4_; clear ho hb hg hat; obtain ⟨Ao50, co50, eo50⟩ := Kd.R_slice HO462.out; subst eo50) | (go_at_call 70; (with_reducible refine (path_Join.calls k2 _ _ y460 t463 t464 _ ?side1 ?side2 A38.out).mono ?_); (case side1 => repeat (first | exact (Kd.R_reads' HO462.out).2.2 | (with_reducible refine Kd.C_alloc ?_ _) | (with_reducible refine Kd.C_drewN ?_ _) | (with_reducible refine Kd.C_drew ?_))); (case side2 => exact (Kd.R_reads' HO462.out).2.1); rintro e w51 ⟨rfl, hb⟩; have n0_ := Aside0.mk (Kd.V_below (by (with_reducible repeat (first | apply Kd.V_alloc | apply Kd.V_drewN | apply Kd.V_drew)); exact HO_1.out) hb); replace HO459 := rb_ HO459 hb; replace HO462 := rb_ HO462 hb; replace BK432 := bb_ BK432 hb; replace HB := hs_ HB hb; clear HO_1; have HO_1 := n0_; clear n0_; (try clear hb))); try go_wp2_with (first | (go_at_call 61; (with_reducible refine (strings_Split.calls (rdOf ByteArray.empty x1_2 0) (⟨#[47]⟩ : ByteArray) t457 _ A36.out).mono ?_); rintro e w47 ⟨v458, rfl, ho0, hb⟩; have n0_ := Aside0.mk (Kd.V_elder' (by (with_reducible repeat (first | apply Kd.V_alloc | apply Kd.V_drewN | apply Kd.V_drew)); exact HO_1.out) (Kd.R_base ho0) hb); have n1_ := Aside0.mk (Kd.R_elder' (rp_ HO_10) (Kd.R_base ho0) hb); have n2_ := Aside0.mk (Kd.R_lower (Kd.R_new' (Kd.R_newM (M := fun k_ => (w.heap.size ≤ k_)) ho0 (below_size hb_) (fun k_ h_ => h_)) (Kd.R_lt (rp_ HO_10))) (below_size hb_)); replace BK432 := bb_ BK432 hb; replace HB := hs_ HB hb; clear HO_1 HO_10; have HO_1 := n0_; have HO_10 := n1_; have HO459 := n2_; clear n0_ n1_ n2_; (try clear hb); (try clear ho0); obtain ⟨Ao49, co49, eo49⟩ := Kd.R_slice HO459.out; subst eo49) | ((with_reducible refine gate_builtin (b := .append) (xs := #[.tmp 69, .tmp 73]) rfl ?_); at_builtin; refine Kd.R_append_rows Kd.string (w0 := w) w.heap.size rfl (.tmp 69) (.tmp 73) 22 9 (.string ⟨#[]⟩) 16 rfl Tryd.underlying22 info9 rfl (by decide) (by omega) u10 x10_2 t457 _ _ _ (fun k_ => (w.heap.size ≤ k_) ∧ some k_ ≠ (.slice Ao49 t457.length co49 : Value).ownBlock) (fun _ => False) rfl rfl ?aO ?aR (fun _ _ h => h) (fun _ h => h.elim) ?aF ?aB ?aS ?aL ?_; (case aR => repeat (first | exact (Kd.R_reads' HO459.out).2.2 | (with_reducible refine Kd.C_alloc ?_ _) | (with_reducible refine Kd.C_drewN ?_ _) | (with_reducible refine Kd.C_drew ?_))); (case aB => exact hb_); (case aF => exact (fun k_ hk => ⟨(Nat.le_trans (below_size hb_) hk), Kd.fresh' (Kd.R_lt (rp_ HO459)) k_ hk⟩)); (case aO => exact (rp_ HO_10)); (case aS => exact (below_size hb_)); (case aL => have := LMc37.out; omega); intro v461 w48 ho hb hg hat; rw [← Ny460.out] at ho; have n0_ := Aside0.mk (Kd.V_afterv (ok := (fun k_ => (P1_ k_ ∨ w.heap.size ≤ k_) ∧ some k_ ≠ (.slice Ao49 t457.length co49 : Value).ownBlock ∧ k_ ≠ gb432)) (by (with_reducible repeat (first | apply Kd.V_alloc | apply Kd.V_drewN | apply Kd.V_drew)); exact Kd.V_mono HO_1.out (fun _ hk => ⟨⟨hk.1.1, ⟨hk.2, hk.1.2.2⟩⟩, hk.1.2.1⟩)) hg hat); have n1_ := Aside0.mk (blk_grown (g := gb432) (o := .cells #[.slice A0_0 l0_0.length c0_0, .bool a0_1] 24 (0, 0)) bk_ hg (Kd.R_ne HO_10.out BK432.out (by decide))); have n2_ := Aside0.mk (Kd.R_after (ok := (fun k_ => (w.heap.size ≤ k_))) (by (with_reducible repeat (first | apply Kd.R_alloc | apply Kd.R_drewN | apply Kd.R_drew)); exact Kd.R_mono HO459.out (fun _ hk => ⟨hk.1.1, hk.2⟩)) hg hat); have n3_ := Aside0.mk (hb); have n4_ := Aside0.mk (ho); clear HO_1 BK432 HO459 HB HO_10; have HO_1 := n0_; have BK432 := n1_; have HO459 := n2_; have HB := n3_; have HO462 := n4_; clear n0_ n1_ n2_ n3_ n4_; clear ho hb hg hat; obtain ⟨Ao50, co50, eo50⟩ := Kd.R_slice HO462.out; subst eo50) | (go_at_call 70; (with_reducible refine (path_Join.calls k2 _ _ y460 t463 t464 _ ?side1 ?side2 A38.out).mono ?_); (case side1 => repeat (first | exact (Kd.R_reads' HO462.out).2.2 | (with_reducible refine Kd.C_alloc ?_ _) | (with_reducible refine Kd.C_drewN ?_ _) | (with_reducible refine Kd.C_drew ?_))); (case side2 => exact (Kd.R_reads' HO462.out).2.1); rintro e w51 ⟨rfl, hb⟩; have n0_ := Aside0.mk (Kd.V_below (by (with_reducible repeat (first | apply Kd.V_alloc | apply Kd.V_drewN | apply Kd.V_drew)); exact HO_1.out) hb); replace HO459 := rb_ HO459 hb; replace HO462 := rb_ HO462 hb; replace BK432 := bb_ BK432 hb; replace HB := hs_ HB hb; clear HO_1; have HO_1 := n0_; clear n0_; (try clear hb))))
              go_ret2
              exact ⟨rt_, hb_⟩
            ·rw [if_neg c37] at H
             exact absurd H (by simp)
           ·rw [if_neg c35] at H
            exact absurd H (by simp)
          ·replace c34 := Bool.eq_false_iff.mpr c34
           subst c34
           replace H := in_ H
           replace H := Option.bind_eq_some_iff.mp H
           obtain ⟨⟨t465, t466⟩, A520, H⟩ := H
           replace H : (if t466 = 0 then (some (t465, 0)) else (some ((⟨#[]⟩ : ByteArray), 32))) = some (r1, r2) := H
           have A52 := Aside0.mk A520
           clear A520
           by_cases c53 : t466 = 0
           rw [if_pos c53] at H
           have c53b0 := beq_iff_eq.mpr c53
           have c53b1 := bne_eq_false_iff_eq.mpr c53
           clear c53
           simp only [Option.some.injEq, Prod.mk.injEq] at H
           obtain ⟨rfl, rfl⟩ := H
           obtain ⟨Ao54, co54, eo54⟩ := Kd.R_slice HO_10.out
           subst eo54
           rotate_left
           rw [if_neg c53] at H
           have c53b0 := beq_eq_false_iff_ne.mpr c53
           have c53b1 := bne_iff_ne.mpr c53
           simp only [Option.some.injEq, Prod.mk.injEq] at H
           obtain ⟨rfl, rfl⟩ := H
           obtain ⟨Ao54, co54, eo54⟩ := Kd.R_slice HO_10.out
           subst eo54
           rotate_left
           all_goals go_wp2_with (first | (go_at_call 70; (with_reducible refine (path_Join.calls k2 _ _ x10_2 t465 t466 _ ?side1 ?side2 A52.out).mono ?_); (case side1 => repeat (first | exact (Kd.R_reads' HO_10.out).2.2 | (with_reducible refine Kd.C_alloc ?_ _) | (with_reducible refine Kd.C_drewN ?_ _) | (with_reducible refine Kd.C_drew ?_))); (case side2 => exact (Kd.R_reads' HO_10.out).2.1); rintro e w55 ⟨rfl, hb⟩; have n0_ := Aside0.mk (Kd.V_below (by (with_reducible repeat (first | apply Kd.V_alloc | apply Kd.V_drewN | apply Kd.V_drew)); exact HO_1.out) hb); replace HO_10 := rb_ HO_10 hb; replace BK432 := bb_ BK432 hb; replace HB := hs_ HB hb; clear HO_1; have HO_1 := n0_; clear n0_; (try clear hb)))
           all_goals repeat (go_quiet (first | (go_at_call 70; (with_reducible refine (path_Join.calls k2 _ _ x10_2 t465 t466 _ ?side1 ?side2 A52.out).mono ?_); (case side1 => repeat (first | exact (Kd.R_reads' HO_10.out).2.2 | (with_reducible refine Kd.C_alloc ?_ _) | (with_reducible refine Kd.C_drewN ?_ _) | (with_reducible refine Kd.C_drew ?_))); (case side2 => exact (Kd.R_reads' HO_10.out).2.1); rintro e w55 ⟨rfl, hb⟩; have n0_ := Aside0.mk (Kd.V_below (by (with_reducible repeat (first | apply Kd.V_alloc | apply Kd.V_drewN | apply Kd.V_drew)); exact HO_1.out) hb); replace HO_10 := rb_ HO_10 hb; replace BK432 := bb_ BK432 hb; replace HB := hs_ HB hb; clear HO_1; have HO_1 := n0_; clear n0_; (try clear hb))); try go_wp2_with (first | (go_at_call 70; (with_reducible refine (path_Join.calls k2 _ _ x10_2 t465 t466 _ ?side1 ?side2 A52.out).mono ?_); (case side1 => repeat (first | exact (Kd.R_reads' HO_10.out).2.2 | (with_reducible refine Kd.C_alloc ?_ _) | (with_reducible refine Kd.C_drewN ?_ _) | (with_reducible refine Kd.C_drew ?_))); (case side2 => exact (Kd.R_reads' HO_10.out).2.1); rintro e w55 ⟨rfl, hb⟩; have n0_ := Aside0.mk (Kd.V_below (by (with_reducible repeat (first | apply Kd.V_alloc | apply Kd.V_drewN | apply Kd.V_drew)); exact HO_1.out) hb); replace HO_10 := rb_ HO_10 hb; replace BK432 := bb_ BK432 hb; replace HB := hs_ HB hb; clear HO_1; have HO_1 := n0_; clear n0_; (try clear hb))))
           ·go_ret2
            exact ⟨rt_, hb_⟩
           ·go_ret2
            exact ⟨rt_, hb_⟩
      ·rw [if_neg c12] at H
       exact absurd H (by simp)
     ·rw [if_neg c11] at H
      exact absurd H (by simp)
    ·rw [if_neg c10] at H
     have c10b0 := beq_eq_false_iff_ne.mpr c10
     have c10b1 := bne_iff_ne.mpr c10
     simp only [Option.some.injEq, Prod.mk.injEq] at H
     obtain ⟨rfl, rfl⟩ := H
     go_wp2
     repeat (go_quiet (fail); try go_wp2)
     go_ret2
     exact ⟨rt_, hb_⟩
 ·rw [if_neg c4] at H
  have c4b0 := beq_eq_false_iff_ne.mpr c4
  have c4b1 := bne_iff_ne.mpr c4
  simp only [Option.some.injEq, Prod.mk.injEq] at H
  obtain ⟨rfl, rfl⟩ := H
  go_enter Tryd.func47, Tryd.ntmps47
  go_wp2_with (first | ((with_reducible refine gate_dst (N := 2) rfl ?_); refine box_event ?hg (N := 2) ?hd (cs := #[.slice A0_0 l0_0.length c0_0, .bool a0_1]) (t := 24) ?hr ?_; (case hd => rfl); (case hg => rfl); (case hr => first | (go_simp; done) | (go_simp; rfl)); intro gb432 hg w58 hbox hb; have n0_ := Aside0.mk (Kd.V_below (Kd.V_elderB (by (with_reducible repeat (first | apply Kd.V_alloc | apply Kd.V_drewN | apply Kd.V_drew)); exact HO1.out) gb432 (Nat.le_of_eq hg.symm)) hb); have BK432 := Aside0.mk hbox; have GW432 := gw_ HB hg; have GE432 := gw_ HB hg; replace HB := hs_ HB hb; clear HO1; have HO1 := n0_; clear n0_; clear hb hbox hg; obtain ⟨hcz59_0, hcz59_1, hfz59_0, hfz59_1⟩ := c2_ BK432) | (go_at_call 37; (with_reducible refine (pattern_Kinds.calls k _ _ l0_0 a0_1 t433 t434 t435 _ ?side1 ?side2 A3.out).mono ?_); (case side1 => exact sd_); (case side2 => exact HC0_0.out); rintro e w60 ⟨rfl, hb⟩; have n0_ := Aside0.mk (Kd.V_below (by (with_reducible repeat (first | apply Kd.V_alloc | apply Kd.V_drewN | apply Kd.V_drew)); exact HO1.out) hb); replace BK432 := bb_ BK432 hb; replace HB := hs_ HB hb; clear HO1; have HO1 := n0_; clear n0_; (try clear hb)))
  repeat (go_quiet (first | ((with_reducible refine gate_dst (N := 2) rfl ?_); refine box_event ?hg (N := 2) ?hd (cs := #[.slice A0_0 l0_0.length c0_0, .bool a0_1]) (t := 24) ?hr ?_; (case hd => rfl); (case hg => rfl); (case hr => first | (go_simp; done) | (go_simp; rfl)); intro gb432 hg w58 hbox hb; have n0_ := Aside0.mk (Kd.V_below (Kd.V_elderB (by (with_reducible repeat (first | apply Kd.V_alloc | apply Kd.V_drewN | apply Kd.V_drew)); exact HO1.out) gb432 (Nat.le_of_eq hg.symm)) hb); have BK432 := Aside0.mk hbox; have GW432 := gw_ HB hg; have GE432 := gw_ HB hg; replace HB := hs_ HB hb; clear HO1; have HO1 := n0_; clear n0_; clear hb hbox hg; obtain ⟨hcz59_0, hcz59_1, hfz59_0, hfz59_1⟩ := c2_ BK432) | (go_at_call 37; (with_reducible refine (pattern_Kinds.calls k _ _ l0_0 a0_1 t433 t434 t435 _ ?side1 ?side2 A3.out).mono ?_); (case side1 => exact sd_); (case side2 => exact HC0_0.out); rintro e w60 ⟨rfl, hb⟩; have n0_ := Aside0.mk (Kd.V_below (by (with_reducible repeat (first | apply Kd.V_alloc | apply Kd.V_drewN | apply Kd.V_drew)); exact HO1.out) hb); replace BK432 := bb_ BK432 hb; replace HB := hs_ HB hb; clear HO1; have HO1 := n0_; clear n0_; (try clear hb))); try go_wp2_with (first | ((with_reducible refine gate_dst (N := 2) rfl ?_); refine box_event ?hg (N := 2) ?hd (cs := #[.slice A0_0 l0_0.length c0_0, .bool a0_1]) (t := 24) ?hr ?_; (case hd => rfl); (case hg => rfl); (case hr => first | (go_simp; done) | (go_simp; rfl)); intro gb432 hg w58 hbox hb; have n0_ := Aside0.mk (Kd.V_below (Kd.V_elderB (by (with_reducible repeat (first | apply Kd.V_alloc | apply Kd.V_drewN | apply Kd.V_drew)); exact HO1.out) gb432 (Nat.le_of_eq hg.symm)) hb); have BK432 := Aside0.mk hbox; have GW432 := gw_ HB hg; have GE432 := gw_ HB hg; replace HB := hs_ HB hb; clear HO1; have HO1 := n0_; clear n0_; clear hb hbox hg; obtain ⟨hcz59_0, hcz59_1, hfz59_0, hfz59_1⟩ := c2_ BK432) | (go_at_call 37; (with_reducible refine (pattern_Kinds.calls k _ _ l0_0 a0_1 t433 t434 t435 _ ?side1 ?side2 A3.out).mono ?_); (case side1 => exact sd_); (case side2 => exact HC0_0.out); rintro e w60 ⟨rfl, hb⟩; have n0_ := Aside0.mk (Kd.V_below (by (with_reducible repeat (first | apply Kd.V_alloc | apply Kd.V_drewN | apply Kd.V_drew)); exact HO1.out) hb); replace BK432 := bb_ BK432 hb; replace HB := hs_ HB hb; clear HO1; have HO1 := n0_; clear n0_; (try clear hb))))
  go_ret2
  exact ⟨rt_, hb_⟩

/-! ### rule_Forward: function 24 -/
def rule_Forward.f (k : Nat) (a0_0 : Bool) (l0_1 : List ByteArray) (a0_2 : Bool) (l0_3 : List ByteArray) (a0_4 : Bool) (a1 : ByteArray) : Option (ByteArray × Bool) := (rule_Check.f k a0_0 l0_1 a0_2 l0_3 a0_4).bind fun t468 => (if t468 = 0 then ((pattern_Match.f k l0_1 a0_2 a1).bind fun bt469 => (if bt469.2 = true then ((pattern_Fill.f k l0_3 a0_4 bt469.1).bind fun bt473 => (some (bt473.1, (bt473.2 == 0)))) else (some ((⟨#[]⟩ : ByteArray), false)))) else (some ((⟨#[]⟩ : ByteArray), false)))
set_option maxHeartbeats 8000000 in
set_option maxRecDepth 100000 in
theorem rule_Forward.calls (k : Nat) (a0_0 : Bool) (A0_1 : Option Addr) (c0_1 : Nat) (l0_1 : List ByteArray) (a0_2 : Bool) (A0_3 : Option Addr) (c0_3 : Nat) (l0_3 : List ByteArray) (a0_4 : Bool) (a1 : ByteArray) (r1 : ByteArray) (r2 : Bool) (w : World) (hr0_1 : Kd.C Kd.string w A0_1 l0_1.length l0_1) (hc0_1 : l0_1.length ≤ c0_1) (hr0_3 : Kd.C Kd.string w A0_3 l0_3.length l0_3) (hc0_3 : l0_3.length ≤ c0_3) (h : rule_Forward.f k a0_0 l0_1 a0_2 l0_3 a0_4 a1 = some (r1, r2)) :
  Calls Tryd.prog 24 #[.agg #[.bool a0_0, .slice A0_1 l0_1.length c0_1, .bool a0_2, .slice A0_3 l0_3.length c0_3, .bool a0_4], .string a1] w fun e w' => e = .returned (.tuple #[.string r1, .bool r2]) ∧ Below w.heap.size w w' := by
 have hu39 := Tryd.underlying39
 have hu24 := Tryd.underlying24
 have HR0_1 := Aside0.mk hr0_1
 have HC0_1 := Aside0.mk hc0_1
 clear hr0_1 hc0_1
 have HR0_3 := Aside0.mk hr0_3
 have HC0_3 := Aside0.mk hc0_3
 clear hr0_3 hc0_3
 have HB := Aside0.mk (Below.refl w.heap.size w)
 have H : ((rule_Check.f k a0_0 l0_1 a0_2 l0_3 a0_4).bind fun t468 => (if t468 = 0 then ((pattern_Match.f k l0_1 a0_2 a1).bind fun bt469 => (if bt469.2 = true then ((pattern_Fill.f k l0_3 a0_4 bt469.1).bind fun bt473 => (some (bt473.1, (bt473.2 == 0)))) else (some ((⟨#[]⟩ : ByteArray), false)))) else (some ((⟨#[]⟩ : ByteArray), false)))) = some (r1, r2) := h
 clear h
 replace H := Option.bind_eq_some_iff.mp H
 obtain ⟨t468, A30, H⟩ := H
 replace H : (if t468 = 0 then ((pattern_Match.f k l0_1 a0_2 a1).bind fun bt469 => (if bt469.2 = true then ((pattern_Fill.f k l0_3 a0_4 bt469.1).bind fun bt473 => (some (bt473.1, (bt473.2 == 0)))) else (some ((⟨#[]⟩ : ByteArray), false)))) else (some ((⟨#[]⟩ : ByteArray), false))) = some (r1, r2) := H
 have A3 := Aside0.mk A30
 clear A30
 by_cases c4 : t468 = 0
 rw [if_pos c4] at H
 have c4b0 := beq_iff_eq.mpr c4
 have c4b1 := bne_eq_false_iff_eq.mpr c4
 clear c4
 replace H := Option.bind_eq_some_iff.mp H
 obtain ⟨⟨t469, t472⟩, A50, H⟩ := H
 replace H : (if t472 = true then ((pattern_Fill.f k l0_3 a0_4 t469).bind fun bt473 => (some (bt473.1, (bt473.2 == 0)))) else (some ((⟨#[]⟩ : ByteArray), false))) = some (r1, r2) := H
 have A5 := Aside0.mk A50
 clear A50
 by_cases c6 : t472 = true
 subst c6
 replace H := ip_ H
 replace H := Option.bind_eq_some_iff.mp H
 obtain ⟨⟨t473, t474⟩, A70, H⟩ := H
 replace H : (some (t473, (t474 == 0))) = some (r1, r2) := H
 have A7 := Aside0.mk A70
 clear A70
 simp only [Option.some.injEq, Prod.mk.injEq] at H
 obtain ⟨rfl, rfl⟩ := H
 go_enter Tryd.func24, Tryd.ntmps24
 rotate_left
 replace c6 := Bool.eq_false_iff.mpr c6
 subst c6
 replace H := in_ H
 simp only [Option.some.injEq, Prod.mk.injEq] at H
 obtain ⟨rfl, rfl⟩ := H
 go_enter Tryd.func24, Tryd.ntmps24
 rotate_left
 rw [if_neg c4] at H
 have c4b0 := beq_eq_false_iff_ne.mpr c4
 have c4b1 := bne_iff_ne.mpr c4
 simp only [Option.some.injEq, Prod.mk.injEq] at H
 obtain ⟨rfl, rfl⟩ := H
 go_enter Tryd.func24, Tryd.ntmps24
 rotate_left
 all_goals go_wp2_with (first | ((with_reducible refine gate_dst (N := 2) rfl ?_); refine box_event ?hg (N := 2) ?hd (cs := #[.bool a0_0, .slice A0_1 l0_1.length c0_1, .bool a0_2, .slice A0_3 l0_3.length c0_3, .bool a0_4]) (t := 39) ?hr ?_; (case hd => rfl); (case hg => rfl); (case hr => first | (go_simp; done) | (go_simp; rfl)); intro gb467 hg w8 hbox hb; have BK467 := Aside0.mk hbox; have GW467 := gw_ HB hg; have GE467 := gw_ HB hg; replace HB := hs_ HB hb; clear hb hbox hg; obtain ⟨hcz9_0, hcz9_1, hcz9_2, hcz9_3, hcz9_4, hfz9_0, hfz9_1, hfz9_2, hfz9_3, hfz9_4⟩ := c5_ BK467) | ((with_reducible refine gate_callee (f := 45) rfl ?_); refine goesL_ (some 11) rfl rfl Tryd.func45 (by kernel_rfl) rfl #[.agg #[.bool a0_0, .slice A0_1 l0_1.length c0_1, .bool a0_2, .slice A0_3 l0_3.length c0_3, .bool a0_4]] rfl gl_ ?_; (with_reducible refine (rule_Check.calls k a0_0 _ _ l0_1 a0_2 _ _ l0_3 a0_4 t468 _ ?side1 ?side2 ?side3 ?side4 A3.out).mono ?_); (case side1 => exact sd_); (case side2 => exact HC0_1.out); (case side3 => exact sd_); (case side4 => exact HC0_3.out); rintro e w10 ⟨rfl, hb⟩; refine ⟨_, rfl, ?_⟩; replace BK467 := bb_ BK467 hb; replace HB := hs_ HB hb; (try clear hb); obtain ⟨hcz11_0, hcz11_1, hcz11_2, hcz11_3, hcz11_4, hfz11_0, hfz11_1, hfz11_2, hfz11_3, hfz11_4⟩ := c5_ BK467) | ((with_reducible refine gate_callee (f := 36) rfl ?_); refine goesL_ (some 17) rfl rfl Tryd.func36 (by kernel_rfl) rfl #[.agg #[.slice A0_1 l0_1.length c0_1, .bool a0_2], .string a1] rfl gl_ ?_; (with_reducible refine (pattern_Match.calls k _ _ l0_1 a0_2 a1 t469 true _ ?side1 ?side2 A5.out).mono ?_); (case side1 => exact sd_); (case side2 => exact HC0_1.out); rintro e w12 ⟨v470, rfl, ho0, hb⟩; refine ⟨_, rfl, ?_⟩; have n0_ := Aside0.mk (Kd.R_lower ho0 (below_size hb_)); replace BK467 := bb_ BK467 hb; replace HB := hs_ HB hb; have HO471 := n0_; clear n0_; (try clear hb); (try clear ho0); obtain ⟨hcz13_0, hcz13_1, hcz13_2, hcz13_3, hcz13_4, hfz13_0, hfz13_1, hfz13_2, hfz13_3, hfz13_4⟩ := c5_ BK467; obtain ⟨Ao14, co14, eo14⟩ := Kd.R_slice HO471.out; subst eo14) | ((with_reducible refine gate_callee (f := 47) rfl ?_); refine goesL_ (some 26) rfl rfl Tryd.func47 (by kernel_rfl) rfl #[.agg #[.slice A0_3 l0_3.length c0_3, .bool a0_4], .slice Ao14 t469.length co14] rfl gl_ ?_; (with_reducible refine (pattern_Fill.calls k _ _ l0_3 a0_4 (fun k_ => some k_ = (.slice Ao14 t469.length co14 : Value).ownBlock) _ _ t469 t473 t474 _ ?side1 ?side2 ?side3 A7.out).mono ?_); (case side1 => exact sd_); (case side2 => exact HC0_3.out); (case side3 => exact Kd.R_V (Kd.R_tight rfl (Kd.R_types (HO471.out) BK467.out (by decide)))); rintro e w15 ⟨rfl, hb⟩; refine ⟨_, rfl, ?_⟩; replace HO471 := rb_ HO471 hb; replace BK467 := bb_ BK467 hb; replace HB := hs_ HB hb; (try clear hb)) | ((with_reducible refine gate_callee (f := 36) rfl ?_); refine goesL_ (some 17) rfl rfl Tryd.func36 (by kernel_rfl) rfl #[.agg #[.slice A0_1 l0_1.length c0_1, .bool a0_2], .string a1] rfl gl_ ?_; (with_reducible refine (pattern_Match.calls k _ _ l0_1 a0_2 a1 t469 false _ ?side1 ?side2 A5.out).mono ?_); (case side1 => exact sd_); (case side2 => exact HC0_1.out); rintro e w20 ⟨v470, rfl, ho0, hb⟩; refine ⟨_, rfl, ?_⟩; have n0_ := Aside0.mk (Kd.R_lower ho0 (below_size hb_)); replace BK467 := bb_ BK467 hb; replace HB := hs_ HB hb; have HO471 := n0_; clear n0_; (try clear hb); (try clear ho0)))
 ·go_ret2
  exact ⟨rt_, hb_⟩
 ·go_ret2
  exact ⟨rt_, hb_⟩
 ·go_ret2
  exact ⟨rt_, hb_⟩

/-! ### stockyardlaw04_awake: function 22 -/
def stockyardlaw04_awake.f (k : Nat)  : Option (Bool) := (some (([(⟨#[100]⟩ : ByteArray), (⟨#[42, 46, 112, 115, 100]⟩ : ByteArray)] : List ByteArray) : List ByteArray)).bind fun y475 => ((some (([(⟨#[99]⟩ : ByteArray), (⟨#[120]⟩ : ByteArray), (⟨#[42]⟩ : ByteArray)] : List ByteArray) : List ByteArray)).bind fun y478 => ((rule_Forward.f k false y475 true y478 true (⟨#[47, 47, 100, 47, 97, 46, 112, 115, 100, 47, 98]⟩ : ByteArray)).bind fun bt482 => (if bt482.2 = true then (if bt482.1.toList = ([47, 47, 99, 47, 120, 47, 97, 47, 98] : List UInt8) then ((rule_Check.f k false y475 true y478 true).bind fun t484 => (some (t484 == 0))) else (some false)) else (some false))))
set_option maxHeartbeats 8000000 in
set_option maxRecDepth 100000 in
theorem stockyardlaw04_awake.calls (k : Nat)  (r : Bool) (w : World) (h : stockyardlaw04_awake.f k  = some r) :
  Calls Tryd.prog 22 #[] w fun e w' => e = .returned (.bool r) ∧ Below w.heap.size w w' := by
 have hu24 := Tryd.underlying24
 have hu39 := Tryd.underlying39
 have HB := Aside0.mk (Below.refl w.heap.size w)
 have H : ((some (([(⟨#[100]⟩ : ByteArray), (⟨#[42, 46, 112, 115, 100]⟩ : ByteArray)] : List ByteArray) : List ByteArray)).bind fun y475 => ((some (([(⟨#[99]⟩ : ByteArray), (⟨#[120]⟩ : ByteArray), (⟨#[42]⟩ : ByteArray)] : List ByteArray) : List ByteArray)).bind fun y478 => ((rule_Forward.f k false y475 true y478 true (⟨#[47, 47, 100, 47, 97, 46, 112, 115, 100, 47, 98]⟩ : ByteArray)).bind fun bt482 => (if bt482.2 = true then (if bt482.1.toList = ([47, 47, 99, 47, 120, 47, 97, 47, 98] : List UInt8) then ((rule_Check.f k false y475 true y478 true).bind fun t484 => (some (t484 == 0))) else (some false)) else (some false))))) = some r := h
 clear h
 obtain ⟨y475, hy475⟩ : ∃ y_ : List ByteArray, y_ = (([(⟨#[100]⟩ : ByteArray), (⟨#[42, 46, 112, 115, 100]⟩ : ByteArray)] : List ByteArray)) := ⟨_, rfl⟩
 replace H : ((some (([(⟨#[99]⟩ : ByteArray), (⟨#[120]⟩ : ByteArray), (⟨#[42]⟩ : ByteArray)] : List ByteArray) : List ByteArray)).bind fun y478 => ((rule_Forward.f k false y475 true y478 true (⟨#[47, 47, 100, 47, 97, 46, 112, 115, 100, 47, 98]⟩ : ByteArray)).bind fun bt482 => (if bt482.2 = true then (if bt482.1.toList = ([47, 47, 99, 47, 120, 47, 97, 47, 98] : List UInt8) then ((rule_Check.f k false y475 true y478 true).bind fun t484 => (some (t484 == 0))) else (some false)) else (some false)))) = some r := by first | (rw [hy475]; with_reducible exact H) | (have H2_ := (Option.bind_some _ _).symm.trans H; rw [hy475]; with_reducible exact H2_) | (have H2_ := (Option.bind_some _ _).symm.trans H; with_reducible exact H2_) | with_reducible exact H | (rw [hy475]; exact H) | exact H
 have Ny475 := Aside0.mk hy475
 clear hy475
 obtain ⟨y478, hy478⟩ : ∃ y_ : List ByteArray, y_ = (([(⟨#[99]⟩ : ByteArray), (⟨#[120]⟩ : ByteArray), (⟨#[42]⟩ : ByteArray)] : List ByteArray)) := ⟨_, rfl⟩
 replace H : ((rule_Forward.f k false y475 true y478 true (⟨#[47, 47, 100, 47, 97, 46, 112, 115, 100, 47, 98]⟩ : ByteArray)).bind fun bt482 => (if bt482.2 = true then (if bt482.1.toList = ([47, 47, 99, 47, 120, 47, 97, 47, 98] : List UInt8) then ((rule_Check.f k false y475 true y478 true).bind fun t484 => (some (t484 == 0))) else (some false)) else (some false))) = some r := by first | (rw [hy478]; with_reducible exact H) | (have H2_ := (Option.bind_some _ _).symm.trans H; rw [hy478]; with_reducible exact H2_) | (have H2_ := (Option.bind_some _ _).symm.trans H; with_reducible exact H2_) | with_reducible exact H | (rw [hy478]; exact H) | exact H
 have Ny478 := Aside0.mk hy478
 clear hy478
 replace H := Option.bind_eq_some_iff.mp H
 obtain ⟨⟨t482, t483⟩, A10, H⟩ := H
 replace H : (if t483 = true then (if t482.toList = ([47, 47, 99, 47, 120, 47, 97, 47, 98] : List UInt8) then ((rule_Check.f k false y475 true y478 true).bind fun t484 => (some (t484 == 0))) else (some false)) else (some false)) = some r := H
 have A1 := Aside0.mk A10
 clear A10
 by_cases c2 : t483 = true
 subst c2
 replace H := ip_ H
 by_cases c3 : t482.toList = ([47, 47, 99, 47, 120, 47, 97, 47, 98] : List UInt8)
 rw [if_pos c3] at H
 have c3b0 := beq_iff_eq.mpr c3
 have c3b1 := bne_eq_false_iff_eq.mpr c3
 clear c3
 replace H := Option.bind_eq_some_iff.mp H
 obtain ⟨t484, A40, H⟩ := H
 replace H : (some (t484 == 0)) = some r := H
 have A4 := Aside0.mk A40
 clear A40
 obtain rfl := Option.some.inj H
 go_enter Tryd.func22, Tryd.ntmps22
 rotate_left
 rw [if_neg c3] at H
 have c3b0 := beq_eq_false_iff_ne.mpr c3
 have c3b1 := bne_iff_ne.mpr c3
 obtain rfl := Option.some.inj H
 go_enter Tryd.func22, Tryd.ntmps22
 rotate_left
 replace c2 := Bool.eq_false_iff.mpr c2
 subst c2
 replace H := in_ H
 obtain rfl := Option.some.inj H
 go_enter Tryd.func22, Tryd.ntmps22
 rotate_left
 all_goals go_wp2_with (first | ((with_reducible refine gate_dst (N := 4) rfl ?_); refine Kd.R_lit Kd.string _ 9 ?hg (N := 4) ?hd (xs := ([(⟨#[100]⟩ : ByteArray), (⟨#[42, 46, 112, 115, 100]⟩ : ByteArray)] : List ByteArray)) (inner := [.string (⟨#[100]⟩ : ByteArray), .string (⟨#[42, 46, 112, 115, 100]⟩ : ByteArray)]) (ok := fun _ => True) (okp := fun _ => True) ?hr ?hp (fun _ hk => hk) trivial (Below.refl _ _) (Nat.le_refl _) (by simp) ?_; (case hd => rfl); (case hg => rfl); (case hr => first | (go_simp; done) | (go_simp; rfl)); (case hp => exact (Reps.one (show Kd.M Kd.string _ _ _ (⟨#[100]⟩ : ByteArray) [.string (⟨#[100]⟩ : ByteArray)] from rfl) (Reps.one (show Kd.M Kd.string _ _ _ (⟨#[42, 46, 112, 115, 100]⟩ : ByteArray) [.string (⟨#[42, 46, 112, 115, 100]⟩ : ByteArray)] from rfl) (Reps.none _ _)))); intro v476 w5 ho6 hb hg_ hnew_; clear hg_ hnew_; (first | rw [← Ny475.out] at ho6 | (simp only [Int.reduceToNat] at ho6; rw [← Ny475.out] at ho6)); have n0_ := Aside0.mk (Kd.R_lower ho6 (below_size hb_)); replace HB := hs_ HB hb; have HO477 := n0_; clear n0_; clear hb ho6; obtain ⟨Ao7, co7, eo7⟩ := Kd.R_slice HO477.out; subst eo7) | ((with_reducible refine gate_dst (N := 6) rfl ?_); refine Kd.R_lit Kd.string _ 9 ?hg (N := 6) ?hd (xs := ([(⟨#[99]⟩ : ByteArray), (⟨#[120]⟩ : ByteArray), (⟨#[42]⟩ : ByteArray)] : List ByteArray)) (inner := [.string (⟨#[99]⟩ : ByteArray), .string (⟨#[120]⟩ : ByteArray), .string (⟨#[42]⟩ : ByteArray)]) (ok := fun _ => True) (okp := fun _ => True) ?hr ?hp (fun _ hk => hk) trivial (Below.refl _ _) (Nat.le_refl _) (by simp) ?_; (case hd => rfl); (case hg => rfl); (case hr => first | (go_simp; done) | (go_simp; rfl)); (case hp => exact (Reps.one (show Kd.M Kd.string _ _ _ (⟨#[99]⟩ : ByteArray) [.string (⟨#[99]⟩ : ByteArray)] from rfl) (Reps.one (show Kd.M Kd.string _ _ _ (⟨#[120]⟩ : ByteArray) [.string (⟨#[120]⟩ : ByteArray)] from rfl) (Reps.one (show Kd.M Kd.string _ _ _ (⟨#[42]⟩ : ByteArray) [.string (⟨#[42]⟩ : ByteArray)] from rfl) (Reps.none _ _))))); intro v479 w8 ho9 hb hg_ hnew_; clear hg_ hnew_; (first | rw [← Ny478.out] at ho9 | (simp only [Int.reduceToNat] at ho9; rw [← Ny478.out] at ho9)); have n0_ := Aside0.mk (Kd.R_elder' (rp_ HO477) (Kd.R_base ho9) hb); have n1_ := Aside0.mk (Kd.R_lower (Kd.R_new' ho9 (Kd.R_lt (rp_ HO477))) (below_size hb_)); replace HB := hs_ HB hb; clear HO477; have HO477 := n0_; have HO480 := n1_; clear n0_ n1_; clear hb ho9; obtain ⟨Ao10, co10, eo10⟩ := Kd.R_slice HO480.out; subst eo10) | ((with_reducible refine gate_dst (N := 1) rfl ?_); refine box_event ?hg (N := 1) ?hd (cs := #[.bool false, .slice none 0 0, .bool false, .slice none 0 0, .bool false]) (t := 39) ?hr ?_; (case hd => rfl); (case hg => rfl); (case hr => first | (go_simp; done) | (go_simp; rfl)); intro gb481 hg w11 hbox hb; have BK481 := Aside0.mk hbox; have GW481 := gw_ HB hg; have GE481 := gw_ HB hg; replace HO477 := rb_ HO477 hb; replace HO480 := rb_ HO480 hb; replace HB := hs_ HB hb; clear hb hbox hg; obtain ⟨hcz12_0, hcz12_1, hcz12_2, hcz12_3, hcz12_4, hfz12_0, hfz12_1, hfz12_2, hfz12_3, hfz12_4⟩ := c5_ BK481) | ((with_reducible refine gate_callee (f := 24) rfl ?_); refine goesL_ (some 11) rfl rfl Tryd.func24 (by kernel_rfl) rfl #[.agg #[.bool false, .slice Ao7 y475.length co7, .bool true, .slice Ao10 y478.length co10, .bool true], .string (⟨#[47, 47, 100, 47, 97, 46, 112, 115, 100, 47, 98]⟩ : ByteArray)] rfl gl_ ?_; (with_reducible refine (rule_Forward.calls k false _ _ y475 true _ _ y478 true (⟨#[47, 47, 100, 47, 97, 46, 112, 115, 100, 47, 98]⟩ : ByteArray) t482 true _ ?side1 ?side2 ?side3 ?side4 A1.out).mono ?_); (case side1 => refine (Kd.R_reads' (e := 9) (base := w.heap.size) (ok := fun k_ => (True ∧ some k_ ≠ (.slice Ao10 y478.length co10 : Value).ownBlock)) (n := y475.length) (c := co7) ?_).2.2; exact (by (with_reducible repeat (first | apply Kd.R_alloc | apply Kd.R_drewN | apply Kd.R_drew)); exact (Kd.R_mono (Kd.R_far (p := ⟨gb481, 4, none⟩) (Kd.R_far (p := ⟨gb481, 3, none⟩) (Kd.R_far (p := ⟨gb481, 2, none⟩) (Kd.R_far (p := ⟨gb481, 1, none⟩) (Kd.R_far (p := ⟨gb481, 0, none⟩) (Kd.R_types HO477.out BK481.out (by decide)) (fun _ hk => hk.2) (.bool false)) (fun _ hk => hk.2) (.slice Ao7 y475.length co7)) (fun _ hk => hk.2) (.bool true)) (fun _ hk => hk.2) (.slice Ao10 y478.length co10)) (fun _ hk => hk.2) (.bool true)) (fun _ h_ => h_.1)))); (case side2 => exact (Kd.R_reads' HO477.out).2.1); (case side3 => refine (Kd.R_reads' (e := 9) (base := w.heap.size) (ok := fun k_ => (True ∧ some k_ ≠ (.slice Ao7 y475.length co7 : Value).ownBlock)) (n := y478.length) (c := co10) ?_).2.2; exact (by (with_reducible repeat (first | apply Kd.R_alloc | apply Kd.R_drewN | apply Kd.R_drew)); exact (Kd.R_mono (Kd.R_far (p := ⟨gb481, 4, none⟩) (Kd.R_far (p := ⟨gb481, 3, none⟩) (Kd.R_far (p := ⟨gb481, 2, none⟩) (Kd.R_far (p := ⟨gb481, 1, none⟩) (Kd.R_far (p := ⟨gb481, 0, none⟩) (Kd.R_types HO480.out BK481.out (by decide)) (fun _ hk => hk.2) (.bool false)) (fun _ hk => hk.2) (.slice Ao7 y475.length co7)) (fun _ hk => hk.2) (.bool true)) (fun _ hk => hk.2) (.slice Ao10 y478.length co10)) (fun _ hk => hk.2) (.bool true)) (fun _ h_ => h_.1)))); (case side4 => exact (Kd.R_reads' HO480.out).2.1); rintro e w13 ⟨rfl, hb⟩; refine ⟨_, rfl, ?_⟩; have n0_ := Aside0.mk (Kd.R_below (by (with_reducible repeat (first | apply Kd.R_alloc | apply Kd.R_drewN | apply Kd.R_drew)); exact (Kd.R_mono (Kd.R_far (p := ⟨gb481, 4, none⟩) (Kd.R_far (p := ⟨gb481, 3, none⟩) (Kd.R_far (p := ⟨gb481, 2, none⟩) (Kd.R_far (p := ⟨gb481, 1, none⟩) (Kd.R_far (p := ⟨gb481, 0, none⟩) (Kd.R_types HO477.out BK481.out (by decide)) (fun _ hk => hk.2) (.bool false)) (fun _ hk => hk.2) (.slice Ao7 y475.length co7)) (fun _ hk => hk.2) (.bool true)) (fun _ hk => hk.2) (.slice Ao10 y478.length co10)) (fun _ hk => hk.2) (.bool true)) (fun _ h_ => h_.1))) hb); have n1_ := Aside0.mk (Kd.R_below (by (with_reducible repeat (first | apply Kd.R_alloc | apply Kd.R_drewN | apply Kd.R_drew)); exact (Kd.R_mono (Kd.R_far (p := ⟨gb481, 4, none⟩) (Kd.R_far (p := ⟨gb481, 3, none⟩) (Kd.R_far (p := ⟨gb481, 2, none⟩) (Kd.R_far (p := ⟨gb481, 1, none⟩) (Kd.R_far (p := ⟨gb481, 0, none⟩) (Kd.R_types HO480.out BK481.out (by decide)) (fun _ hk => hk.2) (.bool false)) (fun _ hk => hk.2) (.slice Ao7 y475.length co7)) (fun _ hk => hk.2) (.bool true)) (fun _ hk => hk.2) (.slice Ao10 y478.length co10)) (fun _ hk => hk.2) (.bool true)) (fun _ h_ => h_.1))) hb); have n2_ := Aside0.mk (blk_below (g := gb481) (o := .cells #[.bool false, .slice Ao7 y475.length co7, .bool true, .slice Ao10 y478.length co10, .bool true] 39 (0, 0)) bz_ hb); replace HB := hs_ HB hb; clear HO477 HO480 BK481; have HO477 := n0_; have HO480 := n1_; have BK481 := n2_; clear n0_ n1_ n2_; (try clear hb); obtain ⟨hcz14_0, hcz14_1, hcz14_2, hcz14_3, hcz14_4, hfz14_0, hfz14_1, hfz14_2, hfz14_3, hfz14_4⟩ := c5_ BK481) | (go_at_call 45; (with_reducible refine (rule_Check.calls k false _ _ y475 true _ _ y478 true t484 _ ?side1 ?side2 ?side3 ?side4 A4.out).mono ?_); (case side1 => repeat (first | exact (Kd.R_reads' HO477.out).2.2 | (with_reducible refine Kd.C_alloc ?_ _) | (with_reducible refine Kd.C_drewN ?_ _) | (with_reducible refine Kd.C_drew ?_))); (case side2 => exact (Kd.R_reads' HO477.out).2.1); (case side3 => repeat (first | exact (Kd.R_reads' HO480.out).2.2 | (with_reducible refine Kd.C_alloc ?_ _) | (with_reducible refine Kd.C_drewN ?_ _) | (with_reducible refine Kd.C_drew ?_))); (case side4 => exact (Kd.R_reads' HO480.out).2.1); rintro e w15 ⟨rfl, hb⟩; replace HO477 := rb_ HO477 hb; replace HO480 := rb_ HO480 hb; replace BK481 := bb_ BK481 hb; replace HB := hs_ HB hb; (try clear hb)) | ((with_reducible refine gate_callee (f := 24) rfl ?_); refine goesL_ (some 11) rfl rfl Tryd.func24 (by kernel_rfl) rfl #[.agg #[.bool false, .slice Ao7 y475.length co7, .bool true, .slice Ao10 y478.length co10, .bool true], .string (⟨#[47, 47, 100, 47, 97, 46, 112, 115, 100, 47, 98]⟩ : ByteArray)] rfl gl_ ?_; (with_reducible refine (rule_Forward.calls k false _ _ y475 true _ _ y478 true (⟨#[47, 47, 100, 47, 97, 46, 112, 115, 100, 47, 98]⟩ : ByteArray) t482 false _ ?side1 ?side2 ?side3 ?side4 A1.out).mono ?_); (case side1 => refine (Kd.R_reads' (e := 9) (base := w.heap.size) (ok := fun k_ => (True ∧ some k_ ≠ (.slice Ao10 y478.length co10 : Value).ownBlock)) (n := y475.length) (c := co7) ?_).2.2; exact (by (with_reducible repeat (first | apply Kd.R_alloc | apply Kd.R_drewN | apply Kd.R_drew)); exact (Kd.R_mono (Kd.R_far (p := ⟨gb481, 4, none⟩) (Kd.R_far (p := ⟨gb481, 3, none⟩) (Kd.R_far (p := ⟨gb481, 2, none⟩) (Kd.R_far (p := ⟨gb481, 1, none⟩) (Kd.R_far (p := ⟨gb481, 0, none⟩) (Kd.R_types HO477.out BK481.out (by decide)) (fun _ hk => hk.2) (.bool false)) (fun _ hk => hk.2) (.slice Ao7 y475.length co7)) (fun _ hk => hk.2) (.bool true)) (fun _ hk => hk.2) (.slice Ao10 y478.length co10)) (fun _ hk => hk.2) (.bool true)) (fun _ h_ => h_.1)))); (case side2 => exact (Kd.R_reads' HO477.out).2.1); (case side3 => refine (Kd.R_reads' (e := 9) (base := w.heap.size) (ok := fun k_ => (True ∧ some k_ ≠ (.slice Ao7 y475.length co7 : Value).ownBlock)) (n := y478.length) (c := co10) ?_).2.2; exact (by (with_reducible repeat (first | apply Kd.R_alloc | apply Kd.R_drewN | apply Kd.R_drew)); exact (Kd.R_mono (Kd.R_far (p := ⟨gb481, 4, none⟩) (Kd.R_far (p := ⟨gb481, 3, none⟩) (Kd.R_far (p := ⟨gb481, 2, none⟩) (Kd.R_far (p := ⟨gb481, 1, none⟩) (Kd.R_far (p := ⟨gb481, 0, none⟩) (Kd.R_types HO480.out BK481.out (by decide)) (fun _ hk => hk.2) (.bool false)) (fun _ hk => hk.2) (.slice Ao7 y475.length co7)) (fun _ hk => hk.2) (.bool true)) (fun _ hk => hk.2) (.slice Ao10 y478.length co10)) (fun _ hk => hk.2) (.bool true)) (fun _ h_ => h_.1)))); (case side4 => exact (Kd.R_reads' HO480.out).2.1); rintro e w33 ⟨rfl, hb⟩; refine ⟨_, rfl, ?_⟩; have n0_ := Aside0.mk (Kd.R_below (by (with_reducible repeat (first | apply Kd.R_alloc | apply Kd.R_drewN | apply Kd.R_drew)); exact (Kd.R_mono (Kd.R_far (p := ⟨gb481, 4, none⟩) (Kd.R_far (p := ⟨gb481, 3, none⟩) (Kd.R_far (p := ⟨gb481, 2, none⟩) (Kd.R_far (p := ⟨gb481, 1, none⟩) (Kd.R_far (p := ⟨gb481, 0, none⟩) (Kd.R_types HO477.out BK481.out (by decide)) (fun _ hk => hk.2) (.bool false)) (fun _ hk => hk.2) (.slice Ao7 y475.length co7)) (fun _ hk => hk.2) (.bool true)) (fun _ hk => hk.2) (.slice Ao10 y478.length co10)) (fun _ hk => hk.2) (.bool true)) (fun _ h_ => h_.1))) hb); have n1_ := Aside0.mk (Kd.R_below (by (with_reducible repeat (first | apply Kd.R_alloc | apply Kd.R_drewN | apply Kd.R_drew)); exact (Kd.R_mono (Kd.R_far (p := ⟨gb481, 4, none⟩) (Kd.R_far (p := ⟨gb481, 3, none⟩) (Kd.R_far (p := ⟨gb481, 2, none⟩) (Kd.R_far (p := ⟨gb481, 1, none⟩) (Kd.R_far (p := ⟨gb481, 0, none⟩) (Kd.R_types HO480.out BK481.out (by decide)) (fun _ hk => hk.2) (.bool false)) (fun _ hk => hk.2) (.slice Ao7 y475.length co7)) (fun _ hk => hk.2) (.bool true)) (fun _ hk => hk.2) (.slice Ao10 y478.length co10)) (fun _ hk => hk.2) (.bool true)) (fun _ h_ => h_.1))) hb); have n2_ := Aside0.mk (blk_below (g := gb481) (o := .cells #[.bool false, .slice Ao7 y475.length co7, .bool true, .slice Ao10 y478.length co10, .bool true] 39 (0, 0)) bz_ hb); replace HB := hs_ HB hb; clear HO477 HO480 BK481; have HO477 := n0_; have HO480 := n1_; have BK481 := n2_; clear n0_ n1_ n2_; (try clear hb)))
 ·go_ret
  exact ⟨rt_, hb_⟩
 ·go_ret
  exact ⟨rt_, hb_⟩
 ·go_ret
  exact ⟨rt_, hb_⟩

end Go.Proofs.YthclkdplihchjaaDoor.P

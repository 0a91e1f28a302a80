-- Written by a program of this session (wip/gen.py) over the kit's print: each Go function as a plain Lean function, and the proof that the Go code comes to it. Nothing here is trusted: Lean checks it.
import Derived.Test.YthclkdplihchjaaDoorPx0
import Derived.Test.YthclkdplihchjaaDoorPx1
import Derived.Test.YthclkdplihchjaaDoorPx3
import Derived.Test.YthclkdplihchjaaDoorPx6
import Derived.Test.YthclkdplihchjaaDoorPx7
import Derived.Test.YthclkdplihchjaaDoorSq
namespace Go.Proofs.YthclkdplihchjaaDoor.P
open Go.RowKit Go.Proofs.YthclkdplihchjaaDoorW.PrintWords Go.Proofs.YthclkdplihchjaaDoorW.PrintLast Go.Proofs.YthclkdplihchjaaDoorW.PrintMore
attribute [local go_sem] str_gtr str_leq str_geq max2_int min2_int max_two min_two max_three min_three max_four min_four   -- for this text's walks alone
set_option linter.unusedVariables false
set_option linter.unusedSimpArgs false

/-! ### rule_carry: function 46 -/
def rule_carry.f (k : Nat) (l0_0 : List ByteArray) (a0_1 : Bool) (l1_0 : List ByteArray) (a1_1 : Bool) (l2_0 : List ByteArray) (a2_1 : Bool) : Option (List ByteArray × Bool × Bool) := (pattern_Bind.f k l0_0 a0_1 l1_0 a1_1).bind fun bt489 => ((pattern_Substitute.f k l2_0 a2_1 bt489.1).bind fun bt493 => (some (bt493.1, bt493.2.1, (bt493.2.2 == 0))))
theorem rule_carry.mono : ∀ a0 a1 a2 a3 a4 a5 k, LeO (rule_carry.f k a0 a1 a2 a3 a4 a5) (rule_carry.f (k + 1) a0 a1 a2 a3 a4 a5) := by
  intro a0 a1 a2 a3 a4 a5 k
  unfold rule_carry.f
  repeat' first
      | (with_reducible exact pattern_Bind.mono _ _ _ _ _)
      | (with_reducible exact pattern_Substitute.mono _ _ _ _)
      | (with_reducible exact LeO.refl _)
      | (with_reducible exact LeO.none _)
      | (with_reducible refine LeO.ite ?_ ?_)
      | (with_reducible refine LeO.bind ?_ (fun _ => ?_))
      | refine LeO.ite ?_ ?_
      | refine LeO.bind ?_ (fun _ => ?_)
set_option maxHeartbeats 8000000 in
set_option maxRecDepth 100000 in
theorem rule_carry.calls (k : Nat) (A0_0 : Option Addr) (c0_0 : Nat) (l0_0 : List ByteArray) (a0_1 : Bool) (A1_0 : Option Addr) (c1_0 : Nat) (l1_0 : List ByteArray) (a1_1 : Bool) (A2_0 : Option Addr) (c2_0 : Nat) (l2_0 : List ByteArray) (a2_1 : Bool) (r1 : List ByteArray) (r2 : Bool) (r3 : Bool) (w : World) (hr0_0 : Kd.C Kd.string w A0_0 l0_0.length l0_0) (hc0_0 : l0_0.length ≤ c0_0) (hr1_0 : Kd.C Kd.string w A1_0 l1_0.length l1_0) (hc1_0 : l1_0.length ≤ c1_0) (hr2_0 : Kd.C Kd.string w A2_0 l2_0.length l2_0) (hc2_0 : l2_0.length ≤ c2_0) (h : rule_carry.f k l0_0 a0_1 l1_0 a1_1 l2_0 a2_1 = some (r1, r2, r3)) :
  Calls Tryd.prog 46 #[.agg #[.slice A0_0 l0_0.length c0_0, .bool a0_1], .agg #[.slice A1_0 l1_0.length c1_0, .bool a1_1], .agg #[.slice A2_0 l2_0.length c2_0, .bool a2_1]] w fun e w' => ∃ v0_ : Value, e = .returned (.tuple #[.agg #[v0_, .bool r2], .bool r3]) ∧ Kd.R Kd.string 9 w' w.heap.size (fun _ => True) v0_ r1 ∧ Below w.heap.size w w' := by
 have hu24 := Tryd.underlying24
 have HR0_0 := Aside0.mk hr0_0
 have HC0_0 := Aside0.mk hc0_0
 clear hr0_0 hc0_0
 have HR1_0 := Aside0.mk hr1_0
 have HC1_0 := Aside0.mk hc1_0
 clear hr1_0 hc1_0
 have HR2_0 := Aside0.mk hr2_0
 have HC2_0 := Aside0.mk hc2_0
 clear hr2_0 hc2_0
 have HB := Aside0.mk (Below.refl w.heap.size w)
 have H : ((pattern_Bind.f k l0_0 a0_1 l1_0 a1_1).bind fun bt489 => ((pattern_Substitute.f k l2_0 a2_1 bt489.1).bind fun bt493 => (some (bt493.1, bt493.2.1, (bt493.2.2 == 0))))) = some (r1, r2, r3) := h
 clear h
 replace H := Option.bind_eq_some_iff.mp H
 obtain ⟨⟨t489, t492⟩, A40, H⟩ := H
 replace H : ((pattern_Substitute.f k l2_0 a2_1 t489).bind fun bt493 => (some (bt493.1, bt493.2.1, (bt493.2.2 == 0)))) = some (r1, r2, r3) := H
 have A4 := Aside0.mk A40
 clear A40
 replace H := Option.bind_eq_some_iff.mp H
 obtain ⟨⟨t493, t496, t497⟩, A50, H⟩ := H
 replace H : (some (t493, t496, (t497 == 0))) = some (r1, r2, r3) := H
 have A5 := Aside0.mk A50
 clear A50
 simp only [Option.some.injEq, Prod.mk.injEq] at H
 obtain ⟨rfl, rfl, rfl⟩ := H
 go_enter Tryd.func46, Tryd.ntmps46
 go_wp2_with (first | ((with_reducible refine gate_dst (N := 3) rfl ?_); refine box_event ?hg (N := 3) ?hd (cs := #[.slice A0_0 l0_0.length c0_0, .bool a0_1]) (t := 24) ?hr ?_; (case hd => rfl); (case hg => rfl); (case hr => first | (go_simp; done) | (go_simp; rfl)); intro gb485 hg w6 hbox hb; have BK485 := Aside0.mk hbox; have GW485 := gw_ HB hg; have GE485 := gw_ HB hg; replace HB := hs_ HB hb; clear hb hbox hg) | ((with_reducible refine gate_dst (N := 4) rfl ?_); refine box_event ?hg (N := 4) ?hd (cs := #[.slice A1_0 l1_0.length c1_0, .bool a1_1]) (t := 24) ?hr ?_; (case hd => rfl); (case hg => rfl); (case hr => first | (go_simp; done) | (go_simp; rfl)); intro gb486 hg w7 hbox hb; have BK486 := Aside0.mk hbox; have GW486 := gw_ HB hg; have GE486 := gw_ HB hg; have NB485_486 := nl_ BK485 hg; have NB486_485 := nr_ BK485 hg; replace BK485 := bb_ BK485 hb; replace HB := hs_ HB hb; clear hb hbox hg) | ((with_reducible refine gate_dst (N := 5) rfl ?_); refine box_event ?hg (N := 5) ?hd (cs := #[.slice A2_0 l2_0.length c2_0, .bool a2_1]) (t := 24) ?hr ?_; (case hd => rfl); (case hg => rfl); (case hr => first | (go_simp; done) | (go_simp; rfl)); intro gb487 hg w8 hbox hb; have BK487 := Aside0.mk hbox; have GW487 := gw_ HB hg; have GE487 := gw_ HB hg; have NB485_487 := nl_ BK485 hg; have NB487_485 := nr_ BK485 hg; have NB486_487 := nl_ BK486 hg; have NB487_486 := nr_ BK486 hg; replace BK485 := bb_ BK485 hb; replace BK486 := bb_ BK486 hb; replace HB := hs_ HB hb; clear hb hbox hg) | ((with_reducible refine gate_dst (N := 6) rfl ?_); refine box_event ?hg (N := 6) ?hd (cs := #[.slice none 0 0, .bool false]) (t := 24) ?hr ?_; (case hd => rfl); (case hg => rfl); (case hr => first | (go_simp; done) | (go_simp; rfl)); intro gb488 hg w9 hbox hb; have BK488 := Aside0.mk hbox; have GW488 := gw_ HB hg; have GE488 := gw_ HB hg; have NB485_488 := nl_ BK485 hg; have NB488_485 := nr_ BK485 hg; have NB486_488 := nl_ BK486 hg; have NB488_486 := nr_ BK486 hg; have NB487_488 := nl_ BK487 hg; have NB488_487 := nr_ BK487 hg; replace BK485 := bb_ BK485 hb; replace BK486 := bb_ BK486 hb; replace BK487 := bb_ BK487 hb; replace HB := hs_ HB hb; clear hb hbox hg; have hnb10 := NB485_486.out; have hnc10 := NB486_485.out; have hnb11 := NB485_487.out; have hnc11 := NB487_485.out; have hnb12 := NB485_488.out; have hnc12 := NB488_485.out; obtain ⟨hcz13_0, hcz13_1, hfz13_0, hfz13_1⟩ := c2_ BK485; have hnb14 := NB486_487.out; have hnc14 := NB487_486.out; have hnb15 := NB486_488.out; have hnc15 := NB488_486.out; obtain ⟨hcz16_0, hcz16_1, hfz16_0, hfz16_1⟩ := c2_ BK486) | ((with_reducible refine gate_callee (f := 18) rfl ?_); refine goesL_ (some 15) rfl rfl Tryd.func18 (by kernel_rfl) rfl #[.agg #[.slice A0_0 l0_0.length c0_0, .bool a0_1], .agg #[.slice A1_0 l1_0.length c1_0, .bool a1_1]] rfl gl_ ?_; (with_reducible refine (pattern_Bind.calls k _ _ l0_0 a0_1 _ _ l1_0 a1_1 t489 t492 _ ?side1 ?side2 ?side3 ?side4 A4.out).mono ?_); (case side1 => exact sd_); (case side2 => exact HC0_0.out); (case side3 => exact sd_); (case side4 => exact HC1_0.out); rintro e w17 ⟨v490, rfl, ho0, hb⟩; refine ⟨_, rfl, ?_⟩; have n0_ := Aside0.mk (Kd.S_lower ho0 (below_size hb_)); replace BK485 := bb_ BK485 hb; replace BK486 := bb_ BK486 hb; replace BK487 := bb_ BK487 hb; replace BK488 := bb_ BK488 hb; replace HB := hs_ HB hb; have HO491 := n0_; clear n0_; (try clear hb); (try clear ho0); have hnb18 := NB487_488.out; have hnc18 := NB488_487.out; obtain ⟨hcz19_0, hcz19_1, hfz19_0, hfz19_1⟩ := c2_ BK487; obtain ⟨Ao20, co20, eo20⟩ := Kd.S_slice HO491.out; subst eo20) | ((with_reducible refine gate_callee (f := 15) rfl ?_); refine goesL_ (some 21) rfl rfl Tryd.func15 (by kernel_rfl) rfl #[.agg #[.slice A2_0 l2_0.length c2_0, .bool a2_1], .slice Ao20 t489.length co20] rfl gl_ ?_; (with_reducible refine (pattern_Substitute.calls k _ _ l2_0 a2_1 (fun k_ => ((((True ∧ k_ ≠ gb485) ∧ k_ ≠ gb486) ∧ k_ ≠ gb487) ∧ k_ ≠ gb488)) _ _ t489 t493 t496 t497 _ ?side1 ?side2 ?side3 A5.out).mono ?_); (case side1 => exact sd_); (case side2 => exact HC2_0.out); (case side3 => exact Kd.S_V (Kd.S_types (Kd.S_types (Kd.S_types (Kd.S_types (HO491.out) BK485.out (by decide)) BK486.out (by decide)) BK487.out (by decide)) BK488.out (by decide))); rintro e w21 ⟨v494, rfl, ho0, hb⟩; refine ⟨_, rfl, ?_⟩; have n0_ := Aside0.mk (Kd.S_elder' (by (with_reducible repeat (first | apply Kd.S_alloc | apply Kd.S_drewN | apply Kd.S_drew)); exact HO491.out) (Kd.R_base ho0) hb); have n1_ := Aside0.mk (Kd.R_lower (Kd.R_mono (ok' := fun k_ => True) ho0 (fun _ hk_ => trivial)) (below_size hb_)); replace BK485 := bb_ BK485 hb; replace BK486 := bb_ BK486 hb; replace BK487 := bb_ BK487 hb; replace BK488 := bb_ BK488 hb; replace HB := hs_ HB hb; clear HO491; have HO491 := n0_; have HO495 := n1_; clear n0_ n1_; (try clear hb); (try clear ho0)) | ((with_reducible refine gate_dst (N := 10) rfl ?_); refine box_event ?hg (N := 10) ?hd (cs := #[.slice none 0 0, .bool false]) (t := 24) ?hr ?_; (case hd => rfl); (case hg => rfl); (case hr => first | (go_simp; done) | (go_simp; rfl)); intro gb498 hg w22 hbox hb; have n0_ := Aside0.mk (Kd.S_below (by (with_reducible repeat (first | apply Kd.S_alloc | apply Kd.S_drewN | apply Kd.S_drew)); exact HO491.out) hb); have BK498 := Aside0.mk hbox; have GW498 := gw_ HB hg; have GE498 := gw_ HB hg; have NB485_498 := nl_ BK485 hg; have NB498_485 := nr_ BK485 hg; have NB486_498 := nl_ BK486 hg; have NB498_486 := nr_ BK486 hg; have NB487_498 := nl_ BK487 hg; have NB498_487 := nr_ BK487 hg; have NB488_498 := nl_ BK488 hg; have NB498_488 := nr_ BK488 hg; replace HO495 := rb_ HO495 hb; replace BK485 := bb_ BK485 hb; replace BK486 := bb_ BK486 hb; replace BK487 := bb_ BK487 hb; replace BK488 := bb_ BK488 hb; replace HB := hs_ HB hb; clear HO491; have HO491 := n0_; clear n0_; clear hb hbox hg; obtain ⟨Ao23, co23, eo23⟩ := Kd.R_slice HO495.out; subst eo23; have hnb24 := NB498_485.out; have hnc24 := NB485_498.out; have hnb25 := NB498_486.out; have hnc25 := NB486_498.out; have hnb26 := NB498_487.out; have hnc26 := NB487_498.out; have hnb27 := NB498_488.out; have hnc27 := NB488_498.out; obtain ⟨hcz28_0, hcz28_1, hfz28_0, hfz28_1⟩ := c2_ BK498; obtain ⟨hcz29_0, hcz29_1, hfz29_0, hfz29_1⟩ := c2_ BK488))
 refine bodyPost_ret (results_ct rfl _ _ gb488 24 #[.slice Ao23 t493.length co23, .bool t496] (0, 0) _ rfl bz_ Tryd.underlying24 rfl (by kernel_rfl)) rfl ?_
 exact ⟨_, rt_, by (with_reducible repeat (first | apply Kd.R_alloc | apply Kd.R_drewN | apply Kd.R_drew)); exact Kd.R_mono (Kd.R_far (p := ⟨gb488, 1, none⟩) (Kd.R_far (p := ⟨gb488, 0, none⟩) (Kd.R_far (p := ⟨gb498, 1, none⟩) (Kd.R_far (p := ⟨gb498, 0, none⟩) (Kd.R_types (Kd.R_types HO495.out BK498.out (by decide)) BK488.out (by decide)) (fun _ hk => hk.1.2) (.slice Ao23 t493.length co23)) (fun _ hk => hk.1.2) (.bool t496)) (fun _ hk => hk.2) (.slice Ao23 t493.length co23)) (fun _ hk => hk.2) (.bool t496)) (fun _ hk => trivial), hb_⟩

/-! ### rule_NarrowLeft: function 27 -/
def rule_NarrowLeft.f (k : Nat) (a0_0 : Bool) (l0_1 : List ByteArray) (a0_2 : Bool) (l0_3 : List ByteArray) (a0_4 : Bool) (l1_0 : List ByteArray) (a1_1 : Bool) : Option (Bool × List ByteArray × Bool × List ByteArray × Bool × Bool × Int) := (rule_Check.f k a0_0 l0_1 a0_2 l0_3 a0_4).bind fun t614 => (if t614 = 0 then ((pattern_Check.f k l1_0 a1_1).bind fun t615 => (if t615 = 0 then ((pattern_Meet.f k l0_1 a0_2 l1_0 a1_1).bind fun bt616 => (if bt616.2.2 = true then ((rule_carry.f k l0_1 a0_2 bt616.1 bt616.2.1 l0_3 a0_4).bind fun bt622 => (if bt622.2.2 = true then (some (false, bt616.1, bt616.2.1, bt622.1, bt622.2.1, true, 0)) else (some (false, ([] : List ByteArray), false, ([] : List ByteArray), false, false, 43)))) else (some (false, ([] : List ByteArray), false, ([] : List ByteArray), false, false, 0)))) else (some (false, ([] : List ByteArray), false, ([] : List ByteArray), false, false, t615)))) else (some (false, ([] : List ByteArray), false, ([] : List ByteArray), false, false, t614)))
theorem rule_NarrowLeft.mono : ∀ a0 a1 a2 a3 a4 a5 a6 k, LeO (rule_NarrowLeft.f k a0 a1 a2 a3 a4 a5 a6) (rule_NarrowLeft.f (k + 1) a0 a1 a2 a3 a4 a5 a6) := by
  intro a0 a1 a2 a3 a4 a5 a6 k
  unfold rule_NarrowLeft.f
  repeat' first
      | (with_reducible exact pattern_Check.mono _ _ _)
      | (with_reducible exact pattern_Meet.mono _ _ _ _ _)
      | (with_reducible exact rule_Check.mono _ _ _ _ _ _)
      | (with_reducible exact rule_carry.mono _ _ _ _ _ _ _)
      | (with_reducible exact LeO.refl _)
      | (with_reducible exact LeO.none _)
      | (with_reducible refine LeO.ite ?_ ?_)
      | (with_reducible refine LeO.bind ?_ (fun _ => ?_))
      | refine LeO.ite ?_ ?_
      | refine LeO.bind ?_ (fun _ => ?_)
set_option maxHeartbeats 8000000 in
set_option maxRecDepth 100000 in
theorem rule_NarrowLeft.calls (k : Nat) (a0_0 : Bool) (A0_1 : Option Addr) (c0_1 : Nat) (l0_1 : List ByteArray) (a0_2 : Bool) (A0_3 : Option Addr) (c0_3 : Nat) (l0_3 : List ByteArray) (a0_4 : Bool) (A1_0 : Option Addr) (c1_0 : Nat) (l1_0 : List ByteArray) (a1_1 : Bool) (r1 : Bool) (r2 : List ByteArray) (r3 : Bool) (r4 : List ByteArray) (r5 : Bool) (r6 : Bool) (r7 : Int) (w : World) (hr0_1 : Kd.C Kd.string w A0_1 l0_1.length l0_1) (hc0_1 : l0_1.length ≤ c0_1) (hr0_3 : Kd.C Kd.string w A0_3 l0_3.length l0_3) (hc0_3 : l0_3.length ≤ c0_3) (hr1_0 : Kd.C Kd.string w A1_0 l1_0.length l1_0) (hc1_0 : l1_0.length ≤ c1_0) (h : rule_NarrowLeft.f k a0_0 l0_1 a0_2 l0_3 a0_4 l1_0 a1_1 = some (r1, r2, r3, r4, r5, r6, r7)) :
  Calls Tryd.prog 27 #[.agg #[.bool a0_0, .slice A0_1 l0_1.length c0_1, .bool a0_2, .slice A0_3 l0_3.length c0_3, .bool a0_4], .agg #[.slice A1_0 l1_0.length c1_0, .bool a1_1]] w fun e w' => ∃ v1_ v3_ : Value, e = .returned (.tuple #[.agg #[.bool r1, v1_, .bool r3, v3_, .bool r5], .bool r6, .int .i64 r7]) ∧ Kd.R Kd.string 9 w' w.heap.size (fun k_ => some k_ ≠ (v3_ : Value).ownBlock) v1_ r2 ∧ Kd.R Kd.string 9 w' w.heap.size (fun k_ => some k_ ≠ (v1_ : Value).ownBlock) v3_ r4 ∧ Below w.heap.size w w' := by
 have hu39 := Tryd.underlying39
 have hu24 := Tryd.underlying24
 have HR0_1 := Aside0.mk hr0_1
 have HC0_1 := Aside0.mk hc0_1
 clear hr0_1 hc0_1
 have HR0_3 := Aside0.mk hr0_3
 have HC0_3 := Aside0.mk hc0_3
 clear hr0_3 hc0_3
 have HR1_0 := Aside0.mk hr1_0
 have HC1_0 := Aside0.mk hc1_0
 clear hr1_0 hc1_0
 have HB := Aside0.mk (Below.refl w.heap.size w)
 have H : ((rule_Check.f k a0_0 l0_1 a0_2 l0_3 a0_4).bind fun t614 => (if t614 = 0 then ((pattern_Check.f k l1_0 a1_1).bind fun t615 => (if t615 = 0 then ((pattern_Meet.f k l0_1 a0_2 l1_0 a1_1).bind fun bt616 => (if bt616.2.2 = true then ((rule_carry.f k l0_1 a0_2 bt616.1 bt616.2.1 l0_3 a0_4).bind fun bt622 => (if bt622.2.2 = true then (some (false, bt616.1, bt616.2.1, bt622.1, bt622.2.1, true, 0)) else (some (false, ([] : List ByteArray), false, ([] : List ByteArray), false, false, 43)))) else (some (false, ([] : List ByteArray), false, ([] : List ByteArray), false, false, 0)))) else (some (false, ([] : List ByteArray), false, ([] : List ByteArray), false, false, t615)))) else (some (false, ([] : List ByteArray), false, ([] : List ByteArray), false, false, t614)))) = some (r1, r2, r3, r4, r5, r6, r7) := h
 clear h
 replace H := Option.bind_eq_some_iff.mp H
 obtain ⟨t614, A30, H⟩ := H
 replace H : (if t614 = 0 then ((pattern_Check.f k l1_0 a1_1).bind fun t615 => (if t615 = 0 then ((pattern_Meet.f k l0_1 a0_2 l1_0 a1_1).bind fun bt616 => (if bt616.2.2 = true then ((rule_carry.f k l0_1 a0_2 bt616.1 bt616.2.1 l0_3 a0_4).bind fun bt622 => (if bt622.2.2 = true then (some (false, bt616.1, bt616.2.1, bt622.1, bt622.2.1, true, 0)) else (some (false, ([] : List ByteArray), false, ([] : List ByteArray), false, false, 43)))) else (some (false, ([] : List ByteArray), false, ([] : List ByteArray), false, false, 0)))) else (some (false, ([] : List ByteArray), false, ([] : List ByteArray), false, false, t615)))) else (some (false, ([] : List ByteArray), false, ([] : List ByteArray), false, false, t614))) = some (r1, r2, r3, r4, r5, r6, r7) := H
 have A3 := Aside0.mk A30
 clear A30
 by_cases c4 : t614 = 0
 rw [if_pos c4] at H
 have c4b0 : (t614 == 0) = true := beq_iff_eq.mpr c4
 have c4b1 : (t614 != 0) = false := bne_eq_false_iff_eq.mpr c4
 clear c4
 replace H := Option.bind_eq_some_iff.mp H
 obtain ⟨t615, A50, H⟩ := H
 replace H : (if t615 = 0 then ((pattern_Meet.f k l0_1 a0_2 l1_0 a1_1).bind fun bt616 => (if bt616.2.2 = true then ((rule_carry.f k l0_1 a0_2 bt616.1 bt616.2.1 l0_3 a0_4).bind fun bt622 => (if bt622.2.2 = true then (some (false, bt616.1, bt616.2.1, bt622.1, bt622.2.1, true, 0)) else (some (false, ([] : List ByteArray), false, ([] : List ByteArray), false, false, 43)))) else (some (false, ([] : List ByteArray), false, ([] : List ByteArray), false, false, 0)))) else (some (false, ([] : List ByteArray), false, ([] : List ByteArray), false, false, t615))) = some (r1, r2, r3, r4, r5, r6, r7) := H
 have A5 := Aside0.mk A50
 clear A50
 by_cases c6 : t615 = 0
 rw [if_pos c6] at H
 have c6b0 : (t615 == 0) = true := beq_iff_eq.mpr c6
 have c6b1 : (t615 != 0) = false := bne_eq_false_iff_eq.mpr c6
 clear c6
 replace H := Option.bind_eq_some_iff.mp H
 obtain ⟨⟨t616, t619, t620⟩, A70, H⟩ := H
 replace H : (if t620 = true then ((rule_carry.f k l0_1 a0_2 t616 t619 l0_3 a0_4).bind fun bt622 => (if bt622.2.2 = true then (some (false, t616, t619, bt622.1, bt622.2.1, true, 0)) else (some (false, ([] : List ByteArray), false, ([] : List ByteArray), false, false, 43)))) else (some (false, ([] : List ByteArray), false, ([] : List ByteArray), false, false, 0))) = some (r1, r2, r3, r4, r5, r6, r7) := H
 have A7 := Aside0.mk A70
 clear A70
 by_cases c8 : t620 = true
 subst c8
 have H1 : ((rule_carry.f k l0_1 a0_2 t616 t619 l0_3 a0_4).bind fun bt622 => (if bt622.2.2 = true then (some (false, t616, t619, bt622.1, bt622.2.1, true, 0)) else (some (false, ([] : List ByteArray), false, ([] : List ByteArray), false, false, 43)))) = some (r1, r2, r3, r4, r5, r6, r7) := by rw [if_pos rfl] at H; exact H
 clear H
 have H := H1
 clear H1
 replace H := Option.bind_eq_some_iff.mp H
 obtain ⟨⟨t622, t625, t626⟩, A90, H⟩ := H
 replace H : (if t626 = true then (some (false, t616, t619, t622, t625, true, 0)) else (some (false, ([] : List ByteArray), false, ([] : List ByteArray), false, false, 43))) = some (r1, r2, r3, r4, r5, r6, r7) := H
 have A9 := Aside0.mk A90
 clear A90
 by_cases c10 : t626 = true
 subst c10
 have H1 : (some (false, t616, t619, t622, t625, true, 0)) = some (r1, r2, r3, r4, r5, r6, r7) := by rw [if_pos rfl] at H; exact H
 clear H
 have H := H1
 clear H1
 simp only [Option.some.injEq, Prod.mk.injEq] at H
 obtain ⟨rfl, rfl, rfl, rfl, rfl, rfl, rfl⟩ := H
 rotate_left
 replace c10 := Bool.eq_false_iff.mpr c10
 subst c10
 have H1 : (some (false, ([] : List ByteArray), false, ([] : List ByteArray), false, false, 43)) = some (r1, r2, r3, r4, r5, r6, r7) := by rw [if_neg (show ¬ (false = true) by decide)] at H; exact H
 clear H
 have H := H1
 clear H1
 simp only [Option.some.injEq, Prod.mk.injEq] at H
 obtain ⟨rfl, rfl, rfl, rfl, rfl, rfl, rfl⟩ := H
 rotate_left
 replace c8 := Bool.eq_false_iff.mpr c8
 subst c8
 have H1 : (some (false, ([] : List ByteArray), false, ([] : List ByteArray), false, false, 0)) = some (r1, r2, r3, r4, r5, r6, r7) := by rw [if_neg (show ¬ (false = true) by decide)] at H; exact H
 clear H
 have H := H1
 clear H1
 simp only [Option.some.injEq, Prod.mk.injEq] at H
 obtain ⟨rfl, rfl, rfl, rfl, rfl, rfl, rfl⟩ := H
 rotate_left
 rw [if_neg c6] at H
 have c6b0 : (t615 == 0) = false := beq_eq_false_iff_ne.mpr c6
 have c6b1 : (t615 != 0) = true := bne_iff_ne.mpr c6
 simp only [Option.some.injEq, Prod.mk.injEq] at H
 obtain ⟨rfl, rfl, rfl, rfl, rfl, rfl, rfl⟩ := H
 rotate_left
 rw [if_neg c4] at H
 have c4b0 : (t614 == 0) = false := beq_eq_false_iff_ne.mpr c4
 have c4b1 : (t614 != 0) = true := bne_iff_ne.mpr c4
 simp only [Option.some.injEq, Prod.mk.injEq] at H
 obtain ⟨rfl, rfl, rfl, rfl, rfl, rfl, rfl⟩ := H
 rotate_left
 all_goals go_enter Tryd.func27, Tryd.ntmps27
 all_goals go_wp2_with (first | ((with_reducible refine gate_dst (N := 2) rfl ?_); refine box_event ?hg (N := 2) ?hd (cs := #[.bool a0_0, .slice A0_1 l0_1.length c0_1, .bool a0_2, .slice A0_3 l0_3.length c0_3, .bool a0_4]) (t := 39) ?hr ?_; (case hd => rfl); (case hg => rfl); (case hr => first | (go_simp; done) | (go_simp; rfl)); intro gb611 hg w11 hbox hb; have BK611 := Aside0.mk hbox; have GW611 := gw_ HB hg; have GE611 := gw_ HB hg; replace HB := hs_ HB hb; clear hb hbox hg) | ((with_reducible refine gate_dst (N := 3) rfl ?_); refine box_event ?hg (N := 3) ?hd (cs := #[.slice A1_0 l1_0.length c1_0, .bool a1_1]) (t := 24) ?hr ?_; (case hd => rfl); (case hg => rfl); (case hr => first | (go_simp; done) | (go_simp; rfl)); intro gb612 hg w12 hbox hb; have BK612 := Aside0.mk hbox; have GW612 := gw_ HB hg; have GE612 := gw_ HB hg; have NB611_612 := nl_ BK611 hg; have NB612_611 := nr_ BK611 hg; replace BK611 := bb_ BK611 hb; replace HB := hs_ HB hb; clear hb hbox hg) | ((with_reducible refine gate_dst (N := 4) rfl ?_); refine box_event ?hg (N := 4) ?hd (cs := #[.bool false, .slice none 0 0, .bool false, .slice none 0 0, .bool false]) (t := 39) ?hr ?_; (case hd => rfl); (case hg => rfl); (case hr => first | (go_simp; done) | (go_simp; rfl)); intro gb613 hg w13 hbox hb; have BK613 := Aside0.mk hbox; have GW613 := gw_ HB hg; have GE613 := gw_ HB hg; have NB611_613 := nl_ BK611 hg; have NB613_611 := nr_ BK611 hg; have NB612_613 := nl_ BK612 hg; have NB613_612 := nr_ BK612 hg; replace BK611 := bb_ BK611 hb; replace BK612 := bb_ BK612 hb; replace HB := hs_ HB hb; clear hb hbox hg; have hnb14 := NB611_612.out; have hnc14 := NB612_611.out; have hnb15 := NB611_613.out; have hnc15 := NB613_611.out; obtain ⟨hcz16_0, hcz16_1, hcz16_2, hcz16_3, hcz16_4, hfz16_0, hfz16_1, hfz16_2, hfz16_3, hfz16_4⟩ := c5_ BK611) | ((with_reducible refine gate_callee (f := 45) rfl ?_); refine goesL_ (some 13) rfl rfl Tryd.func45 (by kernel_rfl) rfl #[.agg #[.bool a0_0, .slice A0_1 l0_1.length c0_1, .bool a0_2, .slice A0_3 l0_3.length c0_3, .bool a0_4]] rfl gl_ ?_; (with_reducible refine (rule_Check.calls k a0_0 _ _ l0_1 a0_2 _ _ l0_3 a0_4 t614 _ ?side1 ?side2 ?side3 ?side4 A3.out).mono ?_); (case side1 => exact sd_); (case side2 => exact HC0_1.out); (case side3 => exact sd_); (case side4 => exact HC0_3.out); rintro e w17 ⟨rfl, hb⟩; refine ⟨_, rfl, ?_⟩; replace BK611 := bb_ BK611 hb; replace BK612 := bb_ BK612 hb; replace BK613 := bb_ BK613 hb; replace HB := hs_ HB hb; (try clear hb); have hnb18 := NB612_613.out; have hnc18 := NB613_612.out; obtain ⟨hcz19_0, hcz19_1, hfz19_0, hfz19_1⟩ := c2_ BK612; have hnbz4108 := NB613_612.out; have hncz4108 := NB612_613.out; obtain ⟨hczz4109_0, hczz4109_1, hczz4109_2, hczz4109_3, hczz4109_4, hfzz4109_0, hfzz4109_1, hfzz4109_2, hfzz4109_3, hfzz4109_4⟩ := c5_ BK613) | ((with_reducible refine gate_callee (f := 48) rfl ?_); refine goesL_ (some 19) rfl rfl Tryd.func48 (by kernel_rfl) rfl #[.agg #[.slice A1_0 l1_0.length c1_0, .bool a1_1]] rfl gl_ ?_; (with_reducible refine (pattern_Check.calls k _ _ l1_0 a1_1 t615 _ ?side1 ?side2 A5.out).mono ?_); (case side1 => exact sd_); (case side2 => exact HC1_0.out); rintro e w20 ⟨rfl, hb⟩; refine ⟨_, rfl, ?_⟩; replace BK611 := bb_ BK611 hb; replace BK612 := bb_ BK612 hb; replace BK613 := bb_ BK613 hb; replace HB := hs_ HB hb; (try clear hb); obtain ⟨hcz21_0, hcz21_1, hcz21_2, hcz21_3, hcz21_4, hfz21_0, hfz21_1, hfz21_2, hfz21_3, hfz21_4⟩ := c5_ BK611; obtain ⟨hcz22_0, hcz22_1, hfz22_0, hfz22_1⟩ := c2_ BK612; obtain ⟨hczz3100_0, hczz3100_1, hczz3100_2, hczz3100_3, hczz3100_4, hfzz3100_0, hfzz3100_1, hfzz3100_2, hfzz3100_3, hfzz3100_4⟩ := c5_ BK613) | ((with_reducible refine gate_callee (f := 44) rfl ?_); refine goesL_ (some 28) rfl rfl Tryd.func44 (by kernel_rfl) rfl #[.agg #[.slice A0_1 l0_1.length c0_1, .bool a0_2], .agg #[.slice A1_0 l1_0.length c1_0, .bool a1_1]] rfl gl_ ?_; (with_reducible refine (pattern_Meet.calls k _ _ l0_1 a0_2 _ _ l1_0 a1_1 t616 t619 true _ ?side1 ?side2 ?side3 ?side4 A7.out).mono ?_); (case side1 => exact sd_); (case side2 => exact HC0_1.out); (case side3 => exact sd_); (case side4 => exact HC1_0.out); rintro e w23 ⟨v617, rfl, ho0, hb⟩; refine ⟨_, rfl, ?_⟩; have n0_ := Aside0.mk (Kd.R_lower ho0 (below_size hb_)); replace BK611 := bb_ BK611 hb; replace BK612 := bb_ BK612 hb; replace BK613 := bb_ BK613 hb; replace HB := hs_ HB hb; have HO618 := n0_; clear n0_; (try clear hb); (try clear ho0)) | ((with_reducible refine gate_dst (N := 9) rfl ?_); refine box_event ?hg (N := 9) ?hd (cs := #[.slice none 0 0, .bool false]) (t := 24) ?hr ?_; (case hd => rfl); (case hg => rfl); (case hr => first | (go_simp; done) | (go_simp; rfl)); intro gb621 hg w24 hbox hb; have BK621 := Aside0.mk hbox; have GW621 := gw_ HB hg; have GE621 := gw_ HB hg; have NB611_621 := nl_ BK611 hg; have NB621_611 := nr_ BK611 hg; have NB612_621 := nl_ BK612 hg; have NB621_612 := nr_ BK612 hg; have NB613_621 := nl_ BK613 hg; have NB621_613 := nr_ BK613 hg; replace HO618 := rb_ HO618 hb; replace BK611 := bb_ BK611 hb; replace BK612 := bb_ BK612 hb; replace BK613 := bb_ BK613 hb; replace HB := hs_ HB hb; clear hb hbox hg; obtain ⟨Ao25, co25, eo25⟩ := Kd.R_slice HO618.out; subst eo25; have hnb26 := NB621_611.out; have hnc26 := NB611_621.out; have hnb27 := NB621_612.out; have hnc27 := NB612_621.out; have hnb28 := NB621_613.out; have hnc28 := NB613_621.out; obtain ⟨hcz29_0, hcz29_1, hfz29_0, hfz29_1⟩ := c2_ BK621; obtain ⟨hcz30_0, hcz30_1, hcz30_2, hcz30_3, hcz30_4, hfz30_0, hfz30_1, hfz30_2, hfz30_3, hfz30_4⟩ := c5_ BK611; obtain ⟨hczz289_0, hczz289_1, hczz289_2, hczz289_3, hczz289_4, hfzz289_0, hfzz289_1, hfzz289_2, hfzz289_3, hfzz289_4⟩ := c5_ BK613) | ((with_reducible refine gate_callee (f := 46) rfl ?_); refine goesL_ (some 40) rfl rfl Tryd.func46 (by kernel_rfl) rfl #[.agg #[.slice A0_1 l0_1.length c0_1, .bool a0_2], .agg #[.slice Ao25 t616.length co25, .bool t619], .agg #[.slice A0_3 l0_3.length c0_3, .bool a0_4]] rfl gl_ ?_; (with_reducible refine (rule_carry.calls k _ _ l0_1 a0_2 _ _ t616 t619 _ _ l0_3 a0_4 t622 t625 true _ ?side1 ?side2 ?side3 ?side4 ?side5 ?side6 A9.out).mono ?_); (case side1 => exact Kd.C_below HR0_1.out hb_); (case side2 => exact HC0_1.out); (case side3 => refine (Kd.R_reads' (e := 9) (base := w.heap.size) (ok := fun k_ => True) (n := t616.length) (c := co25) ?_).2.2; exact (by (with_reducible repeat (first | apply Kd.R_alloc | apply Kd.R_drewN | apply Kd.R_drew)); exact (Kd.R_mono (Kd.R_far (p := ⟨gb621, 1, none⟩) (Kd.R_far (p := ⟨gb621, 0, none⟩) (Kd.R_types HO618.out BK621.out (by decide)) (fun _ hk => hk.2) (.slice Ao25 t616.length co25)) (fun _ hk => hk.2) (.bool t619)) (fun _ h_ => h_.1)))); (case side4 => exact (Kd.R_reads' HO618.out).2.1); (case side5 => exact Kd.C_below HR0_3.out hb_); (case side6 => exact HC0_3.out); rintro e w31 ⟨v623, rfl, ho0, hb⟩; refine ⟨_, rfl, ?_⟩; have n0_ := Aside0.mk (Kd.R_elder' (by (with_reducible repeat (first | apply Kd.R_alloc | apply Kd.R_drewN | apply Kd.R_drew)); exact (Kd.R_mono (Kd.R_far (p := ⟨gb621, 1, none⟩) (Kd.R_far (p := ⟨gb621, 0, none⟩) (Kd.R_types HO618.out BK621.out (by decide)) (fun _ hk => hk.2) (.slice Ao25 t616.length co25)) (fun _ hk => hk.2) (.bool t619)) (fun _ h_ => h_.1))) (Kd.R_base ho0) hb); have n1_ := Aside0.mk (Kd.R_lower (Kd.R_new' ho0 (Kd.R_lt (by (with_reducible repeat (first | apply Kd.R_alloc | apply Kd.R_drewN | apply Kd.R_drew)); exact (Kd.R_mono (Kd.R_far (p := ⟨gb621, 1, none⟩) (Kd.R_far (p := ⟨gb621, 0, none⟩) (Kd.R_types HO618.out BK621.out (by decide)) (fun _ hk => hk.2) (.slice Ao25 t616.length co25)) (fun _ hk => hk.2) (.bool t619)) (fun _ h_ => h_.1))))) (below_size hb_)); have n5_ := Aside0.mk (blk_below (g := gb621) (o := .cells #[.slice Ao25 t616.length co25, .bool t619] 24 (0, 0)) bz_ hb); replace BK611 := bb_ BK611 hb; replace BK612 := bb_ BK612 hb; replace BK613 := bb_ BK613 hb; replace HB := hs_ HB hb; clear HO618 BK621; have HO618 := n0_; have HO624 := n1_; have BK621 := n5_; clear n0_ n1_ n5_; (try clear hb); (try clear ho0)) | ((with_reducible refine gate_dst (N := 11) rfl ?_); refine box_event ?hg (N := 11) ?hd (cs := #[.slice none 0 0, .bool false]) (t := 24) ?hr ?_; (case hd => rfl); (case hg => rfl); (case hr => first | (go_simp; done) | (go_simp; rfl)); intro gb627 hg w32 hbox hb; have BK627 := Aside0.mk hbox; have GW627 := gw_ HB hg; have GE627 := gw_ HB hg; have NB611_627 := nl_ BK611 hg; have NB627_611 := nr_ BK611 hg; have NB612_627 := nl_ BK612 hg; have NB627_612 := nr_ BK612 hg; have NB613_627 := nl_ BK613 hg; have NB627_613 := nr_ BK613 hg; have NB621_627 := nl_ BK621 hg; have NB627_621 := nr_ BK621 hg; replace HO618 := rb_ HO618 hb; replace HO624 := rb_ HO624 hb; replace BK611 := bb_ BK611 hb; replace BK612 := bb_ BK612 hb; replace BK613 := bb_ BK613 hb; replace BK621 := bb_ BK621 hb; replace HB := hs_ HB hb; clear hb hbox hg; obtain ⟨Ao33, co33, eo33⟩ := Kd.R_slice HO624.out; subst eo33; have hnb34 := NB627_611.out; have hnc34 := NB611_627.out; have hnb35 := NB627_612.out; have hnc35 := NB612_627.out; have hnb36 := NB627_613.out; have hnc36 := NB613_627.out; have hnb37 := NB627_621.out; have hnc37 := NB621_627.out; obtain ⟨hcz38_0, hcz38_1, hfz38_0, hfz38_1⟩ := c2_ BK627; obtain ⟨hcz39_0, hcz39_1, hfz39_0, hfz39_1⟩ := c2_ BK621; obtain ⟨hcz40_0, hcz40_1, hcz40_2, hcz40_3, hcz40_4, hfz40_0, hfz40_1, hfz40_2, hfz40_3, hfz40_4⟩ := c5_ BK613) | ((with_reducible refine gate_callee (f := 46) rfl ?_); refine goesL_ (some 40) rfl rfl Tryd.func46 (by kernel_rfl) rfl #[.agg #[.slice A0_1 l0_1.length c0_1, .bool a0_2], .agg #[.slice Ao25 t616.length co25, .bool t619], .agg #[.slice A0_3 l0_3.length c0_3, .bool a0_4]] rfl gl_ ?_; (with_reducible refine (rule_carry.calls k _ _ l0_1 a0_2 _ _ t616 t619 _ _ l0_3 a0_4 t622 t625 false _ ?side1 ?side2 ?side3 ?side4 ?side5 ?side6 A9.out).mono ?_); (case side1 => exact Kd.C_below HR0_1.out hb_); (case side2 => exact HC0_1.out); (case side3 => refine (Kd.R_reads' (e := 9) (base := w.heap.size) (ok := fun k_ => True) (n := t616.length) (c := co25) ?_).2.2; exact (by (with_reducible repeat (first | apply Kd.R_alloc | apply Kd.R_drewN | apply Kd.R_drew)); exact (Kd.R_mono (Kd.R_far (p := ⟨gb621, 1, none⟩) (Kd.R_far (p := ⟨gb621, 0, none⟩) (Kd.R_types HO618.out BK621.out (by decide)) (fun _ hk => hk.2) (.slice Ao25 t616.length co25)) (fun _ hk => hk.2) (.bool t619)) (fun _ h_ => h_.1)))); (case side4 => exact (Kd.R_reads' HO618.out).2.1); (case side5 => exact Kd.C_below HR0_3.out hb_); (case side6 => exact HC0_3.out); rintro e w61 ⟨v623, rfl, ho0, hb⟩; refine ⟨_, rfl, ?_⟩; have n0_ := Aside0.mk (Kd.R_elder' (by (with_reducible repeat (first | apply Kd.R_alloc | apply Kd.R_drewN | apply Kd.R_drew)); exact (Kd.R_mono (Kd.R_far (p := ⟨gb621, 1, none⟩) (Kd.R_far (p := ⟨gb621, 0, none⟩) (Kd.R_types HO618.out BK621.out (by decide)) (fun _ hk => hk.2) (.slice Ao25 t616.length co25)) (fun _ hk => hk.2) (.bool t619)) (fun _ h_ => h_.1))) (Kd.R_base ho0) hb); have n1_ := Aside0.mk (Kd.R_lower (Kd.R_new' ho0 (Kd.R_lt (by (with_reducible repeat (first | apply Kd.R_alloc | apply Kd.R_drewN | apply Kd.R_drew)); exact (Kd.R_mono (Kd.R_far (p := ⟨gb621, 1, none⟩) (Kd.R_far (p := ⟨gb621, 0, none⟩) (Kd.R_types HO618.out BK621.out (by decide)) (fun _ hk => hk.2) (.slice Ao25 t616.length co25)) (fun _ hk => hk.2) (.bool t619)) (fun _ h_ => h_.1))))) (below_size hb_)); have n5_ := Aside0.mk (blk_below (g := gb621) (o := .cells #[.slice Ao25 t616.length co25, .bool t619] 24 (0, 0)) bz_ hb); replace BK611 := bb_ BK611 hb; replace BK612 := bb_ BK612 hb; replace BK613 := bb_ BK613 hb; replace HB := hs_ HB hb; clear HO618 BK621; have HO618 := n0_; have HO624 := n1_; have BK621 := n5_; clear n0_ n1_ n5_; (try clear hb); (try clear ho0)) | ((with_reducible refine gate_callee (f := 44) rfl ?_); refine goesL_ (some 28) rfl rfl Tryd.func44 (by kernel_rfl) rfl #[.agg #[.slice A0_1 l0_1.length c0_1, .bool a0_2], .agg #[.slice A1_0 l1_0.length c1_0, .bool a1_1]] rfl gl_ ?_; (with_reducible refine (pattern_Meet.calls k _ _ l0_1 a0_2 _ _ l1_0 a1_1 t616 t619 false _ ?side1 ?side2 ?side3 ?side4 A7.out).mono ?_); (case side1 => exact sd_); (case side2 => exact HC0_1.out); (case side3 => exact sd_); (case side4 => exact HC1_0.out); rintro e w82 ⟨v617, rfl, ho0, hb⟩; refine ⟨_, rfl, ?_⟩; have n0_ := Aside0.mk (Kd.R_lower ho0 (below_size hb_)); replace BK611 := bb_ BK611 hb; replace BK612 := bb_ BK612 hb; replace BK613 := bb_ BK613 hb; replace HB := hs_ HB hb; have HO618 := n0_; clear n0_; (try clear hb); (try clear ho0)))
 ·refine bodyPost_ret (results_ctt rfl _ _ gb613 39 #[.bool false, .slice Ao25 t616.length co25, .bool t619, .slice Ao33 t622.length co33, .bool t625] (0, 0) _ rfl bz_ Tryd.underlying39 rfl (by kernel_rfl)) rfl ?_
  exact ⟨_, _, rt_, by (with_reducible repeat (first | apply Kd.R_alloc | apply Kd.R_drewN | apply Kd.R_drew)); exact Kd.R_mono (Kd.R_far (p := ⟨gb613, 4, none⟩) (Kd.R_far (p := ⟨gb613, 3, none⟩) (Kd.R_far (p := ⟨gb613, 2, none⟩) (Kd.R_far (p := ⟨gb613, 1, none⟩) (Kd.R_far (p := ⟨gb613, 0, none⟩) (Kd.R_far (p := ⟨gb627, 1, none⟩) (Kd.R_far (p := ⟨gb627, 0, none⟩) (Kd.R_types (Kd.R_types HO618.out BK627.out (by decide)) BK613.out (by decide)) (fun _ hk => hk.1.2) (.slice Ao33 t622.length co33)) (fun _ hk => hk.1.2) (.bool t625)) (fun _ hk => hk.2) (.bool false)) (fun _ hk => hk.2) (.slice Ao25 t616.length co25)) (fun _ hk => hk.2) (.bool t619)) (fun _ hk => hk.2) (.slice Ao33 t622.length co33)) (fun _ hk => hk.2) (.bool t625)) (fun _ hk => hk.1.1.2), by (with_reducible repeat (first | apply Kd.R_alloc | apply Kd.R_drewN | apply Kd.R_drew)); exact Kd.R_mono (Kd.R_far (p := ⟨gb613, 4, none⟩) (Kd.R_far (p := ⟨gb613, 3, none⟩) (Kd.R_far (p := ⟨gb613, 2, none⟩) (Kd.R_far (p := ⟨gb613, 1, none⟩) (Kd.R_far (p := ⟨gb613, 0, none⟩) (Kd.R_far (p := ⟨gb627, 1, none⟩) (Kd.R_far (p := ⟨gb627, 0, none⟩) (Kd.R_types (Kd.R_types HO624.out BK627.out (by decide)) BK613.out (by decide)) (fun _ hk => hk.1.2) (.slice Ao33 t622.length co33)) (fun _ hk => hk.1.2) (.bool t625)) (fun _ hk => hk.2) (.bool false)) (fun _ hk => hk.2) (.slice Ao25 t616.length co25)) (fun _ hk => hk.2) (.bool t619)) (fun _ hk => hk.2) (.slice Ao33 t622.length co33)) (fun _ hk => hk.2) (.bool t625)) (fun _ hk => hk.1.1.2), hb_⟩
 ·refine bodyPost_ret (results_ctt rfl _ _ gb613 39 #[.bool false, .slice none 0 0, .bool false, .slice none 0 0, .bool false] (0, 0) _ rfl bz_ Tryd.underlying39 rfl (by kernel_rfl)) rfl ?_
  exact ⟨_, _, rt_, rn_, rn_, hb_⟩
 ·refine bodyPost_ret (results_ctt rfl _ _ gb613 39 #[.bool false, .slice none 0 0, .bool false, .slice none 0 0, .bool false] (0, 0) _ rfl bz_ Tryd.underlying39 rfl (by kernel_rfl)) rfl ?_
  exact ⟨_, _, rt_, rn_, rn_, hb_⟩
 ·refine bodyPost_ret (results_ctt rfl _ _ gb613 39 #[.bool false, .slice none 0 0, .bool false, .slice none 0 0, .bool false] (0, 0) _ rfl bz_ Tryd.underlying39 rfl (by kernel_rfl)) rfl ?_
  exact ⟨_, _, rt_, rn_, rn_, hb_⟩
 ·refine bodyPost_ret (results_ctt rfl _ _ gb613 39 #[.bool false, .slice none 0 0, .bool false, .slice none 0 0, .bool false] (0, 0) _ rfl bz_ Tryd.underlying39 rfl (by kernel_rfl)) rfl ?_
  exact ⟨_, _, rt_, rn_, rn_, hb_⟩

end Go.Proofs.YthclkdplihchjaaDoor.P

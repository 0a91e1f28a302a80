-- Written by a program of this session (wip/gen.py) over the kit's print: each Go function as a plain Lean function, and the proof that the Go code comes to it. Nothing here is trusted: Lean checks it.
import Derived.Test.YthclkdplihchjaaDoorPx0
import Derived.Test.YthclkdplihchjaaDoorPx3
import Derived.Test.YthclkdplihchjaaDoorPx5
import Derived.Test.YthclkdplihchjaaDoorPx12
import Derived.Test.YthclkdplihchjaaDoorSq
namespace Go.Proofs.YthclkdplihchjaaDoor.P
open Go.RowKit Go.Proofs.YthclkdplihchjaaDoorW.PrintWords Go.Proofs.YthclkdplihchjaaDoorW.PrintLast Go.Proofs.YthclkdplihchjaaDoorW.PrintMore
attribute [local go_sem] str_gtr str_leq str_geq max2_int min2_int max_two min_two max_three min_three max_four min_four   -- for this text's walks alone
set_option linter.unusedVariables false
set_option linter.unusedSimpArgs false

/-! ### stockyardlaw04_RuleNarrowMeans: function 9 -/
mutual
def stockyardlaw04_RuleNarrowMeans.j0 : Nat → ByteArray → Bool → Bool → List ByteArray → Bool → List ByteArray → Bool → List ByteArray → Bool → Option (Bool)
  | 0, _, _, _, _, _, _, _, _, _ => none
  | k + 1, x2, x26, x911000, x911001, x911002, x911003, x911004, x912000, x912001 => if x26 = true then ((stockyardlaw04_awake.f k).bind fun t914 => (some t914)) else ((rule_NarrowLeft.f k x911000 x911001 x911002 x911003 x911004 x912000 x912001).bind fun bt915 => (if bt915.2.2.2.2.2.2 = 0 then ((rule_Forward.f k x911000 x911001 x911002 x911003 x911004 x2).bind fun bt928 => (if bt928.2 = true then ((stockyardlaw04_has.f k x912000 x912001 x2).bind fun t930 => (stockyardlaw04_RuleNarrowMeans.j1 k x2 bt915.2.2.2.2.2.1 bt928.1 t930 bt915.1 bt915.2.1 bt915.2.2.1 bt915.2.2.2.1 bt915.2.2.2.2.1)) else (stockyardlaw04_RuleNarrowMeans.j1 k x2 bt915.2.2.2.2.2.1 bt928.1 false bt915.1 bt915.2.1 bt915.2.2.1 bt915.2.2.2.1 bt915.2.2.2.2.1))) else ((stockyardlaw04_awake.f k).bind fun t927 => (some t927))))
def stockyardlaw04_RuleNarrowMeans.j1 : Nat → ByteArray → Bool → ByteArray → Bool → Bool → List ByteArray → Bool → List ByteArray → Bool → Option (Bool)
  | 0, _, _, _, _, _, _, _, _, _ => none
  | k + 1, x2, x8, x10, x11, x927000, x927001, x927002, x927003, x927004 => if x11 = true then (stockyardlaw04_RuleNarrowMeans.j2 k x2 x8 x10 x11 x927000 x927001 x927002 x927003 x927004) else (stockyardlaw04_RuleNarrowMeans.j2 k x2 x8 (⟨#[]⟩ : ByteArray) x11 x927000 x927001 x927002 x927003 x927004)
def stockyardlaw04_RuleNarrowMeans.j2 : Nat → ByteArray → Bool → ByteArray → Bool → Bool → List ByteArray → Bool → List ByteArray → Bool → Option (Bool)
  | 0, _, _, _, _, _, _, _, _, _ => none
  | k + 1, x2, x8, x10, x11, x927000, x927001, x927002, x927003, x927004 => if x8 = true then ((rule_Forward.f k x927000 x927001 x927002 x927003 x927004 x2).bind fun bt931 => (if bt931.1.toList = x10.toList then (if (bt931.2 == x11) = true then ((stockyardlaw04_awake.f k).bind fun t933 => (some t933)) else (some false)) else (some false))) else (if x11 = true then (some false) else ((stockyardlaw04_awake.f k).bind fun t934 => (some t934)))
end
def stockyardlaw04_RuleNarrowMeans.f (k : Nat) (a0_0 : Bool) (l0_1 : List ByteArray) (a0_2 : Bool) (l0_3 : List ByteArray) (a0_4 : Bool) (l1_0 : List ByteArray) (a1_1 : Bool) (a2 : ByteArray) : Option (Bool) := (stockyardlaw04_fit.f k a0_0 l0_1 a0_2 l0_3 a0_4).bind fun t912 => (if t912 = true then ((stockyardlaw04_small.f k l1_0 a1_1).bind fun t913 => (if t913 = true then (stockyardlaw04_RuleNarrowMeans.j0 k a2 (decide ((a2.size : Int) > 300)) a0_0 l0_1 a0_2 l0_3 a0_4 l1_0 a1_1) else (stockyardlaw04_RuleNarrowMeans.j0 k a2 true a0_0 l0_1 a0_2 l0_3 a0_4 l1_0 a1_1))) else (stockyardlaw04_RuleNarrowMeans.j0 k a2 true a0_0 l0_1 a0_2 l0_3 a0_4 l1_0 a1_1))
set_option maxHeartbeats 8000000 in
set_option maxRecDepth 100000 in
theorem stockyardlaw04_RuleNarrowMeans.calls (k : Nat) (a0_0 : Bool) (A0_1 : Option Addr) (c0_1 : Nat) (l0_1 : List ByteArray) (a0_2 : Bool) (A0_3 : Option Addr) (c0_3 : Nat) (l0_3 : List ByteArray) (a0_4 : Bool) (A1_0 : Option Addr) (c1_0 : Nat) (l1_0 : List ByteArray) (a1_1 : Bool) (a2 : ByteArray) (r : Bool) (w : World) (hr0_1 : Kd.C Kd.string w A0_1 l0_1.length l0_1) (hc0_1 : l0_1.length ≤ c0_1) (hr0_3 : Kd.C Kd.string w A0_3 l0_3.length l0_3) (hc0_3 : l0_3.length ≤ c0_3) (hr1_0 : Kd.C Kd.string w A1_0 l1_0.length l1_0) (hc1_0 : l1_0.length ≤ c1_0) (h : stockyardlaw04_RuleNarrowMeans.f k a0_0 l0_1 a0_2 l0_3 a0_4 l1_0 a1_1 a2 = some r) :
  Calls Tryd.prog 9 #[.agg #[.bool a0_0, .slice A0_1 l0_1.length c0_1, .bool a0_2, .slice A0_3 l0_3.length c0_3, .bool a0_4], .agg #[.slice A1_0 l1_0.length c1_0, .bool a1_1], .string a2] w fun e w' => e = .returned (.bool r) ∧ Below w.heap.size w w' := by
 have hu39 := Tryd.underlying39
 have hu24 := Tryd.underlying24
 have HR0_1 := Aside0.mk hr0_1
 have HC0_1 := Aside0.mk hc0_1
 clear hr0_1 hc0_1
 have HR0_3 := Aside0.mk hr0_3
 have HC0_3 := Aside0.mk hc0_3
 clear hr0_3 hc0_3
 have HR1_0 := Aside0.mk hr1_0
 have HC1_0 := Aside0.mk hc1_0
 clear hr1_0 hc1_0
 have HB := Aside0.mk (Below.refl w.heap.size w)
 have H : ((stockyardlaw04_fit.f k a0_0 l0_1 a0_2 l0_3 a0_4).bind fun t912 => (if t912 = true then ((stockyardlaw04_small.f k l1_0 a1_1).bind fun t913 => (if t913 = true then (stockyardlaw04_RuleNarrowMeans.j0 k a2 (decide ((a2.size : Int) > 300)) a0_0 l0_1 a0_2 l0_3 a0_4 l1_0 a1_1) else (stockyardlaw04_RuleNarrowMeans.j0 k a2 true a0_0 l0_1 a0_2 l0_3 a0_4 l1_0 a1_1))) else (stockyardlaw04_RuleNarrowMeans.j0 k a2 true a0_0 l0_1 a0_2 l0_3 a0_4 l1_0 a1_1))) = some r := h
 clear h
 have HC4 := Aside0.mk H
 clear H
 go_enter Tryd.func9, Tryd.ntmps9
 go_upto_region 1 with (first | ((with_reducible refine gate_dst (N := 3) rfl ?_); (try (refine gate_guard (by rfl) ?_; dsimp only)); refine box_event ?hg (N := 3) ?hd (cs := #[.bool a0_0, .slice A0_1 l0_1.length c0_1, .bool a0_2, .slice A0_3 l0_3.length c0_3, .bool a0_4]) (t := 39) ?hr ?_; (case hd => rfl); (case hg => rfl); (case hr => first | (go_simp; done) | (go_simp; rfl)); intro gb910 hg w5 hbox hb; have BK910 := Aside0.mk hbox; have GW910 := gw_ HB hg; have GE910 := gw_ HB hg; replace HB := hs_ HB hb; clear hb hbox hg) | ((with_reducible refine gate_dst (N := 4) rfl ?_); (try (refine gate_guard (by rfl) ?_; dsimp only)); refine box_event ?hg (N := 4) ?hd (cs := #[.slice A1_0 l1_0.length c1_0, .bool a1_1]) (t := 24) ?hr ?_; (case hd => rfl); (case hg => rfl); (case hr => first | (go_simp; done) | (go_simp; rfl)); intro gb911 hg w6 hbox hb; have BK911 := Aside0.mk hbox; have GW911 := gw_ HB hg; have GE911 := gw_ HB hg; have NB910_911 := nl_ BK910 hg; have NB911_910 := nr_ BK910 hg; replace BK910 := bb_ BK910 hb; replace HB := hs_ HB hb; clear hb hbox hg))
 (try simp only [Act.put, List.setIfInBounds_toArray, List.set_cons_zero, List.set_cons_succ])
 go_cut [26] (fun v26 wc => ∃ (kq : Nat) (x26_3 : Bool), v26 = .bool x26_3 ∧ Aside0 (stockyardlaw04_RuleNarrowMeans.j0 kq a2 x26_3 a0_0 l0_1 a0_2 l0_3 a0_4 l1_0 a1_1 = some r) ∧ Aside0 (kq ≤ k) ∧ Aside0 (wc.heap[gb910]? = some (.cells #[.bool a0_0, (.slice A0_1 l0_1.length c0_1), .bool a0_2, (.slice A0_3 l0_3.length c0_3), .bool a0_4] 39 (0, 0))) ∧ Aside0 (wc.heap[gb911]? = some (.cells #[(.slice A1_0 l1_0.length c1_0), .bool a1_1] 24 (0, 0))) ∧ Aside0 (Below w.heap.size w wc))
 case first =>
  have H := HC4.out
  clear HC4
  replace H := Option.bind_eq_some_iff.mp H
  obtain ⟨t912, A70, H⟩ := H
  replace H : (if t912 = true then ((stockyardlaw04_small.f k l1_0 a1_1).bind fun t913 => (if t913 = true then (stockyardlaw04_RuleNarrowMeans.j0 k a2 (decide ((a2.size : Int) > 300)) a0_0 l0_1 a0_2 l0_3 a0_4 l1_0 a1_1) else (stockyardlaw04_RuleNarrowMeans.j0 k a2 true a0_0 l0_1 a0_2 l0_3 a0_4 l1_0 a1_1))) else (stockyardlaw04_RuleNarrowMeans.j0 k a2 true a0_0 l0_1 a0_2 l0_3 a0_4 l1_0 a1_1)) = some r := H
  have A7 := Aside0.mk A70
  clear A70
  by_cases c8 : t912 = true
  ·subst c8
   replace H := ip_ H
   replace H := Option.bind_eq_some_iff.mp H
   obtain ⟨t913, A90, H⟩ := H
   replace H : (if t913 = true then (stockyardlaw04_RuleNarrowMeans.j0 k a2 (decide ((a2.size : Int) > 300)) a0_0 l0_1 a0_2 l0_3 a0_4 l1_0 a1_1) else (stockyardlaw04_RuleNarrowMeans.j0 k a2 true a0_0 l0_1 a0_2 l0_3 a0_4 l1_0 a1_1)) = some r := H
   have A9 := Aside0.mk A90
   clear A90
   by_cases c10 : t913 = true
   ·subst c10
    replace H := ip_ H
    have H' := Aside0.mk H
    clear H
    have hnb11 := NB910_911.out
    have hnc11 := NB911_910.out
    obtain ⟨hcz12_0, hcz12_1, hcz12_2, hcz12_3, hcz12_4, hfz12_0, hfz12_1, hfz12_2, hfz12_3, hfz12_4⟩ := c5_ BK910
    go_wp2_with (first | ((with_reducible refine gate_callee (f := 21) rfl ?_); refine goesL_ (some 15) rfl rfl Tryd.func21 (by kernel_rfl) rfl #[.agg #[.bool a0_0, .slice A0_1 l0_1.length c0_1, .bool a0_2, .slice A0_3 l0_3.length c0_3, .bool a0_4]] rfl gl_ ?_; (with_reducible refine (stockyardlaw04_fit.calls k a0_0 _ _ l0_1 a0_2 _ _ l0_3 a0_4 true _ ?side1 ?side2 ?side3 ?side4 A7.out).mono ?_); (case side1 => exact sd_); (case side2 => exact HC0_1.out); (case side3 => exact sd_); (case side4 => exact HC0_3.out); rintro e w13 ⟨rfl, hb⟩; refine ⟨_, rfl, ?_⟩; replace BK910 := bb_ BK910 hb; replace BK911 := bb_ BK911 hb; replace HB := hs_ HB hb; (try clear hb); obtain ⟨hcz14_0, hcz14_1, hfz14_0, hfz14_1⟩ := c2_ BK911) | (go_at_call 26; (with_reducible refine (stockyardlaw04_small.calls k _ _ l1_0 a1_1 true _ ?side1 ?side2 A9.out).mono ?_); (case side1 => exact sd_); (case side2 => exact HC1_0.out); rintro e w15 ⟨rfl, hb⟩; replace BK910 := bb_ BK910 hb; replace BK911 := bb_ BK911 hb; replace HB := hs_ HB hb; (try clear hb)))
    go_meet
    case rel => exact ⟨_, (decide ((a2.size : Int) > 300)), rs_, H', ⟨om_⟩, ⟨bk_⟩, ⟨bk_⟩, ⟨hb_⟩⟩
   ·replace c10 := Bool.eq_false_iff.mpr c10
    subst c10
    replace H := in_ H
    have H' := Aside0.mk H
    clear H
    have hnb16 := NB910_911.out
    have hnc16 := NB911_910.out
    obtain ⟨hcz17_0, hcz17_1, hcz17_2, hcz17_3, hcz17_4, hfz17_0, hfz17_1, hfz17_2, hfz17_3, hfz17_4⟩ := c5_ BK910
    go_wp2_with (first | ((with_reducible refine gate_callee (f := 21) rfl ?_); refine goesL_ (some 15) rfl rfl Tryd.func21 (by kernel_rfl) rfl #[.agg #[.bool a0_0, .slice A0_1 l0_1.length c0_1, .bool a0_2, .slice A0_3 l0_3.length c0_3, .bool a0_4]] rfl gl_ ?_; (with_reducible refine (stockyardlaw04_fit.calls k a0_0 _ _ l0_1 a0_2 _ _ l0_3 a0_4 true _ ?side1 ?side2 ?side3 ?side4 A7.out).mono ?_); (case side1 => exact sd_); (case side2 => exact HC0_1.out); (case side3 => exact sd_); (case side4 => exact HC0_3.out); rintro e w18 ⟨rfl, hb⟩; refine ⟨_, rfl, ?_⟩; replace BK910 := bb_ BK910 hb; replace BK911 := bb_ BK911 hb; replace HB := hs_ HB hb; (try clear hb); obtain ⟨hcz19_0, hcz19_1, hfz19_0, hfz19_1⟩ := c2_ BK911) | (go_at_call 26; (with_reducible refine (stockyardlaw04_small.calls k _ _ l1_0 a1_1 false _ ?side1 ?side2 A9.out).mono ?_); (case side1 => exact sd_); (case side2 => exact HC1_0.out); rintro e w20 ⟨rfl, hb⟩; replace BK910 := bb_ BK910 hb; replace BK911 := bb_ BK911 hb; replace HB := hs_ HB hb; (try clear hb)))
    go_meet
    case rel => exact ⟨_, (true), rs_, H', ⟨om_⟩, ⟨bk_⟩, ⟨bk_⟩, ⟨hb_⟩⟩
  ·replace c8 := Bool.eq_false_iff.mpr c8
   subst c8
   replace H := in_ H
   have H' := Aside0.mk H
   clear H
   have hnb21 := NB910_911.out
   have hnc21 := NB911_910.out
   obtain ⟨hcz22_0, hcz22_1, hcz22_2, hcz22_3, hcz22_4, hfz22_0, hfz22_1, hfz22_2, hfz22_3, hfz22_4⟩ := c5_ BK910
   go_wp2_with (first | ((with_reducible refine gate_callee (f := 21) rfl ?_); refine goesL_ (some 15) rfl rfl Tryd.func21 (by kernel_rfl) rfl #[.agg #[.bool a0_0, .slice A0_1 l0_1.length c0_1, .bool a0_2, .slice A0_3 l0_3.length c0_3, .bool a0_4]] rfl gl_ ?_; (with_reducible refine (stockyardlaw04_fit.calls k a0_0 _ _ l0_1 a0_2 _ _ l0_3 a0_4 false _ ?side1 ?side2 ?side3 ?side4 A7.out).mono ?_); (case side1 => exact sd_); (case side2 => exact HC0_1.out); (case side3 => exact sd_); (case side4 => exact HC0_3.out); rintro e w23 ⟨rfl, hb⟩; refine ⟨_, rfl, ?_⟩; replace BK910 := bb_ BK910 hb; replace BK911 := bb_ BK911 hb; replace HB := hs_ HB hb; (try clear hb)))
   go_meet
   case rel => exact ⟨_, (true), rs_, H', ⟨om_⟩, ⟨bk_⟩, ⟨bk_⟩, ⟨hb_⟩⟩
 case rest =>
  clear HC4
  obtain ⟨kq, x26_3, rfl, HA, HJ3, BK910, BK911, HB⟩ := hcut
  cases kq with
  | zero => exact absurd HA.out (by simp [stockyardlaw04_RuleNarrowMeans.j0])
  | succ kj3 =>
   have H := HA.out
   clear HA
   simp only [stockyardlaw04_RuleNarrowMeans.j0] at H
   by_cases c24 : x26_3 = true
   ·subst c24
    replace H := ip_ H
    replace H := Option.bind_eq_some_iff.mp H
    obtain ⟨t914, A250, H⟩ := H
    replace H : (some t914) = some r := H
    have A25 := Aside0.mk A250
    clear A250
    obtain rfl := Option.some.inj H
    go_wp2_with (first | ((with_reducible refine gate_callee (f := 22) rfl ?_); refine goesL_ (some 27) rfl rfl Tryd.func22 (by kernel_rfl) rfl #[] rfl gl_ ?_; (with_reducible refine (stockyardlaw04_awake.calls kj3  t914 _ A25.out).mono ?_); rintro e w26 ⟨rfl, hb⟩; refine ⟨_, rfl, ?_⟩; replace BK910 := bb_ BK910 hb; replace BK911 := bb_ BK911 hb; replace HB := hs_ HB hb; (try clear hb)))
    go_ret
    exact ⟨rt_, hb_⟩
   ·replace c24 := Bool.eq_false_iff.mpr c24
    subst c24
    replace H := in_ H
    replace H := Option.bind_eq_some_iff.mp H
    obtain ⟨⟨t915, t916, t919, t920, t923, t924, t925⟩, A270, H⟩ := H
    replace H : (if t925 = 0 then ((rule_Forward.f kj3 a0_0 l0_1 a0_2 l0_3 a0_4 a2).bind fun bt928 => (if bt928.2 = true then ((stockyardlaw04_has.f kj3 l1_0 a1_1 a2).bind fun t930 => (stockyardlaw04_RuleNarrowMeans.j1 kj3 a2 t924 bt928.1 t930 t915 t916 t919 t920 t923)) else (stockyardlaw04_RuleNarrowMeans.j1 kj3 a2 t924 bt928.1 false t915 t916 t919 t920 t923))) else ((stockyardlaw04_awake.f kj3).bind fun t927 => (some t927))) = some r := H
    have A27 := Aside0.mk A270
    clear A270
    by_cases c28 : t925 = 0
    ·rw [if_pos c28] at H
     have c28b0 := beq_iff_eq.mpr c28
     have c28b1 := bne_eq_false_iff_eq.mpr c28
     clear c28
     replace H := Option.bind_eq_some_iff.mp H
     obtain ⟨⟨t928, t929⟩, A290, H⟩ := H
     replace H : (if t929 = true then ((stockyardlaw04_has.f kj3 l1_0 a1_1 a2).bind fun t930 => (stockyardlaw04_RuleNarrowMeans.j1 kj3 a2 t924 t928 t930 t915 t916 t919 t920 t923)) else (stockyardlaw04_RuleNarrowMeans.j1 kj3 a2 t924 t928 false t915 t916 t919 t920 t923)) = some r := H
     have A29 := Aside0.mk A290
     clear A290
     have HC30 := Aside0.mk H
     clear H
     have hnb31 := NB910_911.out
     have hnc31 := NB911_910.out
     obtain ⟨hcz32_0, hcz32_1, hcz32_2, hcz32_3, hcz32_4, hfz32_0, hfz32_1, hfz32_2, hfz32_3, hfz32_4⟩ := c5_ BK910
     obtain ⟨hcz33_0, hcz33_1, hfz33_0, hfz33_1⟩ := c2_ BK911
     go_upto_region 7 with (first | ((with_reducible refine gate_callee (f := 27) rfl ?_); refine goesL_ (some 31) rfl rfl Tryd.func27 (by kernel_rfl) rfl #[.agg #[.bool a0_0, .slice A0_1 l0_1.length c0_1, .bool a0_2, .slice A0_3 l0_3.length c0_3, .bool a0_4], .agg #[.slice A1_0 l1_0.length c1_0, .bool a1_1]] rfl gl_ ?_; (with_reducible refine (rule_NarrowLeft.calls kj3 a0_0 _ _ l0_1 a0_2 _ _ l0_3 a0_4 _ _ l1_0 a1_1 t915 t916 t919 t920 t923 t924 t925 _ ?side1 ?side2 ?side3 ?side4 ?side5 ?side6 A27.out).mono ?_); (case side1 => exact sd_); (case side2 => exact HC0_1.out); (case side3 => exact sd_); (case side4 => exact HC0_3.out); (case side5 => exact sd_); (case side6 => exact HC1_0.out); rintro e w34 ⟨v917, v921, rfl, ho0, ho1, hb⟩; refine ⟨_, rfl, ?_⟩; have n0_ := Aside0.mk (Kd.R_lower ho0 (below_size hb_)); have n1_ := Aside0.mk (Kd.R_lower ho1 (below_size hb_)); replace BK910 := bb_ BK910 hb; replace BK911 := bb_ BK911 hb; replace HB := hs_ HB hb; have HO918 := n0_; have HO922 := n1_; clear n0_ n1_; (try clear hb); (try clear ho0); (try clear ho1)) | ((with_reducible refine gate_dst (N := 7) rfl ?_); (try (refine gate_guard (by rfl) ?_; dsimp only)); refine box_event ?hg (N := 7) ?hd (cs := #[.bool false, .slice none 0 0, .bool false, .slice none 0 0, .bool false]) (t := 39) ?hr ?_; (case hd => rfl); (case hg => rfl); (case hr => first | (go_simp; done) | (go_simp; rfl)); intro gb926 hg w35 hbox hb; have BK926 := Aside0.mk hbox; have GW926 := gw_ HB hg; have GE926 := gw_ HB hg; have NB910_926 := nl_ BK910 hg; have NB926_910 := nr_ BK910 hg; have NB911_926 := nl_ BK911 hg; have NB926_911 := nr_ BK911 hg; replace HO918 := rb_ HO918 hb; replace HO922 := rb_ HO922 hb; replace BK910 := bb_ BK910 hb; replace BK911 := bb_ BK911 hb; replace HB := hs_ HB hb; clear hb hbox hg; have hnb36 := NB926_910.out; have hnc36 := NB910_926.out; have hnb37 := NB926_911.out; have hnc37 := NB911_926.out; obtain ⟨hcz38_0, hcz38_1, hcz38_2, hcz38_3, hcz38_4, hfz38_0, hfz38_1, hfz38_2, hfz38_3, hfz38_4⟩ := c5_ BK926; obtain ⟨Ao39, co39, eo39⟩ := Kd.R_slice HO918.out; subst eo39; obtain ⟨Ao40, co40, eo40⟩ := Kd.R_slice HO922.out; subst eo40; obtain ⟨hcz41_0, hcz41_1, hcz41_2, hcz41_3, hcz41_4, hfz41_0, hfz41_1, hfz41_2, hfz41_3, hfz41_4⟩ := c5_ BK910) | ((with_reducible refine gate_callee (f := 24) rfl ?_); refine goesL_ (some 41) rfl rfl Tryd.func24 (by kernel_rfl) rfl #[.agg #[.bool a0_0, .slice A0_1 l0_1.length c0_1, .bool a0_2, .slice A0_3 l0_3.length c0_3, .bool a0_4], .string a2] rfl gl_ ?_; (with_reducible refine (rule_Forward.calls kj3 a0_0 _ _ l0_1 a0_2 _ _ l0_3 a0_4 a2 t928 t929 _ ?side1 ?side2 ?side3 ?side4 A29.out).mono ?_); (case side1 => exact Kd.C_below HR0_1.out hb_); (case side2 => exact HC0_1.out); (case side3 => exact Kd.C_below HR0_3.out hb_); (case side4 => exact HC0_3.out); rintro e w42 ⟨rfl, hb⟩; refine ⟨_, rfl, ?_⟩; have n0_ := Aside0.mk (Kd.R_below (by (with_reducible repeat (first | apply Kd.R_alloc | apply Kd.R_drewN | apply Kd.R_drew)); exact (Kd.R_mono (Kd.R_far (p := ⟨gb926, 4, none⟩) (Kd.R_far (p := ⟨gb926, 3, none⟩) (Kd.R_far (p := ⟨gb926, 2, none⟩) (Kd.R_far (p := ⟨gb926, 1, none⟩) (Kd.R_far (p := ⟨gb926, 0, none⟩) (Kd.R_types HO918.out BK926.out (by decide)) (fun _ hk => hk.2) (.bool t915)) (fun _ hk => hk.2) (.slice Ao39 t916.length co39)) (fun _ hk => hk.2) (.bool t919)) (fun _ hk => hk.2) (.slice Ao40 t920.length co40)) (fun _ hk => hk.2) (.bool t923)) (fun _ h_ => h_.1))) hb); have n1_ := Aside0.mk (Kd.R_below (by (with_reducible repeat (first | apply Kd.R_alloc | apply Kd.R_drewN | apply Kd.R_drew)); exact (Kd.R_mono (Kd.R_far (p := ⟨gb926, 4, none⟩) (Kd.R_far (p := ⟨gb926, 3, none⟩) (Kd.R_far (p := ⟨gb926, 2, none⟩) (Kd.R_far (p := ⟨gb926, 1, none⟩) (Kd.R_far (p := ⟨gb926, 0, none⟩) (Kd.R_types HO922.out BK926.out (by decide)) (fun _ hk => hk.2) (.bool t915)) (fun _ hk => hk.2) (.slice Ao39 t916.length co39)) (fun _ hk => hk.2) (.bool t919)) (fun _ hk => hk.2) (.slice Ao40 t920.length co40)) (fun _ hk => hk.2) (.bool t923)) (fun _ h_ => h_.1))) hb); have n4_ := Aside0.mk (blk_below (g := gb926) (o := .cells #[.bool t915, .slice Ao39 t916.length co39, .bool t919, .slice Ao40 t920.length co40, .bool t923] 39 (0, 0)) bz_ hb); replace BK910 := bb_ BK910 hb; replace BK911 := bb_ BK911 hb; replace HB := hs_ HB hb; clear HO918 HO922 BK926; have HO918 := n0_; have HO922 := n1_; have BK926 := n4_; clear n0_ n1_ n4_; (try clear hb)))
     (try simp only [Act.put, List.setIfInBounds_toArray, List.set_cons_zero, List.set_cons_succ])
     go_cut [11] (fun v11 wc => ∃ (kq : Nat) (x11_29 : Bool), v11 = .bool x11_29 ∧ Aside0 (stockyardlaw04_RuleNarrowMeans.j1 kq a2 t924 t928 x11_29 t915 t916 t919 t920 t923 = some r) ∧ Aside0 (kq ≤ kj3) ∧ Aside0 (Kd.R Kd.string 9 wc w.heap.size (fun k_ => some k_ ≠ ((.slice Ao40 t920.length co40) : Value).ownBlock) (.slice Ao39 t916.length co39) t916) ∧ Aside0 (Kd.R Kd.string 9 wc w.heap.size (fun k_ => some k_ ≠ ((.slice Ao39 t916.length co39) : Value).ownBlock) (.slice Ao40 t920.length co40) t920) ∧ Aside0 (wc.heap[gb910]? = some (.cells #[.bool a0_0, (.slice A0_1 l0_1.length c0_1), .bool a0_2, (.slice A0_3 l0_3.length c0_3), .bool a0_4] 39 (0, 0))) ∧ Aside0 (wc.heap[gb911]? = some (.cells #[(.slice A1_0 l1_0.length c1_0), .bool a1_1] 24 (0, 0))) ∧ Aside0 (wc.heap[gb926]? = some (.cells #[.bool t915, (.slice Ao39 t916.length co39), .bool t919, (.slice Ao40 t920.length co40), .bool t923] 39 (0, 0))) ∧ Aside0 (Below w.heap.size w wc))
     case first =>
      have H := HC30.out
      clear HC30
      by_cases c43 : t929 = true
      ·subst c43
       replace H := ip_ H
       replace H := Option.bind_eq_some_iff.mp H
       obtain ⟨t930, A440, H⟩ := H
       replace H : (stockyardlaw04_RuleNarrowMeans.j1 kj3 a2 t924 t928 t930 t915 t916 t919 t920 t923) = some r := H
       have A44 := Aside0.mk A440
       clear A440
       have H' := Aside0.mk H
       clear H
       have hnb45 := NB911_910.out
       have hnc45 := NB910_911.out
       have hnb46 := NB911_926.out
       have hnc46 := NB926_911.out
       obtain ⟨hcz47_0, hcz47_1, hfz47_0, hfz47_1⟩ := c2_ BK911
       go_wp2_with (first | (go_at_call 30; (with_reducible refine (stockyardlaw04_has.calls kj3 _ _ l1_0 a1_1 a2 t930 _ ?side1 ?side2 A44.out).mono ?_); (case side1 => exact sd_); (case side2 => exact HC1_0.out); rintro e w48 ⟨rfl, hb⟩; replace HO918 := rb_ HO918 hb; replace HO922 := rb_ HO922 hb; replace BK910 := bb_ BK910 hb; replace BK911 := bb_ BK911 hb; replace BK926 := bb_ BK926 hb; replace HB := hs_ HB hb; (try clear hb)))
       go_meet
       case rel => exact ⟨_, (t930), rs_, H', ⟨by have := HJ3.out; first | omega | exact Nat.le_refl _⟩, ⟨by (with_reducible repeat (first | apply Kd.R_alloc | apply Kd.R_drewN | apply Kd.R_drew)); exact HO918.out⟩, ⟨by (with_reducible repeat (first | apply Kd.R_alloc | apply Kd.R_drewN | apply Kd.R_drew)); exact HO922.out⟩, ⟨bk_⟩, ⟨bk_⟩, ⟨bk_⟩, ⟨hb_⟩⟩
      ·replace c43 := Bool.eq_false_iff.mpr c43
       subst c43
       replace H := in_ H
       have H' := Aside0.mk H
       clear H
       go_wp2
       go_meet
       case rel => exact ⟨_, (false), rs_, H', ⟨by have := HJ3.out; first | omega | exact Nat.le_refl _⟩, ⟨by (with_reducible repeat (first | apply Kd.R_alloc | apply Kd.R_drewN | apply Kd.R_drew)); exact HO918.out⟩, ⟨by (with_reducible repeat (first | apply Kd.R_alloc | apply Kd.R_drewN | apply Kd.R_drew)); exact HO922.out⟩, ⟨bk_⟩, ⟨bk_⟩, ⟨bk_⟩, ⟨hb_⟩⟩
     case rest =>
      clear HC30; (try clear c24); (try clear c28); (try clear c28b0); (try clear c28b1); (try clear hcz32_0); (try clear hcz32_1); (try clear hcz32_2); (try clear hcz32_3); (try clear hcz32_4); (try clear hcz33_0); (try clear hcz33_1); (try clear hcz38_0); (try clear hcz38_1); (try clear hcz38_2); (try clear hcz38_3); (try clear hcz38_4); (try clear hcz41_0); (try clear hcz41_1); (try clear hcz41_2); (try clear hcz41_3); (try clear hcz41_4); (try clear hfz32_0); (try clear hfz32_1); (try clear hfz32_2); (try clear hfz32_3); (try clear hfz32_4); (try clear hfz33_0); (try clear hfz33_1); (try clear hfz38_0); (try clear hfz38_1); (try clear hfz38_2); (try clear hfz38_3); (try clear hfz38_4); (try clear hfz41_0); (try clear hfz41_1); (try clear hfz41_2); (try clear hfz41_3); (try clear hfz41_4)
      obtain ⟨kq, x11_29, rfl, HA, HJ29, HO_927001, HO_927003, BK910, BK911, BK926, HB⟩ := hcut
      cases kq with
      | zero => exact absurd HA.out (by simp [stockyardlaw04_RuleNarrowMeans.j1])
      | succ kj29 =>
       have H := HA.out
       clear HA
       simp only [stockyardlaw04_RuleNarrowMeans.j1] at H
       have HC49 := Aside0.mk H
       clear H
       go_upto_if 51 with (fail)
       go_cut [10] (fun v10 wc => ∃ (kq : Nat) (x10_48 : ByteArray), v10 = .string x10_48 ∧ Aside0 (stockyardlaw04_RuleNarrowMeans.j2 kq a2 t924 x10_48 x11_29 t915 t916 t919 t920 t923 = some r) ∧ Aside0 (kq ≤ kj29) ∧ Aside0 (Kd.R Kd.string 9 wc w.heap.size (fun k_ => some k_ ≠ ((.slice Ao40 t920.length co40) : Value).ownBlock) (.slice Ao39 t916.length co39) t916) ∧ Aside0 (Kd.R Kd.string 9 wc w.heap.size (fun k_ => some k_ ≠ ((.slice Ao39 t916.length co39) : Value).ownBlock) (.slice Ao40 t920.length co40) t920) ∧ Aside0 (wc.heap[gb910]? = some (.cells #[.bool a0_0, (.slice A0_1 l0_1.length c0_1), .bool a0_2, (.slice A0_3 l0_3.length c0_3), .bool a0_4] 39 (0, 0))) ∧ Aside0 (wc.heap[gb911]? = some (.cells #[(.slice A1_0 l1_0.length c1_0), .bool a1_1] 24 (0, 0))) ∧ Aside0 (wc.heap[gb926]? = some (.cells #[.bool t915, (.slice Ao39 t916.length co39), .bool t919, (.slice Ao40 t920.length co40), .bool t923] 39 (0, 0))) ∧ Aside0 (Below w.heap.size w wc))
       case first =>
        have H := HC49.out
        clear HC49
        by_cases c50 : x11_29 = true
        ·subst c50
         replace H := ip_ H
         have H' := Aside0.mk H
         clear H
         go_wp2
         go_meet
         case rel => exact ⟨_, (t928), rs_, H', ⟨by have := HJ3.out; have := HJ29.out; first | omega | exact Nat.le_refl _⟩, ⟨by (with_reducible repeat (first | apply Kd.R_alloc | apply Kd.R_drewN | apply Kd.R_drew)); exact HO_927001.out⟩, ⟨by (with_reducible repeat (first | apply Kd.R_alloc | apply Kd.R_drewN | apply Kd.R_drew)); exact HO_927003.out⟩, ⟨bk_⟩, ⟨bk_⟩, ⟨bk_⟩, ⟨hb_⟩⟩
        ·replace c50 := Bool.eq_false_iff.mpr c50
         subst c50
         replace H := in_ H
         have H' := Aside0.mk H
         clear H
         go_wp2
         go_meet
         case rel => exact ⟨_, ((⟨#[]⟩ : ByteArray)), rs_, H', ⟨by have := HJ3.out; have := HJ29.out; first | omega | exact Nat.le_refl _⟩, ⟨by (with_reducible repeat (first | apply Kd.R_alloc | apply Kd.R_drewN | apply Kd.R_drew)); exact HO_927001.out⟩, ⟨by (with_reducible repeat (first | apply Kd.R_alloc | apply Kd.R_drewN | apply Kd.R_drew)); exact HO_927003.out⟩, ⟨bk_⟩, ⟨bk_⟩, ⟨bk_⟩, ⟨hb_⟩⟩
       case rest =>
        clear HC49; (try clear c24); (try clear c28); (try clear c28b0); (try clear c28b1); (try clear hcz32_0); (try clear hcz32_1); (try clear hcz32_2); (try clear hcz32_3); (try clear hcz32_4); (try clear hcz33_0); (try clear hcz33_1); (try clear hcz38_0); (try clear hcz38_1); (try clear hcz38_2); (try clear hcz38_3); (try clear hcz38_4); (try clear hcz41_0); (try clear hcz41_1); (try clear hcz41_2); (try clear hcz41_3); (try clear hcz41_4); (try clear hfz32_0); (try clear hfz32_1); (try clear hfz32_2); (try clear hfz32_3); (try clear hfz32_4); (try clear hfz33_0); (try clear hfz33_1); (try clear hfz38_0); (try clear hfz38_1); (try clear hfz38_2); (try clear hfz38_3); (try clear hfz38_4); (try clear hfz41_0); (try clear hfz41_1); (try clear hfz41_2); (try clear hfz41_3); (try clear hfz41_4)
        obtain ⟨kq, x10_48, rfl, HA, HJ48, HO_927001, HO_927003, BK910, BK911, BK926, HB⟩ := hcut
        cases kq with
        | zero => exact absurd HA.out (by simp [stockyardlaw04_RuleNarrowMeans.j2])
        | succ kj48 =>
         have H := HA.out
         clear HA
         simp only [stockyardlaw04_RuleNarrowMeans.j2] at H
         by_cases c51 : t924 = true
         ·subst c51
          replace H := ip_ H
          replace H := Option.bind_eq_some_iff.mp H
          obtain ⟨⟨t931, t932⟩, A520, H⟩ := H
          replace H : (if t931.toList = x10_48.toList then (if (t932 == x11_29) = true then ((stockyardlaw04_awake.f kj48).bind fun t933 => (some t933)) else (some false)) else (some false)) = some r := H
          have A52 := Aside0.mk A520
          clear A520
          by_cases c53 : t931.toList = x10_48.toList
          rw [if_pos c53] at H
          have c53b0 := beq_iff_eq.mpr c53
          have c53b1 := bne_eq_false_iff_eq.mpr c53
          clear c53
          by_cases c54 : (t932 == x11_29) = true
          rw [if_pos c54] at H
          have c54b0 : (t932 == x11_29) = true := c54
          (try (have c54b1 : decide (t932 = x11_29) = true := by simpa using c54))
          (try (have c54b2 : (t932 == x11_29) = true := by simpa using c54))
          clear c54
          replace H := Option.bind_eq_some_iff.mp H
          obtain ⟨t933, A550, H⟩ := H
          replace H : (some t933) = some r := H
          have A55 := Aside0.mk A550
          clear A550
          obtain rfl := Option.some.inj H
          have hnb56 := NB926_910.out
          have hnc56 := NB910_926.out
          have hnb57 := NB926_911.out
          have hnc57 := NB911_926.out
          obtain ⟨hcz58_0, hcz58_1, hcz58_2, hcz58_3, hcz58_4, hfz58_0, hfz58_1, hfz58_2, hfz58_3, hfz58_4⟩ := c5_ BK926
          rotate_left
          rw [if_neg c54] at H
          have c54b0 : (t932 == x11_29) = false := by simpa using c54
          (try (have c54b1 : decide (t932 = x11_29) = false := by simpa using c54))
          (try (have c54b2 : (t932 == x11_29) = false := by simpa using c54))
          (try (have c54b3 : ¬ (t932 = x11_29) := by simpa using c54))
          clear c54
          obtain rfl := Option.some.inj H
          have hnb56 := NB926_910.out
          have hnc56 := NB910_926.out
          have hnb57 := NB926_911.out
          have hnc57 := NB911_926.out
          obtain ⟨hcz58_0, hcz58_1, hcz58_2, hcz58_3, hcz58_4, hfz58_0, hfz58_1, hfz58_2, hfz58_3, hfz58_4⟩ := c5_ BK926
          rotate_left
          rw [if_neg c53] at H
          have c53b0 := beq_eq_false_iff_ne.mpr c53
          have c53b1 := bne_iff_ne.mpr c53
          obtain rfl := Option.some.inj H
          have hnb56 := NB926_910.out
          have hnc56 := NB910_926.out
          have hnb57 := NB926_911.out
          have hnc57 := NB911_926.out
          obtain ⟨hcz58_0, hcz58_1, hcz58_2, hcz58_3, hcz58_4, hfz58_0, hfz58_1, hfz58_2, hfz58_3, hfz58_4⟩ := c5_ BK926
          rotate_left
          all_goals go_wp2_with (first | ((with_reducible refine gate_callee (f := 24) rfl ?_); refine goesL_ (some 62) rfl rfl Tryd.func24 (by kernel_rfl) rfl #[.agg #[.bool t915, .slice Ao39 t916.length co39, .bool t919, .slice Ao40 t920.length co40, .bool t923], .string a2] rfl gl_ ?_; (with_reducible refine (rule_Forward.calls kj48 t915 _ _ t916 t919 _ _ t920 t923 a2 t931 t932 _ ?side1 ?side2 ?side3 ?side4 A52.out).mono ?_); (case side1 => repeat (first | exact (Kd.R_reads' HO_927001.out).2.2 | (with_reducible refine Kd.C_alloc ?_ _) | (with_reducible refine Kd.C_drewN ?_ _) | (with_reducible refine Kd.C_drew ?_))); (case side2 => exact (Kd.R_reads' HO_927001.out).2.1); (case side3 => repeat (first | exact (Kd.R_reads' HO_927003.out).2.2 | (with_reducible refine Kd.C_alloc ?_ _) | (with_reducible refine Kd.C_drewN ?_ _) | (with_reducible refine Kd.C_drew ?_))); (case side4 => exact (Kd.R_reads' HO_927003.out).2.1); rintro e w59 ⟨rfl, hb⟩; refine ⟨_, rfl, ?_⟩; replace HO_927001 := rb_ HO_927001 hb; replace HO_927003 := rb_ HO_927003 hb; replace BK910 := bb_ BK910 hb; replace BK911 := bb_ BK911 hb; replace BK926 := bb_ BK926 hb; replace HB := hs_ HB hb; (try clear hb)) | (go_at_call 22; (with_reducible refine (stockyardlaw04_awake.calls kj48  t933 _ A55.out).mono ?_); rintro e w60 ⟨rfl, hb⟩; replace HO_927001 := rb_ HO_927001 hb; replace HO_927003 := rb_ HO_927003 hb; replace BK910 := bb_ BK910 hb; replace BK911 := bb_ BK911 hb; replace BK926 := bb_ BK926 hb; replace HB := hs_ HB hb; (try clear hb)))
          ·go_ret
           exact ⟨rt_, hb_⟩
          ·go_ret
           exact ⟨rt_, hb_⟩
          ·go_ret
           exact ⟨rt_, hb_⟩
         ·replace c51 := Bool.eq_false_iff.mpr c51
          subst c51
          replace H := in_ H
          by_cases c69 : x11_29 = true
          ·subst c69
           replace H := ip_ H
           obtain rfl := Option.some.inj H
           go_wp2
           go_ret
           exact ⟨rt_, hb_⟩
          ·replace c69 := Bool.eq_false_iff.mpr c69
           subst c69
           replace H := in_ H
           replace H := Option.bind_eq_some_iff.mp H
           obtain ⟨t934, A700, H⟩ := H
           replace H : (some t934) = some r := H
           have A70 := Aside0.mk A700
           clear A700
           obtain rfl := Option.some.inj H
           go_wp2_with (first | (go_at_call 22; (with_reducible refine (stockyardlaw04_awake.calls kj48  t934 _ A70.out).mono ?_); rintro e w71 ⟨rfl, hb⟩; replace HO_927001 := rb_ HO_927001 hb; replace HO_927003 := rb_ HO_927003 hb; replace BK910 := bb_ BK910 hb; replace BK911 := bb_ BK911 hb; replace BK926 := bb_ BK926 hb; replace HB := hs_ HB hb; (try clear hb)))
           go_ret
           exact ⟨rt_, hb_⟩
    ·rw [if_neg c28] at H
     have c28b0 := beq_eq_false_iff_ne.mpr c28
     have c28b1 := bne_iff_ne.mpr c28
     replace H := Option.bind_eq_some_iff.mp H
     obtain ⟨t927, A720, H⟩ := H
     replace H : (some t927) = some r := H
     have A72 := Aside0.mk A720
     clear A720
     obtain rfl := Option.some.inj H
     have hnb73 := NB910_911.out
     have hnc73 := NB911_910.out
     obtain ⟨hcz74_0, hcz74_1, hcz74_2, hcz74_3, hcz74_4, hfz74_0, hfz74_1, hfz74_2, hfz74_3, hfz74_4⟩ := c5_ BK910
     obtain ⟨hcz75_0, hcz75_1, hfz75_0, hfz75_1⟩ := c2_ BK911
     go_wp2_with (first | ((with_reducible refine gate_callee (f := 27) rfl ?_); refine goesL_ (some 31) rfl rfl Tryd.func27 (by kernel_rfl) rfl #[.agg #[.bool a0_0, .slice A0_1 l0_1.length c0_1, .bool a0_2, .slice A0_3 l0_3.length c0_3, .bool a0_4], .agg #[.slice A1_0 l1_0.length c1_0, .bool a1_1]] rfl gl_ ?_; (with_reducible refine (rule_NarrowLeft.calls kj3 a0_0 _ _ l0_1 a0_2 _ _ l0_3 a0_4 _ _ l1_0 a1_1 t915 t916 t919 t920 t923 t924 t925 _ ?side1 ?side2 ?side3 ?side4 ?side5 ?side6 A27.out).mono ?_); (case side1 => exact sd_); (case side2 => exact HC0_1.out); (case side3 => exact sd_); (case side4 => exact HC0_3.out); (case side5 => exact sd_); (case side6 => exact HC1_0.out); rintro e w76 ⟨v917, v921, rfl, ho0, ho1, hb⟩; refine ⟨_, rfl, ?_⟩; have n0_ := Aside0.mk (Kd.R_lower ho0 (below_size hb_)); have n1_ := Aside0.mk (Kd.R_lower ho1 (below_size hb_)); replace BK910 := bb_ BK910 hb; replace BK911 := bb_ BK911 hb; replace HB := hs_ HB hb; have HO918 := n0_; have HO922 := n1_; clear n0_ n1_; (try clear hb); (try clear ho0); (try clear ho1)) | ((with_reducible refine gate_dst (N := 7) rfl ?_); (try (refine gate_guard (by rfl) ?_; dsimp only)); refine box_event ?hg (N := 7) ?hd (cs := #[.bool false, .slice none 0 0, .bool false, .slice none 0 0, .bool false]) (t := 39) ?hr ?_; (case hd => rfl); (case hg => rfl); (case hr => first | (go_simp; done) | (go_simp; rfl)); intro gb926 hg w77 hbox hb; have BK926 := Aside0.mk hbox; have GW926 := gw_ HB hg; have GE926 := gw_ HB hg; have NB910_926 := nl_ BK910 hg; have NB926_910 := nr_ BK910 hg; have NB911_926 := nl_ BK911 hg; have NB926_911 := nr_ BK911 hg; replace HO918 := rb_ HO918 hb; replace HO922 := rb_ HO922 hb; replace BK910 := bb_ BK910 hb; replace BK911 := bb_ BK911 hb; replace HB := hs_ HB hb; clear hb hbox hg; have hnb78 := NB926_910.out; have hnc78 := NB910_926.out; have hnb79 := NB926_911.out; have hnc79 := NB911_926.out; obtain ⟨hcz80_0, hcz80_1, hcz80_2, hcz80_3, hcz80_4, hfz80_0, hfz80_1, hfz80_2, hfz80_3, hfz80_4⟩ := c5_ BK926; obtain ⟨Ao81, co81, eo81⟩ := Kd.R_slice HO918.out; subst eo81; obtain ⟨Ao82, co82, eo82⟩ := Kd.R_slice HO922.out; subst eo82) | ((with_reducible refine gate_callee (f := 22) rfl ?_); refine goesL_ (some 37) rfl rfl Tryd.func22 (by kernel_rfl) rfl #[] rfl gl_ ?_; (with_reducible refine (stockyardlaw04_awake.calls kj3  t927 _ A72.out).mono ?_); rintro e w83 ⟨rfl, hb⟩; refine ⟨_, rfl, ?_⟩; have n0_ := Aside0.mk (Kd.R_below (by (with_reducible repeat (first | apply Kd.R_alloc | apply Kd.R_drewN | apply Kd.R_drew)); exact (Kd.R_mono (Kd.R_far (p := ⟨gb926, 4, none⟩) (Kd.R_far (p := ⟨gb926, 3, none⟩) (Kd.R_far (p := ⟨gb926, 2, none⟩) (Kd.R_far (p := ⟨gb926, 1, none⟩) (Kd.R_far (p := ⟨gb926, 0, none⟩) (Kd.R_types HO918.out BK926.out (by decide)) (fun _ hk => hk.2) (.bool t915)) (fun _ hk => hk.2) (.slice Ao81 t916.length co81)) (fun _ hk => hk.2) (.bool t919)) (fun _ hk => hk.2) (.slice Ao82 t920.length co82)) (fun _ hk => hk.2) (.bool t923)) (fun _ h_ => h_.1))) hb); have n1_ := Aside0.mk (Kd.R_below (by (with_reducible repeat (first | apply Kd.R_alloc | apply Kd.R_drewN | apply Kd.R_drew)); exact (Kd.R_mono (Kd.R_far (p := ⟨gb926, 4, none⟩) (Kd.R_far (p := ⟨gb926, 3, none⟩) (Kd.R_far (p := ⟨gb926, 2, none⟩) (Kd.R_far (p := ⟨gb926, 1, none⟩) (Kd.R_far (p := ⟨gb926, 0, none⟩) (Kd.R_types HO922.out BK926.out (by decide)) (fun _ hk => hk.2) (.bool t915)) (fun _ hk => hk.2) (.slice Ao81 t916.length co81)) (fun _ hk => hk.2) (.bool t919)) (fun _ hk => hk.2) (.slice Ao82 t920.length co82)) (fun _ hk => hk.2) (.bool t923)) (fun _ h_ => h_.1))) hb); have n4_ := Aside0.mk (blk_below (g := gb926) (o := .cells #[.bool t915, .slice Ao81 t916.length co81, .bool t919, .slice Ao82 t920.length co82, .bool t923] 39 (0, 0)) bz_ hb); replace BK910 := bb_ BK910 hb; replace BK911 := bb_ BK911 hb; replace HB := hs_ HB hb; clear HO918 HO922 BK926; have HO918 := n0_; have HO922 := n1_; have BK926 := n4_; clear n0_ n1_ n4_; (try clear hb)))
     go_ret
     exact ⟨rt_, hb_⟩

end Go.Proofs.YthclkdplihchjaaDoor.P

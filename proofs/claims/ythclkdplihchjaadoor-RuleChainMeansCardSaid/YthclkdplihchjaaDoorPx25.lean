-- Written by a program of this session (wip/gen.py) over the kit's print: each Go function as a plain Lean function, and the proof that the Go code comes to it. Nothing here is trusted: Lean checks it.
import Derived.Test.YthclkdplihchjaaDoorPx0
import Derived.Test.YthclkdplihchjaaDoorPx4
import Derived.Test.YthclkdplihchjaaDoorPx17
import Derived.Test.YthclkdplihchjaaDoorSq
namespace Go.Proofs.YthclkdplihchjaaDoor.P
open Go.RowKit Go.Proofs.YthclkdplihchjaaDoorW.PrintWords Go.Proofs.YthclkdplihchjaaDoorW.PrintLast Go.Proofs.YthclkdplihchjaaDoorW.PrintMore
attribute [local go_sem] str_gtr str_leq str_geq max2_int min2_int max_two min_two max_three min_three max_four min_four   -- for this text's walks alone
set_option linter.unusedVariables false
set_option linter.unusedSimpArgs false

/-! ### stockyardlaw04_RuleChainMeans: function 5 -/
mutual
def stockyardlaw04_RuleChainMeans.j0 : Nat → ByteArray → Bool → Bool → List ByteArray → Bool → List ByteArray → Bool → Bool → List ByteArray → Bool → List ByteArray → Bool → Option (Bool)
  | 0, _, _, _, _, _, _, _, _, _, _, _, _ => none
  | k + 1, x2, x26, x523000, x523001, x523002, x523003, x523004, x524000, x524001, x524002, x524003, x524004 => if x26 = true then ((stockyardlaw04_awake.f k).bind fun t526 => (some t526)) else ((rule_Chain.f k x523000 x523001 x523002 x523003 x523004 x524000 x524001 x524002 x524003 x524004).bind fun bt527 => (if bt527.2.2.2.2.2.2 = 0 then ((rule_Forward.f k x523000 x523001 x523002 x523003 x523004 x2).bind fun bt540 => (if bt540.2 = true then ((rule_Forward.f k x524000 x524001 x524002 x524003 x524004 bt540.1).bind fun bt542 => (stockyardlaw04_RuleChainMeans.j1 k x2 bt527.2.2.2.2.2.1 bt542.1 bt542.2 bt527.1 bt527.2.1 bt527.2.2.1 bt527.2.2.2.1 bt527.2.2.2.2.1)) else (stockyardlaw04_RuleChainMeans.j1 k x2 bt527.2.2.2.2.2.1 bt540.1 bt540.2 bt527.1 bt527.2.1 bt527.2.2.1 bt527.2.2.2.1 bt527.2.2.2.2.1))) else ((stockyardlaw04_awake.f k).bind fun t539 => (some t539))))
def stockyardlaw04_RuleChainMeans.j1 : Nat → ByteArray → Bool → ByteArray → Bool → Bool → List ByteArray → Bool → List ByteArray → Bool → Option (Bool)
  | 0, _, _, _, _, _, _, _, _, _ => none
  | k + 1, x2, x8, x10, x11, x539000, x539001, x539002, x539003, x539004 => if x8 = true then ((rule_Forward.f k x539000 x539001 x539002 x539003 x539004 x2).bind fun bt544 => (if bt544.1.toList = x10.toList then (if (bt544.2 == x11) = true then ((stockyardlaw04_awake.f k).bind fun t546 => (some t546)) else (some false)) else (some false))) else (if x11 = true then (some false) else ((stockyardlaw04_awake.f k).bind fun t547 => (some t547)))
end
def stockyardlaw04_RuleChainMeans.f (k : Nat) (a0_0 : Bool) (l0_1 : List ByteArray) (a0_2 : Bool) (l0_3 : List ByteArray) (a0_4 : Bool) (a1_0 : Bool) (l1_1 : List ByteArray) (a1_2 : Bool) (l1_3 : List ByteArray) (a1_4 : Bool) (a2 : ByteArray) : Option (Bool) := (stockyardlaw04_fit.f k a0_0 l0_1 a0_2 l0_3 a0_4).bind fun t524 => (if t524 = true then ((stockyardlaw04_fit.f k a1_0 l1_1 a1_2 l1_3 a1_4).bind fun t525 => (if t525 = true then (stockyardlaw04_RuleChainMeans.j0 k a2 (decide ((a2.size : Int) > 300)) a0_0 l0_1 a0_2 l0_3 a0_4 a1_0 l1_1 a1_2 l1_3 a1_4) else (stockyardlaw04_RuleChainMeans.j0 k a2 true a0_0 l0_1 a0_2 l0_3 a0_4 a1_0 l1_1 a1_2 l1_3 a1_4))) else (stockyardlaw04_RuleChainMeans.j0 k a2 true a0_0 l0_1 a0_2 l0_3 a0_4 a1_0 l1_1 a1_2 l1_3 a1_4))
theorem stockyardlaw04_RuleChainMeans.mono_l : ∀ k, (∀ y0 y1 y2 y3 y4 y5 y6 y7 y8 y9 y10 y11, LeO (stockyardlaw04_RuleChainMeans.j0 k y0 y1 y2 y3 y4 y5 y6 y7 y8 y9 y10 y11) (stockyardlaw04_RuleChainMeans.j0 (k + 1) y0 y1 y2 y3 y4 y5 y6 y7 y8 y9 y10 y11)) ∧ (∀ y0 y1 y2 y3 y4 y5 y6 y7 y8, LeO (stockyardlaw04_RuleChainMeans.j1 k y0 y1 y2 y3 y4 y5 y6 y7 y8) (stockyardlaw04_RuleChainMeans.j1 (k + 1) y0 y1 y2 y3 y4 y5 y6 y7 y8))
  | 0 => ⟨fun _ _ _ _ _ _ _ _ _ _ _ _ r h => by simp [stockyardlaw04_RuleChainMeans.j0] at h, fun _ _ _ _ _ _ _ _ _ r h => by simp [stockyardlaw04_RuleChainMeans.j1] at h⟩
  | k + 1 => by
    obtain ⟨ih0, ih1⟩ := stockyardlaw04_RuleChainMeans.mono_l k
    refine ⟨?_, ?_⟩
    · intro y0 y1 y2 y3 y4 y5 y6 y7 y8 y9 y10 y11
      unfold stockyardlaw04_RuleChainMeans.j0
      repeat' first
      | (with_reducible exact ih0 _ _ _ _ _ _ _ _ _ _ _ _)
      | (with_reducible exact ih1 _ _ _ _ _ _ _ _ _)
      | (with_reducible exact rule_Chain.mono _ _ _ _ _ _ _ _ _ _ _)
      | (with_reducible exact rule_Forward.mono _ _ _ _ _ _ _)
      | (with_reducible exact stockyardlaw04_awake.mono _)
      | (with_reducible exact stockyardlaw04_fit.mono _ _ _ _ _ _)
      | (with_reducible exact LeO.refl _)
      | (with_reducible exact LeO.none _)
      | (with_reducible refine LeO.ite ?_ ?_)
      | (with_reducible refine LeO.bind ?_ (fun _ => ?_))
      | exact ih0 _ _ _ _ _ _ _ _ _ _ _ _
      | exact ih1 _ _ _ _ _ _ _ _ _
      | exact rule_Chain.mono _ _ _ _ _ _ _ _ _ _ _
      | exact rule_Forward.mono _ _ _ _ _ _ _
      | exact stockyardlaw04_awake.mono _
      | exact stockyardlaw04_fit.mono _ _ _ _ _ _
      | exact LeO.none _
      | refine LeO.ite ?_ ?_
      | refine LeO.bind ?_ (fun _ => ?_)
    · intro y0 y1 y2 y3 y4 y5 y6 y7 y8
      unfold stockyardlaw04_RuleChainMeans.j1
      repeat' first
      | (with_reducible exact ih0 _ _ _ _ _ _ _ _ _ _ _ _)
      | (with_reducible exact ih1 _ _ _ _ _ _ _ _ _)
      | (with_reducible exact rule_Chain.mono _ _ _ _ _ _ _ _ _ _ _)
      | (with_reducible exact rule_Forward.mono _ _ _ _ _ _ _)
      | (with_reducible exact stockyardlaw04_awake.mono _)
      | (with_reducible exact stockyardlaw04_fit.mono _ _ _ _ _ _)
      | (with_reducible exact LeO.refl _)
      | (with_reducible exact LeO.none _)
      | (with_reducible refine LeO.ite ?_ ?_)
      | (with_reducible refine LeO.bind ?_ (fun _ => ?_))
      | exact ih0 _ _ _ _ _ _ _ _ _ _ _ _
      | exact ih1 _ _ _ _ _ _ _ _ _
      | exact rule_Chain.mono _ _ _ _ _ _ _ _ _ _ _
      | exact rule_Forward.mono _ _ _ _ _ _ _
      | exact stockyardlaw04_awake.mono _
      | exact stockyardlaw04_fit.mono _ _ _ _ _ _
      | exact LeO.none _
      | refine LeO.ite ?_ ?_
      | refine LeO.bind ?_ (fun _ => ?_)
theorem stockyardlaw04_RuleChainMeans.mono : ∀ a0 a1 a2 a3 a4 a5 a6 a7 a8 a9 a10 k, LeO (stockyardlaw04_RuleChainMeans.f k a0 a1 a2 a3 a4 a5 a6 a7 a8 a9 a10) (stockyardlaw04_RuleChainMeans.f (k + 1) a0 a1 a2 a3 a4 a5 a6 a7 a8 a9 a10) := by
  intro a0 a1 a2 a3 a4 a5 a6 a7 a8 a9 a10 k
  obtain ⟨ih0, ih1⟩ := stockyardlaw04_RuleChainMeans.mono_l k
  unfold stockyardlaw04_RuleChainMeans.f
  repeat' first
      | (with_reducible exact ih0 _ _ _ _ _ _ _ _ _ _ _ _)
      | (with_reducible exact ih1 _ _ _ _ _ _ _ _ _)
      | (with_reducible exact rule_Chain.mono _ _ _ _ _ _ _ _ _ _ _)
      | (with_reducible exact rule_Forward.mono _ _ _ _ _ _ _)
      | (with_reducible exact stockyardlaw04_awake.mono _)
      | (with_reducible exact stockyardlaw04_fit.mono _ _ _ _ _ _)
      | (with_reducible exact LeO.refl _)
      | (with_reducible exact LeO.none _)
      | (with_reducible refine LeO.ite ?_ ?_)
      | (with_reducible refine LeO.bind ?_ (fun _ => ?_))
      | exact ih0 _ _ _ _ _ _ _ _ _ _ _ _
      | exact ih1 _ _ _ _ _ _ _ _ _
      | exact rule_Chain.mono _ _ _ _ _ _ _ _ _ _ _
      | exact rule_Forward.mono _ _ _ _ _ _ _
      | exact stockyardlaw04_awake.mono _
      | exact stockyardlaw04_fit.mono _ _ _ _ _ _
      | exact LeO.none _
      | refine LeO.ite ?_ ?_
      | refine LeO.bind ?_ (fun _ => ?_)
set_option maxHeartbeats 8000000 in
set_option maxRecDepth 100000 in
theorem stockyardlaw04_RuleChainMeans.calls (k : Nat) (a0_0 : Bool) (A0_1 : Option Addr) (c0_1 : Nat) (l0_1 : List ByteArray) (a0_2 : Bool) (A0_3 : Option Addr) (c0_3 : Nat) (l0_3 : List ByteArray) (a0_4 : Bool) (a1_0 : Bool) (A1_1 : Option Addr) (c1_1 : Nat) (l1_1 : List ByteArray) (a1_2 : Bool) (A1_3 : Option Addr) (c1_3 : Nat) (l1_3 : List ByteArray) (a1_4 : Bool) (a2 : ByteArray) (r : Bool) (w : World) (hr0_1 : Kd.C Kd.string w A0_1 l0_1.length l0_1) (hc0_1 : l0_1.length ≤ c0_1) (hr0_3 : Kd.C Kd.string w A0_3 l0_3.length l0_3) (hc0_3 : l0_3.length ≤ c0_3) (hr1_1 : Kd.C Kd.string w A1_1 l1_1.length l1_1) (hc1_1 : l1_1.length ≤ c1_1) (hr1_3 : Kd.C Kd.string w A1_3 l1_3.length l1_3) (hc1_3 : l1_3.length ≤ c1_3) (h : stockyardlaw04_RuleChainMeans.f k a0_0 l0_1 a0_2 l0_3 a0_4 a1_0 l1_1 a1_2 l1_3 a1_4 a2 = some r) :
    Calls Tryd.prog 5 #[.agg #[.bool a0_0, .slice A0_1 l0_1.length c0_1, .bool a0_2, .slice A0_3 l0_3.length c0_3, .bool a0_4], .agg #[.bool a1_0, .slice A1_1 l1_1.length c1_1, .bool a1_2, .slice A1_3 l1_3.length c1_3, .bool a1_4], .string a2] w fun e w' => e = .returned (.bool r) ∧ Below w.heap.size w w' := by
  have hu39 := Tryd.underlying39
  have HR0_1 := Aside0.mk hr0_1
  have HC0_1 := Aside0.mk hc0_1
  clear hr0_1 hc0_1
  have HR0_3 := Aside0.mk hr0_3
  have HC0_3 := Aside0.mk hc0_3
  clear hr0_3 hc0_3
  have HR1_1 := Aside0.mk hr1_1
  have HC1_1 := Aside0.mk hc1_1
  clear hr1_1 hc1_1
  have HR1_3 := Aside0.mk hr1_3
  have HC1_3 := Aside0.mk hc1_3
  clear hr1_3 hc1_3
  have HB := Aside0.mk (Below.refl w.heap.size w)
  have H : ((stockyardlaw04_fit.f k a0_0 l0_1 a0_2 l0_3 a0_4).bind fun t524 => (if t524 = true then ((stockyardlaw04_fit.f k a1_0 l1_1 a1_2 l1_3 a1_4).bind fun t525 => (if t525 = true then (stockyardlaw04_RuleChainMeans.j0 k a2 (decide ((a2.size : Int) > 300)) a0_0 l0_1 a0_2 l0_3 a0_4 a1_0 l1_1 a1_2 l1_3 a1_4) else (stockyardlaw04_RuleChainMeans.j0 k a2 true a0_0 l0_1 a0_2 l0_3 a0_4 a1_0 l1_1 a1_2 l1_3 a1_4))) else (stockyardlaw04_RuleChainMeans.j0 k a2 true a0_0 l0_1 a0_2 l0_3 a0_4 a1_0 l1_1 a1_2 l1_3 a1_4))) = some r := h
  clear h
  have HC4 := Aside0.mk H
  clear H
  go_enter Tryd.func5, Tryd.ntmps5
  go_upto_region 1 with (first | ((with_reducible refine gate_dst (N := 3) rfl ?_); (try (refine gate_guard (by rfl) ?_; dsimp only)); refine box_event ?hg (N := 3) ?hd (cs := #[.bool a0_0, .slice A0_1 l0_1.length c0_1, .bool a0_2, .slice A0_3 l0_3.length c0_3, .bool a0_4]) (t := 39) ?hr ?_; (case hd => rfl); (case hg => rfl); (case hr => first | (go_simp; done) | (go_simp; rfl)); intro gb522 hg w5 hbox hb; have BK522 := Aside0.mk hbox; have GW522 := gw_ HB hg; have GE522 := gw_ HB hg; replace HB := hs_ HB hb; clear hb hbox hg) | ((with_reducible refine gate_dst (N := 4) rfl ?_); (try (refine gate_guard (by rfl) ?_; dsimp only)); refine box_event ?hg (N := 4) ?hd (cs := #[.bool a1_0, .slice A1_1 l1_1.length c1_1, .bool a1_2, .slice A1_3 l1_3.length c1_3, .bool a1_4]) (t := 39) ?hr ?_; (case hd => rfl); (case hg => rfl); (case hr => first | (go_simp; done) | (go_simp; rfl)); intro gb523 hg w6 hbox hb; have BK523 := Aside0.mk hbox; have GW523 := gw_ HB hg; have GE523 := gw_ HB hg; have NB522_523 := nl_ BK522 hg; have NB523_522 := nr_ BK522 hg; replace BK522 := bb_ BK522 hb; replace HB := hs_ HB hb; clear hb hbox hg))
  (try simp only [Act.put, List.setIfInBounds_toArray, List.set_cons_zero, List.set_cons_succ])
  go_cut [26] (fun v26 wc => ∃ (kq : Nat) (x26_3 : Bool), v26 = .bool x26_3 ∧ Aside0 (stockyardlaw04_RuleChainMeans.j0 kq a2 x26_3 a0_0 l0_1 a0_2 l0_3 a0_4 a1_0 l1_1 a1_2 l1_3 a1_4 = some r) ∧ Aside0 (kq ≤ k) ∧ Aside0 (wc.heap[gb522]? = some (.cells #[.bool a0_0, (.slice A0_1 l0_1.length c0_1), .bool a0_2, (.slice A0_3 l0_3.length c0_3), .bool a0_4] 39 (0, 0))) ∧ Aside0 (wc.heap[gb523]? = some (.cells #[.bool a1_0, (.slice A1_1 l1_1.length c1_1), .bool a1_2, (.slice A1_3 l1_3.length c1_3), .bool a1_4] 39 (0, 0))) ∧ Aside0 (Below w.heap.size w wc))
  case first =>
    have H := HC4.out
    clear HC4
    replace H := Option.bind_eq_some_iff.mp H
    obtain ⟨t524, A70, H⟩ := H
    replace H : (if t524 = true then ((stockyardlaw04_fit.f k a1_0 l1_1 a1_2 l1_3 a1_4).bind fun t525 => (if t525 = true then (stockyardlaw04_RuleChainMeans.j0 k a2 (decide ((a2.size : Int) > 300)) a0_0 l0_1 a0_2 l0_3 a0_4 a1_0 l1_1 a1_2 l1_3 a1_4) else (stockyardlaw04_RuleChainMeans.j0 k a2 true a0_0 l0_1 a0_2 l0_3 a0_4 a1_0 l1_1 a1_2 l1_3 a1_4))) else (stockyardlaw04_RuleChainMeans.j0 k a2 true a0_0 l0_1 a0_2 l0_3 a0_4 a1_0 l1_1 a1_2 l1_3 a1_4)) = some r := H
    have A7 := Aside0.mk A70
    clear A70
    by_cases c8 : t524 = true
    · subst c8
      have H1 : ((stockyardlaw04_fit.f k a1_0 l1_1 a1_2 l1_3 a1_4).bind fun t525 => (if t525 = true then (stockyardlaw04_RuleChainMeans.j0 k a2 (decide ((a2.size : Int) > 300)) a0_0 l0_1 a0_2 l0_3 a0_4 a1_0 l1_1 a1_2 l1_3 a1_4) else (stockyardlaw04_RuleChainMeans.j0 k a2 true a0_0 l0_1 a0_2 l0_3 a0_4 a1_0 l1_1 a1_2 l1_3 a1_4))) = some r := by rw [if_pos rfl] at H; exact H
      clear H
      have H := H1
      clear H1
      replace H := Option.bind_eq_some_iff.mp H
      obtain ⟨t525, A90, H⟩ := H
      replace H : (if t525 = true then (stockyardlaw04_RuleChainMeans.j0 k a2 (decide ((a2.size : Int) > 300)) a0_0 l0_1 a0_2 l0_3 a0_4 a1_0 l1_1 a1_2 l1_3 a1_4) else (stockyardlaw04_RuleChainMeans.j0 k a2 true a0_0 l0_1 a0_2 l0_3 a0_4 a1_0 l1_1 a1_2 l1_3 a1_4)) = some r := H
      have A9 := Aside0.mk A90
      clear A90
      by_cases c10 : t525 = true
      · subst c10
        have H1 : (stockyardlaw04_RuleChainMeans.j0 k a2 (decide ((a2.size : Int) > 300)) a0_0 l0_1 a0_2 l0_3 a0_4 a1_0 l1_1 a1_2 l1_3 a1_4) = some r := by rw [if_pos rfl] at H; exact H
        clear H
        have H := H1
        clear H1
        have H' := Aside0.mk H
        clear H
        have hnb11 := NB522_523.out
        have hnc11 := NB523_522.out
        obtain ⟨hcz12_0, hcz12_1, hcz12_2, hcz12_3, hcz12_4, hfz12_0, hfz12_1, hfz12_2, hfz12_3, hfz12_4⟩ := c5_ BK522
        go_wp2_with (first | ((with_reducible refine gate_callee (f := 21) rfl ?_); refine goesL_ (some 15) rfl rfl Tryd.func21 (by kernel_rfl) rfl #[.agg #[.bool a0_0, .slice A0_1 l0_1.length c0_1, .bool a0_2, .slice A0_3 l0_3.length c0_3, .bool a0_4]] rfl gl_ ?_; (with_reducible refine (stockyardlaw04_fit.calls k a0_0 _ _ l0_1 a0_2 _ _ l0_3 a0_4 true _ ?side1 ?side2 ?side3 ?side4 A7.out).mono ?_); (case side1 => exact sd_); (case side2 => exact HC0_1.out); (case side3 => exact sd_); (case side4 => exact HC0_3.out); rintro e w13 ⟨rfl, hb⟩; refine ⟨_, rfl, ?_⟩; replace BK522 := bb_ BK522 hb; replace BK523 := bb_ BK523 hb; replace HB := hs_ HB hb; (try clear hb); (try clear hb2); (try clear hk); (try clear hi); obtain ⟨hcz14_0, hcz14_1, hcz14_2, hcz14_3, hcz14_4, hfz14_0, hfz14_1, hfz14_2, hfz14_3, hfz14_4⟩ := c5_ BK523) | (go_at_call 21; (with_reducible refine (stockyardlaw04_fit.calls k a1_0 _ _ l1_1 a1_2 _ _ l1_3 a1_4 true _ ?side1 ?side2 ?side3 ?side4 A9.out).mono ?_); (case side1 => exact sd_); (case side2 => exact HC1_1.out); (case side3 => exact sd_); (case side4 => exact HC1_3.out); rintro e w15 ⟨rfl, hb⟩; replace BK522 := bb_ BK522 hb; replace BK523 := bb_ BK523 hb; replace HB := hs_ HB hb; (try clear hb); (try clear hb2); (try clear hk); (try clear hi)))
        go_meet
        case rel => exact ⟨_, (decide ((a2.size : Int) > 300)), (by first | rfl | (simp; done) | (simp [*]; done)), H', ⟨by first | omega | exact Nat.le_refl _⟩, ⟨bk_⟩, ⟨bk_⟩, ⟨hb_⟩⟩
      · replace c10 := Bool.eq_false_iff.mpr c10
        subst c10
        have H1 : (stockyardlaw04_RuleChainMeans.j0 k a2 true a0_0 l0_1 a0_2 l0_3 a0_4 a1_0 l1_1 a1_2 l1_3 a1_4) = some r := by rw [if_neg (show ¬ (false = true) by decide)] at H; exact H
        clear H
        have H := H1
        clear H1
        have H' := Aside0.mk H
        clear H
        have hnb16 := NB522_523.out
        have hnc16 := NB523_522.out
        obtain ⟨hcz17_0, hcz17_1, hcz17_2, hcz17_3, hcz17_4, hfz17_0, hfz17_1, hfz17_2, hfz17_3, hfz17_4⟩ := c5_ BK522
        go_wp2_with (first | ((with_reducible refine gate_callee (f := 21) rfl ?_); refine goesL_ (some 15) rfl rfl Tryd.func21 (by kernel_rfl) rfl #[.agg #[.bool a0_0, .slice A0_1 l0_1.length c0_1, .bool a0_2, .slice A0_3 l0_3.length c0_3, .bool a0_4]] rfl gl_ ?_; (with_reducible refine (stockyardlaw04_fit.calls k a0_0 _ _ l0_1 a0_2 _ _ l0_3 a0_4 true _ ?side1 ?side2 ?side3 ?side4 A7.out).mono ?_); (case side1 => exact sd_); (case side2 => exact HC0_1.out); (case side3 => exact sd_); (case side4 => exact HC0_3.out); rintro e w18 ⟨rfl, hb⟩; refine ⟨_, rfl, ?_⟩; replace BK522 := bb_ BK522 hb; replace BK523 := bb_ BK523 hb; replace HB := hs_ HB hb; (try clear hb); (try clear hb2); (try clear hk); (try clear hi); obtain ⟨hcz19_0, hcz19_1, hcz19_2, hcz19_3, hcz19_4, hfz19_0, hfz19_1, hfz19_2, hfz19_3, hfz19_4⟩ := c5_ BK523) | (go_at_call 21; (with_reducible refine (stockyardlaw04_fit.calls k a1_0 _ _ l1_1 a1_2 _ _ l1_3 a1_4 false _ ?side1 ?side2 ?side3 ?side4 A9.out).mono ?_); (case side1 => exact sd_); (case side2 => exact HC1_1.out); (case side3 => exact sd_); (case side4 => exact HC1_3.out); rintro e w20 ⟨rfl, hb⟩; replace BK522 := bb_ BK522 hb; replace BK523 := bb_ BK523 hb; replace HB := hs_ HB hb; (try clear hb); (try clear hb2); (try clear hk); (try clear hi)))
        go_meet
        case rel => exact ⟨_, (true), (by first | rfl | (simp; done) | (simp [*]; done)), H', ⟨by first | omega | exact Nat.le_refl _⟩, ⟨bk_⟩, ⟨bk_⟩, ⟨hb_⟩⟩
    · replace c8 := Bool.eq_false_iff.mpr c8
      subst c8
      have H1 : (stockyardlaw04_RuleChainMeans.j0 k a2 true a0_0 l0_1 a0_2 l0_3 a0_4 a1_0 l1_1 a1_2 l1_3 a1_4) = some r := by rw [if_neg (show ¬ (false = true) by decide)] at H; exact H
      clear H
      have H := H1
      clear H1
      have H' := Aside0.mk H
      clear H
      have hnb21 := NB522_523.out
      have hnc21 := NB523_522.out
      obtain ⟨hcz22_0, hcz22_1, hcz22_2, hcz22_3, hcz22_4, hfz22_0, hfz22_1, hfz22_2, hfz22_3, hfz22_4⟩ := c5_ BK522
      go_wp2_with (first | ((with_reducible refine gate_callee (f := 21) rfl ?_); refine goesL_ (some 15) rfl rfl Tryd.func21 (by kernel_rfl) rfl #[.agg #[.bool a0_0, .slice A0_1 l0_1.length c0_1, .bool a0_2, .slice A0_3 l0_3.length c0_3, .bool a0_4]] rfl gl_ ?_; (with_reducible refine (stockyardlaw04_fit.calls k a0_0 _ _ l0_1 a0_2 _ _ l0_3 a0_4 false _ ?side1 ?side2 ?side3 ?side4 A7.out).mono ?_); (case side1 => exact sd_); (case side2 => exact HC0_1.out); (case side3 => exact sd_); (case side4 => exact HC0_3.out); rintro e w23 ⟨rfl, hb⟩; refine ⟨_, rfl, ?_⟩; replace BK522 := bb_ BK522 hb; replace BK523 := bb_ BK523 hb; replace HB := hs_ HB hb; (try clear hb); (try clear hb2); (try clear hk); (try clear hi)))
      go_meet
      case rel => exact ⟨_, (true), (by first | rfl | (simp; done) | (simp [*]; done)), H', ⟨by first | omega | exact Nat.le_refl _⟩, ⟨bk_⟩, ⟨bk_⟩, ⟨hb_⟩⟩
  case rest =>
    clear HC4; (try clear c1); (try clear c2); (try clear p2); (try clear c5); (try clear c8); (try clear c10); (try clear c11); (try clear c16); (try clear c21); (try clear hcz12_0); (try clear hcz12_1); (try clear hcz12_2); (try clear hcz12_3); (try clear hcz12_4); (try clear hcz14_0); (try clear hcz14_1); (try clear hcz14_2); (try clear hcz14_3); (try clear hcz14_4); (try clear hcz17_0); (try clear hcz17_1); (try clear hcz17_2); (try clear hcz17_3); (try clear hcz17_4); (try clear hcz19_0); (try clear hcz19_1); (try clear hcz19_2); (try clear hcz19_3); (try clear hcz19_4); (try clear hcz22_0); (try clear hcz22_1); (try clear hcz22_2); (try clear hcz22_3); (try clear hcz22_4); (try clear hfz12_0); (try clear hfz12_1); (try clear hfz12_2); (try clear hfz12_3); (try clear hfz12_4); (try clear hfz14_0); (try clear hfz14_1); (try clear hfz14_2); (try clear hfz14_3); (try clear hfz14_4); (try clear hfz17_0); (try clear hfz17_1); (try clear hfz17_2); (try clear hfz17_3); (try clear hfz17_4); (try clear hfz19_0); (try clear hfz19_1); (try clear hfz19_2); (try clear hfz19_3); (try clear hfz19_4); (try clear hfz22_0); (try clear hfz22_1); (try clear hfz22_2); (try clear hfz22_3); (try clear hfz22_4)
    obtain ⟨kq, x26_3, rfl, HA, HJ3, BK522, BK523, HB⟩ := hcut
    cases kq with
    | zero => exact absurd HA.out (by simp [stockyardlaw04_RuleChainMeans.j0])
    | succ kj3 =>
      have H := HA.out
      clear HA
      simp only [stockyardlaw04_RuleChainMeans.j0] at H
      by_cases c24 : x26_3 = true
      · subst c24
        have H1 : ((stockyardlaw04_awake.f kj3).bind fun t526 => (some t526)) = some r := by rw [if_pos rfl] at H; exact H
        clear H
        have H := H1
        clear H1
        replace H := Option.bind_eq_some_iff.mp H
        obtain ⟨t526, A250, H⟩ := H
        replace H : (some t526) = some r := H
        have A25 := Aside0.mk A250
        clear A250
        obtain rfl := Option.some.inj H
        go_wp2_with (first | ((with_reducible refine gate_callee (f := 22) rfl ?_); refine goesL_ (some 27) rfl rfl Tryd.func22 (by kernel_rfl) rfl #[] rfl gl_ ?_; (with_reducible refine (stockyardlaw04_awake.calls kj3  t526 _ A25.out).mono ?_); rintro e w26 ⟨rfl, hb⟩; refine ⟨_, rfl, ?_⟩; replace BK522 := bb_ BK522 hb; replace BK523 := bb_ BK523 hb; replace HB := hs_ HB hb; (try clear hb); (try clear hb2); (try clear hk); (try clear hi)))
        go_ret
        exact ⟨rt_, hb_⟩
      · replace c24 := Bool.eq_false_iff.mpr c24
        subst c24
        have H1 : ((rule_Chain.f kj3 a0_0 l0_1 a0_2 l0_3 a0_4 a1_0 l1_1 a1_2 l1_3 a1_4).bind fun bt527 => (if bt527.2.2.2.2.2.2 = 0 then ((rule_Forward.f kj3 a0_0 l0_1 a0_2 l0_3 a0_4 a2).bind fun bt540 => (if bt540.2 = true then ((rule_Forward.f kj3 a1_0 l1_1 a1_2 l1_3 a1_4 bt540.1).bind fun bt542 => (stockyardlaw04_RuleChainMeans.j1 kj3 a2 bt527.2.2.2.2.2.1 bt542.1 bt542.2 bt527.1 bt527.2.1 bt527.2.2.1 bt527.2.2.2.1 bt527.2.2.2.2.1)) else (stockyardlaw04_RuleChainMeans.j1 kj3 a2 bt527.2.2.2.2.2.1 bt540.1 bt540.2 bt527.1 bt527.2.1 bt527.2.2.1 bt527.2.2.2.1 bt527.2.2.2.2.1))) else ((stockyardlaw04_awake.f kj3).bind fun t539 => (some t539)))) = some r := by rw [if_neg (show ¬ (false = true) by decide)] at H; exact H
        clear H
        have H := H1
        clear H1
        replace H := Option.bind_eq_some_iff.mp H
        obtain ⟨⟨t527, t528, t531, t532, t535, t536, t537⟩, A270, H⟩ := H
        replace H : (if t537 = 0 then ((rule_Forward.f kj3 a0_0 l0_1 a0_2 l0_3 a0_4 a2).bind fun bt540 => (if bt540.2 = true then ((rule_Forward.f kj3 a1_0 l1_1 a1_2 l1_3 a1_4 bt540.1).bind fun bt542 => (stockyardlaw04_RuleChainMeans.j1 kj3 a2 t536 bt542.1 bt542.2 t527 t528 t531 t532 t535)) else (stockyardlaw04_RuleChainMeans.j1 kj3 a2 t536 bt540.1 bt540.2 t527 t528 t531 t532 t535))) else ((stockyardlaw04_awake.f kj3).bind fun t539 => (some t539))) = some r := H
        have A27 := Aside0.mk A270
        clear A270
        by_cases c28 : t537 = 0
        · rw [if_pos c28] at H
          have c28b0 : (t537 == 0) = true := beq_iff_eq.mpr c28
          have c28b1 : (t537 != 0) = false := bne_eq_false_iff_eq.mpr c28
          clear c28
          replace H := Option.bind_eq_some_iff.mp H
          obtain ⟨⟨t540, t541⟩, A290, H⟩ := H
          replace H : (if t541 = true then ((rule_Forward.f kj3 a1_0 l1_1 a1_2 l1_3 a1_4 t540).bind fun bt542 => (stockyardlaw04_RuleChainMeans.j1 kj3 a2 t536 bt542.1 bt542.2 t527 t528 t531 t532 t535)) else (stockyardlaw04_RuleChainMeans.j1 kj3 a2 t536 t540 t541 t527 t528 t531 t532 t535)) = some r := H
          have A29 := Aside0.mk A290
          clear A290
          have HC30 := Aside0.mk H
          clear H
          have hnb31 := NB522_523.out
          have hnc31 := NB523_522.out
          obtain ⟨hcz32_0, hcz32_1, hcz32_2, hcz32_3, hcz32_4, hfz32_0, hfz32_1, hfz32_2, hfz32_3, hfz32_4⟩ := c5_ BK522
          obtain ⟨hcz33_0, hcz33_1, hcz33_2, hcz33_3, hcz33_4, hfz33_0, hfz33_1, hfz33_2, hfz33_3, hfz33_4⟩ := c5_ BK523
          go_upto_if 44 with (first | ((with_reducible refine gate_callee (f := 23) rfl ?_); refine goesL_ (some 31) rfl rfl Tryd.func23 (by kernel_rfl) rfl #[.agg #[.bool a0_0, .slice A0_1 l0_1.length c0_1, .bool a0_2, .slice A0_3 l0_3.length c0_3, .bool a0_4], .agg #[.bool a1_0, .slice A1_1 l1_1.length c1_1, .bool a1_2, .slice A1_3 l1_3.length c1_3, .bool a1_4]] rfl gl_ ?_; (with_reducible refine (rule_Chain.calls kj3 a0_0 _ _ l0_1 a0_2 _ _ l0_3 a0_4 a1_0 _ _ l1_1 a1_2 _ _ l1_3 a1_4 t527 t528 t531 t532 t535 t536 t537 _ ?side1 ?side2 ?side3 ?side4 ?side5 ?side6 ?side7 ?side8 A27.out).mono ?_); (case side1 => exact sd_); (case side2 => exact HC0_1.out); (case side3 => exact sd_); (case side4 => exact HC0_3.out); (case side5 => exact sd_); (case side6 => exact HC1_1.out); (case side7 => exact sd_); (case side8 => exact HC1_3.out); rintro e w34 ⟨v529, v533, rfl, ho0, ho1, hb⟩; refine ⟨_, rfl, ?_⟩; have n0_ := Aside0.mk (Kd.R_lower ho0 (below_size hb_)); have n1_ := Aside0.mk (Kd.R_lower ho1 (below_size hb_)); replace BK522 := bb_ BK522 hb; replace BK523 := bb_ BK523 hb; replace HB := hs_ HB hb; have HO530 := n0_; have HO534 := n1_; clear n0_ n1_; (try clear hb); (try clear hb2); (try clear hk); (try clear hi); (try clear ho0); (try clear ho1)) | ((with_reducible refine gate_dst (N := 7) rfl ?_); (try (refine gate_guard (by rfl) ?_; dsimp only)); refine box_event ?hg (N := 7) ?hd (cs := #[.bool false, .slice none 0 0, .bool false, .slice none 0 0, .bool false]) (t := 39) ?hr ?_; (case hd => rfl); (case hg => rfl); (case hr => first | (go_simp; done) | (go_simp; rfl)); intro gb538 hg w35 hbox hb; have BK538 := Aside0.mk hbox; have GW538 := gw_ HB hg; have GE538 := gw_ HB hg; have NB522_538 := nl_ BK522 hg; have NB538_522 := nr_ BK522 hg; have NB523_538 := nl_ BK523 hg; have NB538_523 := nr_ BK523 hg; replace HO530 := rb_ HO530 hb; replace HO534 := rb_ HO534 hb; replace BK522 := bb_ BK522 hb; replace BK523 := bb_ BK523 hb; replace HB := hs_ HB hb; clear hb hbox hg; have hnb36 := NB538_522.out; have hnc36 := NB522_538.out; have hnb37 := NB538_523.out; have hnc37 := NB523_538.out; obtain ⟨hcz38_0, hcz38_1, hcz38_2, hcz38_3, hcz38_4, hfz38_0, hfz38_1, hfz38_2, hfz38_3, hfz38_4⟩ := c5_ BK538; obtain ⟨Ao39, co39, eo39⟩ := Kd.R_slice HO530.out; subst eo39; obtain ⟨Ao40, co40, eo40⟩ := Kd.R_slice HO534.out; subst eo40; obtain ⟨hcz41_0, hcz41_1, hcz41_2, hcz41_3, hcz41_4, hfz41_0, hfz41_1, hfz41_2, hfz41_3, hfz41_4⟩ := c5_ BK522) | ((with_reducible refine gate_callee (f := 24) rfl ?_); refine goesL_ (some 41) rfl rfl Tryd.func24 (by kernel_rfl) rfl #[.agg #[.bool a0_0, .slice A0_1 l0_1.length c0_1, .bool a0_2, .slice A0_3 l0_3.length c0_3, .bool a0_4], .string a2] rfl gl_ ?_; (with_reducible refine (rule_Forward.calls kj3 a0_0 _ _ l0_1 a0_2 _ _ l0_3 a0_4 a2 t540 t541 _ ?side1 ?side2 ?side3 ?side4 A29.out).mono ?_); (case side1 => exact Kd.C_below HR0_1.out hb_); (case side2 => exact HC0_1.out); (case side3 => exact Kd.C_below HR0_3.out hb_); (case side4 => exact HC0_3.out); rintro e w42 ⟨rfl, hb⟩; refine ⟨_, rfl, ?_⟩; have n0_ := Aside0.mk (Kd.R_below (by (with_reducible repeat (first | apply Kd.R_alloc | apply Kd.R_drewN | apply Kd.R_drew)); exact (Kd.R_mono (Kd.R_far (p := ⟨gb538, 4, none⟩) (Kd.R_far (p := ⟨gb538, 3, none⟩) (Kd.R_far (p := ⟨gb538, 2, none⟩) (Kd.R_far (p := ⟨gb538, 1, none⟩) (Kd.R_far (p := ⟨gb538, 0, none⟩) (Kd.R_types HO530.out BK538.out (by decide)) (fun _ hk => hk.2) (.bool t527)) (fun _ hk => hk.2) (.slice Ao39 t528.length co39)) (fun _ hk => hk.2) (.bool t531)) (fun _ hk => hk.2) (.slice Ao40 t532.length co40)) (fun _ hk => hk.2) (.bool t535)) (fun _ h_ => h_.1))) hb); have n1_ := Aside0.mk (Kd.R_below (by (with_reducible repeat (first | apply Kd.R_alloc | apply Kd.R_drewN | apply Kd.R_drew)); exact (Kd.R_mono (Kd.R_far (p := ⟨gb538, 4, none⟩) (Kd.R_far (p := ⟨gb538, 3, none⟩) (Kd.R_far (p := ⟨gb538, 2, none⟩) (Kd.R_far (p := ⟨gb538, 1, none⟩) (Kd.R_far (p := ⟨gb538, 0, none⟩) (Kd.R_types HO534.out BK538.out (by decide)) (fun _ hk => hk.2) (.bool t527)) (fun _ hk => hk.2) (.slice Ao39 t528.length co39)) (fun _ hk => hk.2) (.bool t531)) (fun _ hk => hk.2) (.slice Ao40 t532.length co40)) (fun _ hk => hk.2) (.bool t535)) (fun _ h_ => h_.1))) hb); have n4_ := Aside0.mk (blk_below (g := gb538) (o := .cells #[.bool t527, .slice Ao39 t528.length co39, .bool t531, .slice Ao40 t532.length co40, .bool t535] 39 (0, 0)) bz_ hb); replace BK522 := bb_ BK522 hb; replace BK523 := bb_ BK523 hb; replace HB := hs_ HB hb; clear HO530 HO534 BK538; have HO530 := n0_; have HO534 := n1_; have BK538 := n4_; clear n0_ n1_ n4_; (try clear hb); (try clear hb2); (try clear hk); (try clear hi)))
          (try simp only [Act.put, List.setIfInBounds_toArray, List.set_cons_zero, List.set_cons_succ])
          go_cut [10, 11] (fun v10 v11 wc => ∃ (kq : Nat) (x10_29 : ByteArray) (x11_29 : Bool), v10 = .string x10_29 ∧ v11 = .bool x11_29 ∧ Aside0 (stockyardlaw04_RuleChainMeans.j1 kq a2 t536 x10_29 x11_29 t527 t528 t531 t532 t535 = some r) ∧ Aside0 (kq ≤ kj3) ∧ Aside0 (Kd.R Kd.string 9 wc w.heap.size (fun k_ => some k_ ≠ ((.slice Ao40 t532.length co40) : Value).ownBlock) (.slice Ao39 t528.length co39) t528) ∧ Aside0 (Kd.R Kd.string 9 wc w.heap.size (fun k_ => some k_ ≠ ((.slice Ao39 t528.length co39) : Value).ownBlock) (.slice Ao40 t532.length co40) t532) ∧ Aside0 (wc.heap[gb522]? = some (.cells #[.bool a0_0, (.slice A0_1 l0_1.length c0_1), .bool a0_2, (.slice A0_3 l0_3.length c0_3), .bool a0_4] 39 (0, 0))) ∧ Aside0 (wc.heap[gb523]? = some (.cells #[.bool a1_0, (.slice A1_1 l1_1.length c1_1), .bool a1_2, (.slice A1_3 l1_3.length c1_3), .bool a1_4] 39 (0, 0))) ∧ Aside0 (wc.heap[gb538]? = some (.cells #[.bool t527, (.slice Ao39 t528.length co39), .bool t531, (.slice Ao40 t532.length co40), .bool t535] 39 (0, 0))) ∧ Aside0 (Below w.heap.size w wc))
          case first =>
            have H := HC30.out
            clear HC30
            by_cases c43 : t541 = true
            · subst c43
              have H1 : ((rule_Forward.f kj3 a1_0 l1_1 a1_2 l1_3 a1_4 t540).bind fun bt542 => (stockyardlaw04_RuleChainMeans.j1 kj3 a2 t536 bt542.1 bt542.2 t527 t528 t531 t532 t535)) = some r := by rw [if_pos rfl] at H; exact H
              clear H
              have H := H1
              clear H1
              replace H := Option.bind_eq_some_iff.mp H
              obtain ⟨⟨t542, t543⟩, A440, H⟩ := H
              replace H : (stockyardlaw04_RuleChainMeans.j1 kj3 a2 t536 t542 t543 t527 t528 t531 t532 t535) = some r := H
              have A44 := Aside0.mk A440
              clear A440
              have H' := Aside0.mk H
              clear H
              have hnb45 := NB523_522.out
              have hnc45 := NB522_523.out
              have hnb46 := NB523_538.out
              have hnc46 := NB538_523.out
              obtain ⟨hcz47_0, hcz47_1, hcz47_2, hcz47_3, hcz47_4, hfz47_0, hfz47_1, hfz47_2, hfz47_3, hfz47_4⟩ := c5_ BK523
              go_wp2_with (first | ((with_reducible refine gate_callee (f := 24) rfl ?_); refine goesL_ (some 48) rfl rfl Tryd.func24 (by kernel_rfl) rfl #[.agg #[.bool a1_0, .slice A1_1 l1_1.length c1_1, .bool a1_2, .slice A1_3 l1_3.length c1_3, .bool a1_4], .string t540] rfl gl_ ?_; (with_reducible refine (rule_Forward.calls kj3 a1_0 _ _ l1_1 a1_2 _ _ l1_3 a1_4 t540 t542 t543 _ ?side1 ?side2 ?side3 ?side4 A44.out).mono ?_); (case side1 => exact sd_); (case side2 => exact HC1_1.out); (case side3 => exact sd_); (case side4 => exact HC1_3.out); rintro e w48 ⟨rfl, hb⟩; refine ⟨_, rfl, ?_⟩; replace HO530 := rb_ HO530 hb; replace HO534 := rb_ HO534 hb; replace BK522 := bb_ BK522 hb; replace BK523 := bb_ BK523 hb; replace BK538 := bb_ BK538 hb; replace HB := hs_ HB hb; (try clear hb); (try clear hb2); (try clear hk); (try clear hi)))
              go_meet
              case rel => exact ⟨_, (t542), (t543), (by first | rfl | (simp; done) | (simp [*]; done)), (by first | rfl | (simp; done) | (simp [*]; done)), H', ⟨by have := HJ3.out; first | omega | exact Nat.le_refl _⟩, ⟨by (with_reducible repeat (first | apply Kd.R_alloc | apply Kd.R_drewN | apply Kd.R_drew)); exact HO530.out⟩, ⟨by (with_reducible repeat (first | apply Kd.R_alloc | apply Kd.R_drewN | apply Kd.R_drew)); exact HO534.out⟩, ⟨bk_⟩, ⟨bk_⟩, ⟨bk_⟩, ⟨hb_⟩⟩
            · replace c43 := Bool.eq_false_iff.mpr c43
              subst c43
              have H1 : (stockyardlaw04_RuleChainMeans.j1 kj3 a2 t536 t540 false t527 t528 t531 t532 t535) = some r := by rw [if_neg (show ¬ (false = true) by decide)] at H; exact H
              clear H
              have H := H1
              clear H1
              have H' := Aside0.mk H
              clear H
              go_wp2
              go_meet
              case rel => exact ⟨_, (t540), (false), (by first | rfl | (simp; done) | (simp [*]; done)), (by first | rfl | (simp; done) | (simp [*]; done)), H', ⟨by have := HJ3.out; first | omega | exact Nat.le_refl _⟩, ⟨by (with_reducible repeat (first | apply Kd.R_alloc | apply Kd.R_drewN | apply Kd.R_drew)); exact HO530.out⟩, ⟨by (with_reducible repeat (first | apply Kd.R_alloc | apply Kd.R_drewN | apply Kd.R_drew)); exact HO534.out⟩, ⟨bk_⟩, ⟨bk_⟩, ⟨bk_⟩, ⟨hb_⟩⟩
          case rest =>
            clear HC30; (try clear c1); (try clear c2); (try clear p2); (try clear c3); (try clear c4); (try clear c5); (try clear c8); (try clear c10); (try clear c11); (try clear c16); (try clear c21); (try clear c22); (try clear c23); (try clear c24); (try clear c28); (try clear c28b0); (try clear c28b1); (try clear c31); (try clear c36); (try clear c37); (try clear c43); (try clear c45); (try clear c46); (try clear hcz12_0); (try clear hcz12_1); (try clear hcz12_2); (try clear hcz12_3); (try clear hcz12_4); (try clear hcz14_0); (try clear hcz14_1); (try clear hcz14_2); (try clear hcz14_3); (try clear hcz14_4); (try clear hcz17_0); (try clear hcz17_1); (try clear hcz17_2); (try clear hcz17_3); (try clear hcz17_4); (try clear hcz19_0); (try clear hcz19_1); (try clear hcz19_2); (try clear hcz19_3); (try clear hcz19_4); (try clear hcz22_0); (try clear hcz22_1); (try clear hcz22_2); (try clear hcz22_3); (try clear hcz22_4); (try clear hcz32_0); (try clear hcz32_1); (try clear hcz32_2); (try clear hcz32_3); (try clear hcz32_4); (try clear hcz33_0); (try clear hcz33_1); (try clear hcz33_2); (try clear hcz33_3); (try clear hcz33_4); (try clear hcz38_0); (try clear hcz38_1); (try clear hcz38_2); (try clear hcz38_3); (try clear hcz38_4); (try clear hcz41_0); (try clear hcz41_1); (try clear hcz41_2); (try clear hcz41_3); (try clear hcz41_4); (try clear hcz47_0); (try clear hcz47_1); (try clear hcz47_2); (try clear hcz47_3); (try clear hcz47_4); (try clear hfz12_0); (try clear hfz12_1); (try clear hfz12_2); (try clear hfz12_3); (try clear hfz12_4); (try clear hfz14_0); (try clear hfz14_1); (try clear hfz14_2); (try clear hfz14_3); (try clear hfz14_4); (try clear hfz17_0); (try clear hfz17_1); (try clear hfz17_2); (try clear hfz17_3); (try clear hfz17_4); (try clear hfz19_0); (try clear hfz19_1); (try clear hfz19_2); (try clear hfz19_3); (try clear hfz19_4); (try clear hfz22_0); (try clear hfz22_1); (try clear hfz22_2); (try clear hfz22_3); (try clear hfz22_4); (try clear hfz32_0); (try clear hfz32_1); (try clear hfz32_2); (try clear hfz32_3); (try clear hfz32_4); (try clear hfz33_0); (try clear hfz33_1); (try clear hfz33_2); (try clear hfz33_3); (try clear hfz33_4); (try clear hfz38_0); (try clear hfz38_1); (try clear hfz38_2); (try clear hfz38_3); (try clear hfz38_4); (try clear hfz41_0); (try clear hfz41_1); (try clear hfz41_2); (try clear hfz41_3); (try clear hfz41_4); (try clear hfz47_0); (try clear hfz47_1); (try clear hfz47_2); (try clear hfz47_3); (try clear hfz47_4); (try clear p2)
            obtain ⟨kq, x10_29, x11_29, rfl, rfl, HA, HJ29, HO_539001, HO_539003, BK522, BK523, BK538, HB⟩ := hcut
            cases kq with
            | zero => exact absurd HA.out (by simp [stockyardlaw04_RuleChainMeans.j1])
            | succ kj29 =>
              have H := HA.out
              clear HA
              simp only [stockyardlaw04_RuleChainMeans.j1] at H
              by_cases c49 : t536 = true
              · subst c49
                have H1 : ((rule_Forward.f kj29 t527 t528 t531 t532 t535 a2).bind fun bt544 => (if bt544.1.toList = x10_29.toList then (if (bt544.2 == x11_29) = true then ((stockyardlaw04_awake.f kj29).bind fun t546 => (some t546)) else (some false)) else (some false))) = some r := by rw [if_pos rfl] at H; exact H
                clear H
                have H := H1
                clear H1
                replace H := Option.bind_eq_some_iff.mp H
                obtain ⟨⟨t544, t545⟩, A500, H⟩ := H
                replace H : (if t544.toList = x10_29.toList then (if (t545 == x11_29) = true then ((stockyardlaw04_awake.f kj29).bind fun t546 => (some t546)) else (some false)) else (some false)) = some r := H
                have A50 := Aside0.mk A500
                clear A500
                by_cases c51 : t544.toList = x10_29.toList
                · rw [if_pos c51] at H
                  have c51b0 : (t544.toList == x10_29.toList) = true := beq_iff_eq.mpr c51
                  have c51b1 : (t544.toList != x10_29.toList) = false := bne_eq_false_iff_eq.mpr c51
                  clear c51
                  by_cases c52 : (t545 == x11_29) = true
                  · rw [if_pos c52] at H
                    have c52b0 : (t545 == x11_29) = true := c52
                    (try (have c52b1 : decide (t545 = x11_29) = true := by simpa using c52))
                    (try (have c52b2 : (t545 == x11_29) = true := by simpa using c52))
                    clear c52
                    replace H := Option.bind_eq_some_iff.mp H
                    obtain ⟨t546, A530, H⟩ := H
                    replace H : (some t546) = some r := H
                    have A53 := Aside0.mk A530
                    clear A530
                    obtain rfl := Option.some.inj H
                    have hnb54 := NB538_522.out
                    have hnc54 := NB522_538.out
                    have hnb55 := NB538_523.out
                    have hnc55 := NB523_538.out
                    obtain ⟨hcz56_0, hcz56_1, hcz56_2, hcz56_3, hcz56_4, hfz56_0, hfz56_1, hfz56_2, hfz56_3, hfz56_4⟩ := c5_ BK538
                    go_wp2_with (first | ((with_reducible refine gate_callee (f := 24) rfl ?_); refine goesL_ (some 61) rfl rfl Tryd.func24 (by kernel_rfl) rfl #[.agg #[.bool t527, .slice Ao39 t528.length co39, .bool t531, .slice Ao40 t532.length co40, .bool t535], .string a2] rfl gl_ ?_; (with_reducible refine (rule_Forward.calls kj29 t527 _ _ t528 t531 _ _ t532 t535 a2 t544 t545 _ ?side1 ?side2 ?side3 ?side4 A50.out).mono ?_); (case side1 => repeat (first | exact (Kd.R_reads' HO_539001.out).2.2 | (with_reducible refine Kd.C_alloc ?_ _) | (with_reducible refine Kd.C_drewN ?_ _) | (with_reducible refine Kd.C_drew ?_))); (case side2 => exact (Kd.R_reads' HO_539001.out).2.1); (case side3 => repeat (first | exact (Kd.R_reads' HO_539003.out).2.2 | (with_reducible refine Kd.C_alloc ?_ _) | (with_reducible refine Kd.C_drewN ?_ _) | (with_reducible refine Kd.C_drew ?_))); (case side4 => exact (Kd.R_reads' HO_539003.out).2.1); rintro e w57 ⟨rfl, hb⟩; refine ⟨_, rfl, ?_⟩; replace HO_539001 := rb_ HO_539001 hb; replace HO_539003 := rb_ HO_539003 hb; replace BK522 := bb_ BK522 hb; replace BK523 := bb_ BK523 hb; replace BK538 := bb_ BK538 hb; replace HB := hs_ HB hb; (try clear hb); (try clear hb2); (try clear hk); (try clear hi)) | (go_at_call 22; (with_reducible refine (stockyardlaw04_awake.calls kj29  t546 _ A53.out).mono ?_); rintro e w58 ⟨rfl, hb⟩; replace HO_539001 := rb_ HO_539001 hb; replace HO_539003 := rb_ HO_539003 hb; replace BK522 := bb_ BK522 hb; replace BK523 := bb_ BK523 hb; replace BK538 := bb_ BK538 hb; replace HB := hs_ HB hb; (try clear hb); (try clear hb2); (try clear hk); (try clear hi)))
                    go_ret
                    exact ⟨rt_, hb_⟩
                  · rw [if_neg c52] at H
                    have c52b0 : (t545 == x11_29) = false := by simpa using c52
                    (try (have c52b1 : decide (t545 = x11_29) = false := by simpa using c52))
                    (try (have c52b2 : (t545 == x11_29) = false := by simpa using c52))
                    (try (have c52b3 : ¬ (t545 = x11_29) := by simpa using c52))
                    clear c52
                    obtain rfl := Option.some.inj H
                    have hnb59 := NB538_522.out
                    have hnc59 := NB522_538.out
                    have hnb60 := NB538_523.out
                    have hnc60 := NB523_538.out
                    obtain ⟨hcz61_0, hcz61_1, hcz61_2, hcz61_3, hcz61_4, hfz61_0, hfz61_1, hfz61_2, hfz61_3, hfz61_4⟩ := c5_ BK538
                    go_wp2_with (first | ((with_reducible refine gate_callee (f := 24) rfl ?_); refine goesL_ (some 61) rfl rfl Tryd.func24 (by kernel_rfl) rfl #[.agg #[.bool t527, .slice Ao39 t528.length co39, .bool t531, .slice Ao40 t532.length co40, .bool t535], .string a2] rfl gl_ ?_; (with_reducible refine (rule_Forward.calls kj29 t527 _ _ t528 t531 _ _ t532 t535 a2 t544 t545 _ ?side1 ?side2 ?side3 ?side4 A50.out).mono ?_); (case side1 => repeat (first | exact (Kd.R_reads' HO_539001.out).2.2 | (with_reducible refine Kd.C_alloc ?_ _) | (with_reducible refine Kd.C_drewN ?_ _) | (with_reducible refine Kd.C_drew ?_))); (case side2 => exact (Kd.R_reads' HO_539001.out).2.1); (case side3 => repeat (first | exact (Kd.R_reads' HO_539003.out).2.2 | (with_reducible refine Kd.C_alloc ?_ _) | (with_reducible refine Kd.C_drewN ?_ _) | (with_reducible refine Kd.C_drew ?_))); (case side4 => exact (Kd.R_reads' HO_539003.out).2.1); rintro e w62 ⟨rfl, hb⟩; refine ⟨_, rfl, ?_⟩; replace HO_539001 := rb_ HO_539001 hb; replace HO_539003 := rb_ HO_539003 hb; replace BK522 := bb_ BK522 hb; replace BK523 := bb_ BK523 hb; replace BK538 := bb_ BK538 hb; replace HB := hs_ HB hb; (try clear hb); (try clear hb2); (try clear hk); (try clear hi)))
                    go_ret
                    exact ⟨rt_, hb_⟩
                · rw [if_neg c51] at H
                  have c51b0 : (t544.toList == x10_29.toList) = false := beq_eq_false_iff_ne.mpr c51
                  have c51b1 : (t544.toList != x10_29.toList) = true := bne_iff_ne.mpr c51
                  obtain rfl := Option.some.inj H
                  have hnb63 := NB538_522.out
                  have hnc63 := NB522_538.out
                  have hnb64 := NB538_523.out
                  have hnc64 := NB523_538.out
                  obtain ⟨hcz65_0, hcz65_1, hcz65_2, hcz65_3, hcz65_4, hfz65_0, hfz65_1, hfz65_2, hfz65_3, hfz65_4⟩ := c5_ BK538
                  go_wp2_with (first | ((with_reducible refine gate_callee (f := 24) rfl ?_); refine goesL_ (some 61) rfl rfl Tryd.func24 (by kernel_rfl) rfl #[.agg #[.bool t527, .slice Ao39 t528.length co39, .bool t531, .slice Ao40 t532.length co40, .bool t535], .string a2] rfl gl_ ?_; (with_reducible refine (rule_Forward.calls kj29 t527 _ _ t528 t531 _ _ t532 t535 a2 t544 t545 _ ?side1 ?side2 ?side3 ?side4 A50.out).mono ?_); (case side1 => repeat (first | exact (Kd.R_reads' HO_539001.out).2.2 | (with_reducible refine Kd.C_alloc ?_ _) | (with_reducible refine Kd.C_drewN ?_ _) | (with_reducible refine Kd.C_drew ?_))); (case side2 => exact (Kd.R_reads' HO_539001.out).2.1); (case side3 => repeat (first | exact (Kd.R_reads' HO_539003.out).2.2 | (with_reducible refine Kd.C_alloc ?_ _) | (with_reducible refine Kd.C_drewN ?_ _) | (with_reducible refine Kd.C_drew ?_))); (case side4 => exact (Kd.R_reads' HO_539003.out).2.1); rintro e w66 ⟨rfl, hb⟩; refine ⟨_, rfl, ?_⟩; replace HO_539001 := rb_ HO_539001 hb; replace HO_539003 := rb_ HO_539003 hb; replace BK522 := bb_ BK522 hb; replace BK523 := bb_ BK523 hb; replace BK538 := bb_ BK538 hb; replace HB := hs_ HB hb; (try clear hb); (try clear hb2); (try clear hk); (try clear hi)))
                  go_ret
                  exact ⟨rt_, hb_⟩
              · replace c49 := Bool.eq_false_iff.mpr c49
                subst c49
                have H1 : (if x11_29 = true then (some false) else ((stockyardlaw04_awake.f kj29).bind fun t547 => (some t547))) = some r := by rw [if_neg (show ¬ (false = true) by decide)] at H; exact H
                clear H
                have H := H1
                clear H1
                by_cases c67 : x11_29 = true
                · subst c67
                  have H1 : (some false) = some r := by rw [if_pos rfl] at H; exact H
                  clear H
                  have H := H1
                  clear H1
                  obtain rfl := Option.some.inj H
                  go_wp2
                  go_ret
                  exact ⟨rt_, hb_⟩
                · replace c67 := Bool.eq_false_iff.mpr c67
                  subst c67
                  have H1 : ((stockyardlaw04_awake.f kj29).bind fun t547 => (some t547)) = some r := by rw [if_neg (show ¬ (false = true) by decide)] at H; exact H
                  clear H
                  have H := H1
                  clear H1
                  replace H := Option.bind_eq_some_iff.mp H
                  obtain ⟨t547, A680, H⟩ := H
                  replace H : (some t547) = some r := H
                  have A68 := Aside0.mk A680
                  clear A680
                  obtain rfl := Option.some.inj H
                  go_wp2_with (first | (go_at_call 22; (with_reducible refine (stockyardlaw04_awake.calls kj29  t547 _ A68.out).mono ?_); rintro e w69 ⟨rfl, hb⟩; replace HO_539001 := rb_ HO_539001 hb; replace HO_539003 := rb_ HO_539003 hb; replace BK522 := bb_ BK522 hb; replace BK523 := bb_ BK523 hb; replace BK538 := bb_ BK538 hb; replace HB := hs_ HB hb; (try clear hb); (try clear hb2); (try clear hk); (try clear hi)))
                  go_ret
                  exact ⟨rt_, hb_⟩
        · rw [if_neg c28] at H
          have c28b0 : (t537 == 0) = false := beq_eq_false_iff_ne.mpr c28
          have c28b1 : (t537 != 0) = true := bne_iff_ne.mpr c28
          replace H := Option.bind_eq_some_iff.mp H
          obtain ⟨t539, A700, H⟩ := H
          replace H : (some t539) = some r := H
          have A70 := Aside0.mk A700
          clear A700
          obtain rfl := Option.some.inj H
          have hnb71 := NB522_523.out
          have hnc71 := NB523_522.out
          obtain ⟨hcz72_0, hcz72_1, hcz72_2, hcz72_3, hcz72_4, hfz72_0, hfz72_1, hfz72_2, hfz72_3, hfz72_4⟩ := c5_ BK522
          obtain ⟨hcz73_0, hcz73_1, hcz73_2, hcz73_3, hcz73_4, hfz73_0, hfz73_1, hfz73_2, hfz73_3, hfz73_4⟩ := c5_ BK523
          go_wp2_with (first | ((with_reducible refine gate_callee (f := 23) rfl ?_); refine goesL_ (some 31) rfl rfl Tryd.func23 (by kernel_rfl) rfl #[.agg #[.bool a0_0, .slice A0_1 l0_1.length c0_1, .bool a0_2, .slice A0_3 l0_3.length c0_3, .bool a0_4], .agg #[.bool a1_0, .slice A1_1 l1_1.length c1_1, .bool a1_2, .slice A1_3 l1_3.length c1_3, .bool a1_4]] rfl gl_ ?_; (with_reducible refine (rule_Chain.calls kj3 a0_0 _ _ l0_1 a0_2 _ _ l0_3 a0_4 a1_0 _ _ l1_1 a1_2 _ _ l1_3 a1_4 t527 t528 t531 t532 t535 t536 t537 _ ?side1 ?side2 ?side3 ?side4 ?side5 ?side6 ?side7 ?side8 A27.out).mono ?_); (case side1 => exact sd_); (case side2 => exact HC0_1.out); (case side3 => exact sd_); (case side4 => exact HC0_3.out); (case side5 => exact sd_); (case side6 => exact HC1_1.out); (case side7 => exact sd_); (case side8 => exact HC1_3.out); rintro e w74 ⟨v529, v533, rfl, ho0, ho1, hb⟩; refine ⟨_, rfl, ?_⟩; have n0_ := Aside0.mk (Kd.R_lower ho0 (below_size hb_)); have n1_ := Aside0.mk (Kd.R_lower ho1 (below_size hb_)); replace BK522 := bb_ BK522 hb; replace BK523 := bb_ BK523 hb; replace HB := hs_ HB hb; have HO530 := n0_; have HO534 := n1_; clear n0_ n1_; (try clear hb); (try clear hb2); (try clear hk); (try clear hi); (try clear ho0); (try clear ho1)) | ((with_reducible refine gate_dst (N := 7) rfl ?_); (try (refine gate_guard (by rfl) ?_; dsimp only)); refine box_event ?hg (N := 7) ?hd (cs := #[.bool false, .slice none 0 0, .bool false, .slice none 0 0, .bool false]) (t := 39) ?hr ?_; (case hd => rfl); (case hg => rfl); (case hr => first | (go_simp; done) | (go_simp; rfl)); intro gb538 hg w75 hbox hb; have BK538 := Aside0.mk hbox; have GW538 := gw_ HB hg; have GE538 := gw_ HB hg; have NB522_538 := nl_ BK522 hg; have NB538_522 := nr_ BK522 hg; have NB523_538 := nl_ BK523 hg; have NB538_523 := nr_ BK523 hg; replace HO530 := rb_ HO530 hb; replace HO534 := rb_ HO534 hb; replace BK522 := bb_ BK522 hb; replace BK523 := bb_ BK523 hb; replace HB := hs_ HB hb; clear hb hbox hg; have hnb76 := NB538_522.out; have hnc76 := NB522_538.out; have hnb77 := NB538_523.out; have hnc77 := NB523_538.out; obtain ⟨hcz78_0, hcz78_1, hcz78_2, hcz78_3, hcz78_4, hfz78_0, hfz78_1, hfz78_2, hfz78_3, hfz78_4⟩ := c5_ BK538; obtain ⟨Ao79, co79, eo79⟩ := Kd.R_slice HO530.out; subst eo79; obtain ⟨Ao80, co80, eo80⟩ := Kd.R_slice HO534.out; subst eo80) | ((with_reducible refine gate_callee (f := 22) rfl ?_); refine goesL_ (some 37) rfl rfl Tryd.func22 (by kernel_rfl) rfl #[] rfl gl_ ?_; (with_reducible refine (stockyardlaw04_awake.calls kj3  t539 _ A70.out).mono ?_); rintro e w81 ⟨rfl, hb⟩; refine ⟨_, rfl, ?_⟩; have n0_ := Aside0.mk (Kd.R_below (by (with_reducible repeat (first | apply Kd.R_alloc | apply Kd.R_drewN | apply Kd.R_drew)); exact (Kd.R_mono (Kd.R_far (p := ⟨gb538, 4, none⟩) (Kd.R_far (p := ⟨gb538, 3, none⟩) (Kd.R_far (p := ⟨gb538, 2, none⟩) (Kd.R_far (p := ⟨gb538, 1, none⟩) (Kd.R_far (p := ⟨gb538, 0, none⟩) (Kd.R_types HO530.out BK538.out (by decide)) (fun _ hk => hk.2) (.bool t527)) (fun _ hk => hk.2) (.slice Ao79 t528.length co79)) (fun _ hk => hk.2) (.bool t531)) (fun _ hk => hk.2) (.slice Ao80 t532.length co80)) (fun _ hk => hk.2) (.bool t535)) (fun _ h_ => h_.1))) hb); have n1_ := Aside0.mk (Kd.R_below (by (with_reducible repeat (first | apply Kd.R_alloc | apply Kd.R_drewN | apply Kd.R_drew)); exact (Kd.R_mono (Kd.R_far (p := ⟨gb538, 4, none⟩) (Kd.R_far (p := ⟨gb538, 3, none⟩) (Kd.R_far (p := ⟨gb538, 2, none⟩) (Kd.R_far (p := ⟨gb538, 1, none⟩) (Kd.R_far (p := ⟨gb538, 0, none⟩) (Kd.R_types HO534.out BK538.out (by decide)) (fun _ hk => hk.2) (.bool t527)) (fun _ hk => hk.2) (.slice Ao79 t528.length co79)) (fun _ hk => hk.2) (.bool t531)) (fun _ hk => hk.2) (.slice Ao80 t532.length co80)) (fun _ hk => hk.2) (.bool t535)) (fun _ h_ => h_.1))) hb); have n4_ := Aside0.mk (blk_below (g := gb538) (o := .cells #[.bool t527, .slice Ao79 t528.length co79, .bool t531, .slice Ao80 t532.length co80, .bool t535] 39 (0, 0)) bz_ hb); replace BK522 := bb_ BK522 hb; replace BK523 := bb_ BK523 hb; replace HB := hs_ HB hb; clear HO530 HO534 BK538; have HO530 := n0_; have HO534 := n1_; have BK538 := n4_; clear n0_ n1_ n4_; (try clear hb); (try clear hb2); (try clear hk); (try clear hi)))
          go_ret
          exact ⟨rt_, hb_⟩

end Go.Proofs.YthclkdplihchjaaDoor.P

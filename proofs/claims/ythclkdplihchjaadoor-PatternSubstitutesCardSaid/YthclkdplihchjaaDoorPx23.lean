-- Written by a program of this session (wip/gen.py) over the kit's print: each Go function as a plain Lean function, and the proof that the Go code comes to it. Nothing here is trusted: Lean checks it.
import Derived.Test.YthclkdplihchjaaDoorPx0
import Derived.Test.YthclkdplihchjaaDoorPx2
import Derived.Test.YthclkdplihchjaaDoorPx9
import Derived.Test.YthclkdplihchjaaDoorPx10
import Derived.Test.YthclkdplihchjaaDoorPx13
import Derived.Test.YthclkdplihchjaaDoorSq
namespace Go.Proofs.YthclkdplihchjaaDoor.P
open Go.RowKit Go.Proofs.YthclkdplihchjaaDoorW.PrintWords Go.Proofs.YthclkdplihchjaaDoorW.PrintLast Go.Proofs.YthclkdplihchjaaDoorW.PrintMore
attribute [local go_sem] str_gtr str_leq str_geq max2_int min2_int max_two min_two max_three min_three max_four min_four   -- for this text's walks alone
set_option linter.unusedVariables false
set_option linter.unusedSimpArgs false

/-! ### stockyardlaw03_PatternSubstitutes: function 3 -/
mutual
def stockyardlaw03_PatternSubstitutes.j0 : Nat → List (S28) → Bool → List ByteArray → Bool → Option (Bool)
  | 0, _, _, _, _ => none
  | k + 1, x1, x18, x272000, x272001 => if x18 = true then ((stockyardlaw03_awake.f k).bind fun t273 => (some t273)) else (stockyardlaw03_PatternSubstitutes.l0 k x1 x1 (x1.length : Int) 0 x272000 x272001)
def stockyardlaw03_PatternSubstitutes.l0 : Nat → List (S28) → List (S28) → Int → Int → List ByteArray → Bool → Option (Bool)
  | 0, _, _, _, _, _, _ => none
  | k + 1, x1, x20, x21, x22, x272000, x272001 => if x22 < x21 then (if 0 ≤ x22 then (if x22 < (x20.length : Int) then ((stockyardlaw03_small.f k ((rd_T28 x20 x22).f0) false).bind fun t276 => (if t276 = true then (stockyardlaw03_PatternSubstitutes.l0 k x1 x20 x21 (wrap64 (x22 + 1)) x272000 x272001) else ((stockyardlaw03_awake.f k).bind fun t277 => (some t277)))) else (none)) else (none)) else ((pattern_Substitute.f k x272000 x272001 x1).bind fun bt278 => ((stockyardref03_Substitute.f k x272000 x272001 x1).bind fun bt284 => (if bt278.2.2 = bt284.2.2 then ((stockyardref03_Same.f k bt278.1 bt278.2.1 bt284.1 bt284.2.1).bind fun t290 => (if t290 = true then ((stockyardlaw03_awake.f k).bind fun t291 => (some t291)) else (some false))) else (some false))))
end
def stockyardlaw03_PatternSubstitutes.f (k : Nat) (l0_0 : List ByteArray) (a0_1 : Bool) (l1 : List (S28)) : Option (Bool) := (stockyardlaw03_small.f k l0_0 a0_1).bind fun t272 => (if t272 = true then (stockyardlaw03_PatternSubstitutes.j0 k l1 (decide ((l1.length : Int) > 20)) l0_0 a0_1) else (stockyardlaw03_PatternSubstitutes.j0 k l1 true l0_0 a0_1))
theorem stockyardlaw03_PatternSubstitutes.mono_l : ∀ k, (∀ y0 y1 y2 y3, LeO (stockyardlaw03_PatternSubstitutes.j0 k y0 y1 y2 y3) (stockyardlaw03_PatternSubstitutes.j0 (k + 1) y0 y1 y2 y3)) ∧ (∀ y0 y1 y2 y3 y4 y5, LeO (stockyardlaw03_PatternSubstitutes.l0 k y0 y1 y2 y3 y4 y5) (stockyardlaw03_PatternSubstitutes.l0 (k + 1) y0 y1 y2 y3 y4 y5))
  | 0 => ⟨fun _ _ _ _ r h => by simp [stockyardlaw03_PatternSubstitutes.j0] at h, fun _ _ _ _ _ _ r h => by simp [stockyardlaw03_PatternSubstitutes.l0] at h⟩
  | k + 1 => by
    obtain ⟨ih0, ih1⟩ := stockyardlaw03_PatternSubstitutes.mono_l k
    refine ⟨?_, ?_⟩
    · intro y0 y1 y2 y3
      unfold stockyardlaw03_PatternSubstitutes.j0
      repeat' first
      | (with_reducible exact ih0 _ _ _ _)
      | (with_reducible exact ih1 _ _ _ _ _ _)
      | (with_reducible exact pattern_Substitute.mono _ _ _ _)
      | (with_reducible exact stockyardlaw03_awake.mono _)
      | (with_reducible exact stockyardlaw03_small.mono _ _ _)
      | (with_reducible exact stockyardref03_Same.mono _ _ _ _ _)
      | (with_reducible exact stockyardref03_Substitute.mono _ _ _ _)
      | (with_reducible exact LeO.refl _)
      | (with_reducible exact LeO.none _)
      | (with_reducible refine LeO.ite ?_ ?_)
      | (with_reducible refine LeO.bind ?_ (fun _ => ?_))
      | exact ih0 _ _ _ _
      | exact ih1 _ _ _ _ _ _
      | exact pattern_Substitute.mono _ _ _ _
      | exact stockyardlaw03_awake.mono _
      | exact stockyardlaw03_small.mono _ _ _
      | exact stockyardref03_Same.mono _ _ _ _ _
      | exact stockyardref03_Substitute.mono _ _ _ _
      | exact LeO.none _
      | refine LeO.ite ?_ ?_
      | refine LeO.bind ?_ (fun _ => ?_)
    · intro y0 y1 y2 y3 y4 y5
      unfold stockyardlaw03_PatternSubstitutes.l0
      repeat' first
      | (with_reducible exact ih0 _ _ _ _)
      | (with_reducible exact ih1 _ _ _ _ _ _)
      | (with_reducible exact pattern_Substitute.mono _ _ _ _)
      | (with_reducible exact stockyardlaw03_awake.mono _)
      | (with_reducible exact stockyardlaw03_small.mono _ _ _)
      | (with_reducible exact stockyardref03_Same.mono _ _ _ _ _)
      | (with_reducible exact stockyardref03_Substitute.mono _ _ _ _)
      | (with_reducible exact LeO.refl _)
      | (with_reducible exact LeO.none _)
      | (with_reducible refine LeO.ite ?_ ?_)
      | (with_reducible refine LeO.bind ?_ (fun _ => ?_))
      | exact ih0 _ _ _ _
      | exact ih1 _ _ _ _ _ _
      | exact pattern_Substitute.mono _ _ _ _
      | exact stockyardlaw03_awake.mono _
      | exact stockyardlaw03_small.mono _ _ _
      | exact stockyardref03_Same.mono _ _ _ _ _
      | exact stockyardref03_Substitute.mono _ _ _ _
      | exact LeO.none _
      | refine LeO.ite ?_ ?_
      | refine LeO.bind ?_ (fun _ => ?_)
theorem stockyardlaw03_PatternSubstitutes.mono : ∀ a0 a1 a2 k, LeO (stockyardlaw03_PatternSubstitutes.f k a0 a1 a2) (stockyardlaw03_PatternSubstitutes.f (k + 1) a0 a1 a2) := by
  intro a0 a1 a2 k
  obtain ⟨ih0, ih1⟩ := stockyardlaw03_PatternSubstitutes.mono_l k
  unfold stockyardlaw03_PatternSubstitutes.f
  repeat' first
      | (with_reducible exact ih0 _ _ _ _)
      | (with_reducible exact ih1 _ _ _ _ _ _)
      | (with_reducible exact pattern_Substitute.mono _ _ _ _)
      | (with_reducible exact stockyardlaw03_awake.mono _)
      | (with_reducible exact stockyardlaw03_small.mono _ _ _)
      | (with_reducible exact stockyardref03_Same.mono _ _ _ _ _)
      | (with_reducible exact stockyardref03_Substitute.mono _ _ _ _)
      | (with_reducible exact LeO.refl _)
      | (with_reducible exact LeO.none _)
      | (with_reducible refine LeO.ite ?_ ?_)
      | (with_reducible refine LeO.bind ?_ (fun _ => ?_))
      | exact ih0 _ _ _ _
      | exact ih1 _ _ _ _ _ _
      | exact pattern_Substitute.mono _ _ _ _
      | exact stockyardlaw03_awake.mono _
      | exact stockyardlaw03_small.mono _ _ _
      | exact stockyardref03_Same.mono _ _ _ _ _
      | exact stockyardref03_Substitute.mono _ _ _ _
      | exact LeO.none _
      | refine LeO.ite ?_ ?_
      | refine LeO.bind ?_ (fun _ => ?_)
set_option maxHeartbeats 8000000 in
set_option maxRecDepth 100000 in
theorem stockyardlaw03_PatternSubstitutes.calls (k : Nat) (A0_0 : Option Addr) (c0_0 : Nat) (l0_0 : List ByteArray) (a0_1 : Bool) (A1 : Option Addr) (c1 : Nat) (l1 : List (S28)) (r : Bool) (w : World) (hr0_0 : Kd.C Kd.string w A0_0 l0_0.length l0_0) (hc0_0 : l0_0.length ≤ c0_0) (hr1 : Kd.C k28 w A1 l1.length l1) (hc1 : l1.length ≤ c1) (h : stockyardlaw03_PatternSubstitutes.f k l0_0 a0_1 l1 = some r) :
    Calls Tryd.prog 3 #[.agg #[.slice A0_0 l0_0.length c0_0, .bool a0_1], .slice A1 l1.length c1] w fun e w' => e = .returned (.bool r) ∧ Below w.heap.size w w' := by
  have hu24 := Tryd.underlying24
  have hu28 := Tryd.underlying28
  have HR0_0 := Aside0.mk hr0_0
  have HC0_0 := Aside0.mk hc0_0
  clear hr0_0 hc0_0
  have HR1 := Aside0.mk hr1
  have HC1 := Aside0.mk hc1
  clear hr1 hc1
  have HB := Aside0.mk (Below.refl w.heap.size w)
  have H : ((stockyardlaw03_small.f k l0_0 a0_1).bind fun t272 => (if t272 = true then (stockyardlaw03_PatternSubstitutes.j0 k l1 (decide ((l1.length : Int) > 20)) l0_0 a0_1) else (stockyardlaw03_PatternSubstitutes.j0 k l1 true l0_0 a0_1))) = some r := h
  clear h
  have HC3 := Aside0.mk H
  clear H
  go_enter Tryd.func3, Tryd.ntmps3
  go_upto_region 1 with (first | ((with_reducible refine gate_dst (N := 2) rfl ?_); (try (refine gate_guard (by rfl) ?_; dsimp only)); refine box_event ?hg (N := 2) ?hd (cs := #[.slice A0_0 l0_0.length c0_0, .bool a0_1]) (t := 24) ?hr ?_; (case hd => rfl); (case hg => rfl); (case hr => first | (go_simp; done) | (go_simp; rfl)); intro gb271 hg w4 hbox hb; have BK271 := Aside0.mk hbox; have GW271 := gw_ HB hg; have GE271 := gw_ HB hg; replace HB := hs_ HB hb; clear hb hbox hg))
  (try simp only [Act.put, List.setIfInBounds_toArray, List.set_cons_zero, List.set_cons_succ])
  go_cut [18] (fun v18 wc => ∃ (kq : Nat) (x18_2 : Bool), v18 = .bool x18_2 ∧ Aside0 (stockyardlaw03_PatternSubstitutes.j0 kq l1 x18_2 l0_0 a0_1 = some r) ∧ Aside0 (kq ≤ k) ∧ Aside0 (wc.heap[gb271]? = some (.cells #[(.slice A0_0 l0_0.length c0_0), .bool a0_1] 24 (0, 0))) ∧ Aside0 (Below w.heap.size w wc))
  case first =>
    have H := HC3.out
    clear HC3
    replace H := Option.bind_eq_some_iff.mp H
    obtain ⟨t272, A50, H⟩ := H
    replace H : (if t272 = true then (stockyardlaw03_PatternSubstitutes.j0 k l1 (decide ((l1.length : Int) > 20)) l0_0 a0_1) else (stockyardlaw03_PatternSubstitutes.j0 k l1 true l0_0 a0_1)) = some r := H
    have A5 := Aside0.mk A50
    clear A50
    by_cases c6 : t272 = true
    · subst c6
      have H1 : (stockyardlaw03_PatternSubstitutes.j0 k l1 (decide ((l1.length : Int) > 20)) l0_0 a0_1) = some r := by rw [if_pos rfl] at H; exact H
      clear H
      have H := H1
      clear H1
      have H' := Aside0.mk H
      clear H
      obtain ⟨hcz7_0, hcz7_1, hfz7_0, hfz7_1⟩ := c2_ BK271
      go_wp2_with (first | ((with_reducible refine gate_callee (f := 13) rfl ?_); refine goesL_ (some 12) rfl rfl Tryd.func13 (by kernel_rfl) rfl #[.agg #[.slice A0_0 l0_0.length c0_0, .bool a0_1]] rfl gl_ ?_; (with_reducible refine (stockyardlaw03_small.calls k _ _ l0_0 a0_1 true _ ?side1 ?side2 A5.out).mono ?_); (case side1 => exact sd_); (case side2 => exact HC0_0.out); rintro e w8 ⟨rfl, hb⟩; refine ⟨_, rfl, ?_⟩; replace BK271 := bb_ BK271 hb; replace HB := hs_ HB hb; (try clear hb); (try clear hb2); (try clear hk); (try clear hi)))
      go_meet
      case rel => exact ⟨_, (decide ((l1.length : Int) > 20)), (by first | rfl | (simp; done) | (simp [*]; done)), H', ⟨by first | omega | exact Nat.le_refl _⟩, ⟨bk_⟩, ⟨hb_⟩⟩
    · replace c6 := Bool.eq_false_iff.mpr c6
      subst c6
      have H1 : (stockyardlaw03_PatternSubstitutes.j0 k l1 true l0_0 a0_1) = some r := by rw [if_neg (show ¬ (false = true) by decide)] at H; exact H
      clear H
      have H := H1
      clear H1
      have H' := Aside0.mk H
      clear H
      obtain ⟨hcz9_0, hcz9_1, hfz9_0, hfz9_1⟩ := c2_ BK271
      go_wp2_with (first | ((with_reducible refine gate_callee (f := 13) rfl ?_); refine goesL_ (some 12) rfl rfl Tryd.func13 (by kernel_rfl) rfl #[.agg #[.slice A0_0 l0_0.length c0_0, .bool a0_1]] rfl gl_ ?_; (with_reducible refine (stockyardlaw03_small.calls k _ _ l0_0 a0_1 false _ ?side1 ?side2 A5.out).mono ?_); (case side1 => exact sd_); (case side2 => exact HC0_0.out); rintro e w10 ⟨rfl, hb⟩; refine ⟨_, rfl, ?_⟩; replace BK271 := bb_ BK271 hb; replace HB := hs_ HB hb; (try clear hb); (try clear hb2); (try clear hk); (try clear hi)))
      go_meet
      case rel => exact ⟨_, (true), (by first | rfl | (simp; done) | (simp [*]; done)), H', ⟨by first | omega | exact Nat.le_refl _⟩, ⟨bk_⟩, ⟨hb_⟩⟩
  case rest =>
    clear HC3; (try clear c1); (try clear p2); (try clear c3); (try clear c6); (try clear hcz7_0); (try clear hcz7_1); (try clear hcz9_0); (try clear hcz9_1); (try clear hfz7_0); (try clear hfz7_1); (try clear hfz9_0); (try clear hfz9_1)
    obtain ⟨kq, x18_2, rfl, HA, HJ2, BK271, HB⟩ := hcut
    cases kq with
    | zero => exact absurd HA.out (by simp [stockyardlaw03_PatternSubstitutes.j0])
    | succ kj2 =>
      have H := HA.out
      clear HA
      simp only [stockyardlaw03_PatternSubstitutes.j0] at H
      by_cases c11 : x18_2 = true
      · subst c11
        have H1 : ((stockyardlaw03_awake.f kj2).bind fun t273 => (some t273)) = some r := by rw [if_pos rfl] at H; exact H
        clear H
        have H := H1
        clear H1
        replace H := Option.bind_eq_some_iff.mp H
        obtain ⟨t273, A120, H⟩ := H
        replace H : (some t273) = some r := H
        have A12 := Aside0.mk A120
        clear A120
        obtain rfl := Option.some.inj H
        go_wp2_with (first | ((with_reducible refine gate_callee (f := 14) rfl ?_); refine goesL_ (some 19) rfl rfl Tryd.func14 (by kernel_rfl) rfl #[] rfl gl_ ?_; (with_reducible refine (stockyardlaw03_awake.calls kj2  t273 _ A12.out).mono ?_); rintro e w13 ⟨rfl, hb⟩; refine ⟨_, rfl, ?_⟩; replace BK271 := bb_ BK271 hb; replace HB := hs_ HB hb; (try clear hb); (try clear hb2); (try clear hk); (try clear hi)))
        go_ret
        exact ⟨rt_, hb_⟩
      · replace c11 := Bool.eq_false_iff.mpr c11
        subst c11
        have H1 : (stockyardlaw03_PatternSubstitutes.l0 kj2 l1 l1 (l1.length : Int) 0 l0_0 a0_1) = some r := by rw [if_neg (show ¬ (false = true) by decide)] at H; exact H
        clear H
        have H := H1
        clear H1
        have H' := Aside0.mk H
        clear H
        go_wp2
        go_loopg [22] kj2 (fun kq v22 w' => ∃ (x22_2 : Int), v22 = .int .i64 x22_2 ∧ Aside0 (stockyardlaw03_PatternSubstitutes.l0 kq l1 l1 (l1.length : Int) x22_2 l0_0 a0_1 = some r) ∧ Aside0 (kq ≤ kj2) ∧ Aside0 (w'.heap[gb271]? = some (.cells #[(.slice A0_0 l0_0.length c0_0), .bool a0_1] 24 (0, 0))) ∧ Aside0 (Below w.heap.size w w'))
        case atStart => exact ⟨(0), (by first | rfl | (simp; done) | (simp [*]; done)), H', ⟨Nat.le_refl _⟩, ⟨bk_⟩, ⟨hb_⟩⟩
        case round =>
          clear H'
          (try clear c1); (try clear p2); (try clear c3); (try clear c6); (try clear c11); (try clear c13); (try clear hcz7_0); (try clear hcz7_1); (try clear hcz9_0); (try clear hcz9_1); (try clear hfz7_0); (try clear hfz7_1); (try clear hfz9_0); (try clear hfz9_1); (try clear p2)
          obtain ⟨x22_2, rfl, HA, HK2, BK271, HB⟩ := hrel
          cases gk with
          | zero => exact absurd HA.out (by simp [stockyardlaw03_PatternSubstitutes.l0])
          | succ k2 =>
            have H := HA.out
            clear HA
            simp only [stockyardlaw03_PatternSubstitutes.l0] at H
            by_cases c14 : x22_2 < (l1.length : Int)
            · rw [if_pos c14] at H
              have c14b0 : decide (x22_2 < (l1.length : Int)) = true := decide_eq_true c14
              clear c14
              by_cases c15 : 0 ≤ x22_2
              · rw [if_pos c15] at H
                have c15b0 : decide (0 ≤ x22_2) = true := decide_eq_true c15
                clear c15
                by_cases c16 : x22_2 < (l1.length : Int)
                · rw [if_pos c16] at H
                  have c16b0 : decide (x22_2 < (l1.length : Int)) = true := decide_eq_true c16
                  clear c16
                  replace H := Option.bind_eq_some_iff.mp H
                  obtain ⟨t276, A170, H⟩ := H
                  replace H : (if t276 = true then (stockyardlaw03_PatternSubstitutes.l0 k2 l1 l1 (l1.length : Int) (wrap64 (x22_2 + 1)) l0_0 a0_1) else ((stockyardlaw03_awake.f k2).bind fun t277 => (some t277))) = some r := H
                  have A17 := Aside0.mk A170
                  clear A170
                  by_cases c18 : t276 = true
                  · subst c18
                    have H1 : (stockyardlaw03_PatternSubstitutes.l0 k2 l1 l1 (l1.length : Int) (wrap64 (x22_2 + 1)) l0_0 a0_1) = some r := by rw [if_pos rfl] at H; exact H
                    clear H
                    have H := H1
                    clear H1
                    have H' := Aside0.mk H
                    clear H
                    have p274 : 0 ≤ (x22_2 : Int) := of_decide_eq_true (by first | (with_reducible assumption) | assumption)
                    have q274 : x22_2 < (l1.length : Int) := of_decide_eq_true (by first | (with_reducible assumption) | assumption)
                    obtain ⟨ad274, A274_0, c274_0, e274, hx274_0, hx274_1, hl274_0, hi274_0⟩ := at_T28 HR1.out x22_2 p274 q274
                    cases e274
                    replace hx274_0 := (HB.out.cell (World.block_lt_of_cell? w _ hx274_0)).trans hx274_0
                    replace hx274_1 := (HB.out.cell (World.block_lt_of_cell? w _ hx274_1)).trans hx274_1
                    have HR274_0 := Aside0.mk hi274_0
                    have HC274_0 := Aside0.mk hl274_0
                    clear hi274_0 hl274_0
                    replace p274 := eq_true p274
                    replace q274 := eq_true q274
                    go_wp2_with (first | ((with_reducible refine gate_dst (N := 6) rfl ?_); (try (refine gate_guard (by rfl) ?_; dsimp only)); refine box_event ?hg (N := 6) ?hd (cs := #[.slice none 0 0, .bool false]) (t := 28) ?hr ?_; (case hd => rfl); (case hg => rfl); (case hr => first | (go_simp; done) | (go_simp; rfl)); intro gb275 hg w19 hbox hb; have BK275 := Aside0.mk hbox; have GW275 := gw_ HB hg; have GE275 := gw_ HB hg; have NB271_275 := nl_ BK271 hg; have NB275_271 := nr_ BK271 hg; replace BK271 := bb_ BK271 hb; replace HB := hs_ HB hb; clear hb hbox hg; have hnb20 := NB275_271.out; have hnc20 := NB271_275.out; obtain ⟨hcz21_0, hcz21_1, hfz21_0, hfz21_1⟩ := c2_ BK275) | ((with_reducible refine gate_callee (f := 13) rfl ?_); refine goesL_ (some 29) rfl rfl Tryd.func13 (by kernel_rfl) rfl #[.agg #[.slice A274_0 ((rd_T28 l1 x22_2).f0).length c274_0, .bool false]] rfl gl_ ?_; (with_reducible refine (stockyardlaw03_small.calls k2 _ _ ((rd_T28 l1 x22_2).f0) false true _ ?side1 ?side2 A17.out).mono ?_); (case side1 => exact Kd.C_below HR274_0.out hb_); (case side2 => exact HC274_0.out); rintro e w22 ⟨rfl, hb⟩; refine ⟨_, rfl, ?_⟩; have n1_ := Aside0.mk (blk_below (g := gb275) (o := .cells #[.slice A274_0 ((rd_T28 l1 x22_2).f0).length c274_0, .bool ((rd_T28 l1 x22_2).f1)] 28 (0, 0)) bz_ hb); replace BK271 := bb_ BK271 hb; replace HB := hs_ HB hb; clear BK275; have BK275 := n1_; clear n1_; (try clear hb); (try clear hb2); (try clear hk); (try clear hi)))
                    go_roundg k2
                    case measure => have := HJ2.out; have := HK2.out; omega
                    case rel => exact ⟨(wrap64 (x22_2 + 1)), (by first | rfl | (simp; done) | (simp [*]; done)), H', ⟨by have := HJ2.out; have := HK2.out; omega⟩, ⟨bk_⟩, ⟨hb_⟩⟩
                  · replace c18 := Bool.eq_false_iff.mpr c18
                    subst c18
                    have H1 : ((stockyardlaw03_awake.f k2).bind fun t277 => (some t277)) = some r := by rw [if_neg (show ¬ (false = true) by decide)] at H; exact H
                    clear H
                    have H := H1
                    clear H1
                    replace H := Option.bind_eq_some_iff.mp H
                    obtain ⟨t277, A230, H⟩ := H
                    replace H : (some t277) = some r := H
                    have A23 := Aside0.mk A230
                    clear A230
                    obtain rfl := Option.some.inj H
                    have p274 : 0 ≤ (x22_2 : Int) := of_decide_eq_true (by first | (with_reducible assumption) | assumption)
                    have q274 : x22_2 < (l1.length : Int) := of_decide_eq_true (by first | (with_reducible assumption) | assumption)
                    obtain ⟨ad274, A274_0, c274_0, e274, hx274_0, hx274_1, hl274_0, hi274_0⟩ := at_T28 HR1.out x22_2 p274 q274
                    cases e274
                    replace hx274_0 := (HB.out.cell (World.block_lt_of_cell? w _ hx274_0)).trans hx274_0
                    replace hx274_1 := (HB.out.cell (World.block_lt_of_cell? w _ hx274_1)).trans hx274_1
                    have HR274_0 := Aside0.mk hi274_0
                    have HC274_0 := Aside0.mk hl274_0
                    clear hi274_0 hl274_0
                    replace p274 := eq_true p274
                    replace q274 := eq_true q274
                    go_wp2_with (first | ((with_reducible refine gate_dst (N := 6) rfl ?_); (try (refine gate_guard (by rfl) ?_; dsimp only)); refine box_event ?hg (N := 6) ?hd (cs := #[.slice none 0 0, .bool false]) (t := 28) ?hr ?_; (case hd => rfl); (case hg => rfl); (case hr => first | (go_simp; done) | (go_simp; rfl)); intro gb275 hg w24 hbox hb; have BK275 := Aside0.mk hbox; have GW275 := gw_ HB hg; have GE275 := gw_ HB hg; have NB271_275 := nl_ BK271 hg; have NB275_271 := nr_ BK271 hg; replace BK271 := bb_ BK271 hb; replace HB := hs_ HB hb; clear hb hbox hg; have hnb25 := NB275_271.out; have hnc25 := NB271_275.out; obtain ⟨hcz26_0, hcz26_1, hfz26_0, hfz26_1⟩ := c2_ BK275) | ((with_reducible refine gate_callee (f := 13) rfl ?_); refine goesL_ (some 29) rfl rfl Tryd.func13 (by kernel_rfl) rfl #[.agg #[.slice A274_0 ((rd_T28 l1 x22_2).f0).length c274_0, .bool false]] rfl gl_ ?_; (with_reducible refine (stockyardlaw03_small.calls k2 _ _ ((rd_T28 l1 x22_2).f0) false false _ ?side1 ?side2 A17.out).mono ?_); (case side1 => exact Kd.C_below HR274_0.out hb_); (case side2 => exact HC274_0.out); rintro e w27 ⟨rfl, hb⟩; refine ⟨_, rfl, ?_⟩; have n1_ := Aside0.mk (blk_below (g := gb275) (o := .cells #[.slice A274_0 ((rd_T28 l1 x22_2).f0).length c274_0, .bool ((rd_T28 l1 x22_2).f1)] 28 (0, 0)) bz_ hb); replace BK271 := bb_ BK271 hb; replace HB := hs_ HB hb; clear BK275; have BK275 := n1_; clear n1_; (try clear hb); (try clear hb2); (try clear hk); (try clear hi)) | ((with_reducible refine gate_callee (f := 14) rfl ?_); refine goesL_ (some 31) rfl rfl Tryd.func14 (by kernel_rfl) rfl #[] rfl gl_ ?_; (with_reducible refine (stockyardlaw03_awake.calls k2  t277 _ A23.out).mono ?_); rintro e w28 ⟨rfl, hb⟩; refine ⟨_, rfl, ?_⟩; replace BK271 := bb_ BK271 hb; replace BK275 := bb_ BK275 hb; replace HB := hs_ HB hb; (try clear hb); (try clear hb2); (try clear hk); (try clear hi)))
                    go_ret
                    exact ⟨rt_, hb_⟩
                · rw [if_neg c16] at H
                  exact absurd H (by simp)
              · rw [if_neg c15] at H
                exact absurd H (by simp)
            · rw [if_neg c14] at H
              have c14b0 : decide (x22_2 < (l1.length : Int)) = false := decide_eq_false c14
              clear c14
              replace H := Option.bind_eq_some_iff.mp H
              obtain ⟨⟨t278, t281, t282⟩, A290, H⟩ := H
              replace H : ((stockyardref03_Substitute.f k2 l0_0 a0_1 l1).bind fun bt284 => (if t282 = bt284.2.2 then ((stockyardref03_Same.f k2 t278 t281 bt284.1 bt284.2.1).bind fun t290 => (if t290 = true then ((stockyardlaw03_awake.f k2).bind fun t291 => (some t291)) else (some false))) else (some false))) = some r := H
              have A29 := Aside0.mk A290
              clear A290
              replace H := Option.bind_eq_some_iff.mp H
              obtain ⟨⟨t284, t287, t288⟩, A300, H⟩ := H
              replace H : (if t282 = t288 then ((stockyardref03_Same.f k2 t278 t281 t284 t287).bind fun t290 => (if t290 = true then ((stockyardlaw03_awake.f k2).bind fun t291 => (some t291)) else (some false))) else (some false)) = some r := H
              have A30 := Aside0.mk A300
              clear A300
              by_cases c31 : t282 = t288
              · rw [if_pos c31] at H
                have c31b0 : (t282 == t288) = true := beq_iff_eq.mpr c31
                have c31b1 : (t282 != t288) = false := bne_eq_false_iff_eq.mpr c31
                clear c31
                replace H := Option.bind_eq_some_iff.mp H
                obtain ⟨t290, A320, H⟩ := H
                replace H : (if t290 = true then ((stockyardlaw03_awake.f k2).bind fun t291 => (some t291)) else (some false)) = some r := H
                have A32 := Aside0.mk A320
                clear A320
                by_cases c33 : t290 = true
                · subst c33
                  have H1 : ((stockyardlaw03_awake.f k2).bind fun t291 => (some t291)) = some r := by rw [if_pos rfl] at H; exact H
                  clear H
                  have H := H1
                  clear H1
                  replace H := Option.bind_eq_some_iff.mp H
                  obtain ⟨t291, A340, H⟩ := H
                  replace H : (some t291) = some r := H
                  have A34 := Aside0.mk A340
                  clear A340
                  obtain rfl := Option.some.inj H
                  obtain ⟨hcz35_0, hcz35_1, hfz35_0, hfz35_1⟩ := c2_ BK271
                  go_wp2_with (first | ((with_reducible refine gate_callee (f := 15) rfl ?_); refine goesL_ (some 36) rfl rfl Tryd.func15 (by kernel_rfl) rfl #[.agg #[.slice A0_0 l0_0.length c0_0, .bool a0_1], .slice A1 l1.length c1] rfl gl_ ?_; (with_reducible refine (pattern_Substitute.calls k2 _ _ l0_0 a0_1 (fun k_ => k_ < w.heap.size) _ _ l1 t278 t281 t282 _ ?side1 ?side2 ?side3 A29.out).mono ?_); (case side1 => exact sd_); (case side2 => exact HC0_0.out); (case side3 => exact Kd.V_mk HC1.out (Kd.F_below (Kd.C_F k28_heap HR1.out) hb_)); rintro e w36 ⟨v279, rfl, ho0, hb⟩; refine ⟨_, rfl, ?_⟩; have n0_ := Aside0.mk (Kd.R_lower (Kd.R_mono (ok' := fun k_ => True) ho0 (fun _ hk_ => trivial)) (below_size hb_)); replace BK271 := bb_ BK271 hb; replace HB := hs_ HB hb; have HO280 := n0_; clear n0_; (try clear hb); (try clear hb2); (try clear hk); (try clear hi); (try clear ho0)) | ((with_reducible refine gate_dst (N := 7) rfl ?_); (try (refine gate_guard (by rfl) ?_; dsimp only)); refine box_event ?hg (N := 7) ?hd (cs := #[.slice none 0 0, .bool false]) (t := 24) ?hr ?_; (case hd => rfl); (case hg => rfl); (case hr => first | (go_simp; done) | (go_simp; rfl)); intro gb283 hg w37 hbox hb; have BK283 := Aside0.mk hbox; have GW283 := gw_ HB hg; have GE283 := gw_ HB hg; have NB271_283 := nl_ BK271 hg; have NB283_271 := nr_ BK271 hg; replace HO280 := rb_ HO280 hb; replace BK271 := bb_ BK271 hb; replace HB := hs_ HB hb; clear hb hbox hg; obtain ⟨Ao38, co38, eo38⟩ := Kd.R_slice HO280.out; subst eo38; have hnb39 := NB283_271.out; have hnc39 := NB271_283.out; obtain ⟨hcz40_0, hcz40_1, hfz40_0, hfz40_1⟩ := c2_ BK283; obtain ⟨hcz41_0, hcz41_1, hfz41_0, hfz41_1⟩ := c2_ BK271) | ((with_reducible refine gate_callee (f := 16) rfl ?_); refine goesL_ (some 42) rfl rfl Tryd.func16 (by kernel_rfl) rfl #[.agg #[.slice A0_0 l0_0.length c0_0, .bool a0_1], .slice A1 l1.length c1] rfl gl_ ?_; (with_reducible refine (stockyardref03_Substitute.calls k2 _ _ l0_0 a0_1 _ _ l1 t284 t287 t288 _ ?side1 ?side2 ?side3 ?side4 A30.out).mono ?_); (case side1 => exact Kd.C_below HR0_0.out hb_); (case side2 => exact HC0_0.out); (case side3 => exact Kd.C_below HR1.out hb_); (case side4 => exact HC1.out); rintro e w42 ⟨v285, rfl, ho0, hb⟩; refine ⟨_, rfl, ?_⟩; have n0_ := Aside0.mk (Kd.R_elder' (by (with_reducible repeat (first | apply Kd.R_alloc | apply Kd.R_drewN | apply Kd.R_drew)); exact (Kd.R_mono (Kd.R_far (p := ⟨gb283, 1, none⟩) (Kd.R_far (p := ⟨gb283, 0, none⟩) (Kd.R_types HO280.out BK283.out (by decide)) (fun _ hk => hk.2) (.slice Ao38 t278.length co38)) (fun _ hk => hk.2) (.bool t281)) (fun _ h_ => h_.1))) (Kd.R_base ho0) hb); have n1_ := Aside0.mk (Kd.R_lower (Kd.R_new' ho0 (Kd.R_lt (by (with_reducible repeat (first | apply Kd.R_alloc | apply Kd.R_drewN | apply Kd.R_drew)); exact (Kd.R_mono (Kd.R_far (p := ⟨gb283, 1, none⟩) (Kd.R_far (p := ⟨gb283, 0, none⟩) (Kd.R_types HO280.out BK283.out (by decide)) (fun _ hk => hk.2) (.slice Ao38 t278.length co38)) (fun _ hk => hk.2) (.bool t281)) (fun _ h_ => h_.1))))) (below_size hb_)); have n3_ := Aside0.mk (blk_below (g := gb283) (o := .cells #[.slice Ao38 t278.length co38, .bool t281] 24 (0, 0)) bz_ hb); replace BK271 := bb_ BK271 hb; replace HB := hs_ HB hb; clear HO280 BK283; have HO280 := n0_; have HO286 := n1_; have BK283 := n3_; clear n0_ n1_ n3_; (try clear hb); (try clear hb2); (try clear hk); (try clear hi); (try clear ho0)) | ((with_reducible refine gate_dst (N := 9) rfl ?_); (try (refine gate_guard (by rfl) ?_; dsimp only)); refine box_event ?hg (N := 9) ?hd (cs := #[.slice none 0 0, .bool false]) (t := 24) ?hr ?_; (case hd => rfl); (case hg => rfl); (case hr => first | (go_simp; done) | (go_simp; rfl)); intro gb289 hg w43 hbox hb; have BK289 := Aside0.mk hbox; have GW289 := gw_ HB hg; have GE289 := gw_ HB hg; have NB271_289 := nl_ BK271 hg; have NB289_271 := nr_ BK271 hg; have NB283_289 := nl_ BK283 hg; have NB289_283 := nr_ BK283 hg; replace HO280 := rb_ HO280 hb; replace HO286 := rb_ HO286 hb; replace BK271 := bb_ BK271 hb; replace BK283 := bb_ BK283 hb; replace HB := hs_ HB hb; clear hb hbox hg; obtain ⟨Ao44, co44, eo44⟩ := Kd.R_slice HO286.out; subst eo44; have hnb45 := NB289_271.out; have hnc45 := NB271_289.out; have hnb46 := NB289_283.out; have hnc46 := NB283_289.out; obtain ⟨hcz47_0, hcz47_1, hfz47_0, hfz47_1⟩ := c2_ BK289; obtain ⟨hcz48_0, hcz48_1, hfz48_0, hfz48_1⟩ := c2_ BK283) | (go_at_call 17; (with_reducible refine (stockyardref03_Same.calls k2 _ _ t278 t281 _ _ t284 t287 true _ ?side1 ?side2 ?side3 ?side4 A32.out).mono ?_); (case side1 => refine (Kd.R_reads' (e := 9) (base := w.heap.size) (ok := fun k_ => (True ∧ some k_ ≠ (.slice Ao44 t284.length co44 : Value).ownBlock)) (n := t278.length) (c := co38) ?_).2.2; exact (by (with_reducible repeat (first | apply Kd.R_alloc | apply Kd.R_drewN | apply Kd.R_drew)); exact (Kd.R_mono (Kd.R_far (p := ⟨gb289, 1, none⟩) (Kd.R_far (p := ⟨gb289, 0, none⟩) (Kd.R_types HO280.out BK289.out (by decide)) (fun _ hk => hk.2) (.slice Ao44 t284.length co44)) (fun _ hk => hk.2) (.bool t287)) (fun _ h_ => h_.1)))); (case side2 => exact (Kd.R_reads' HO280.out).2.1); (case side3 => refine (Kd.R_reads' (e := 9) (base := w.heap.size) (ok := fun k_ => (True ∧ some k_ ≠ (.slice Ao38 t278.length co38 : Value).ownBlock)) (n := t284.length) (c := co44) ?_).2.2; exact (by (with_reducible repeat (first | apply Kd.R_alloc | apply Kd.R_drewN | apply Kd.R_drew)); exact (Kd.R_mono (Kd.R_far (p := ⟨gb289, 1, none⟩) (Kd.R_far (p := ⟨gb289, 0, none⟩) (Kd.R_types HO286.out BK289.out (by decide)) (fun _ hk => hk.2) (.slice Ao44 t284.length co44)) (fun _ hk => hk.2) (.bool t287)) (fun _ h_ => h_.1)))); (case side4 => exact (Kd.R_reads' HO286.out).2.1); rintro e w49 ⟨rfl, hb⟩; have n0_ := Aside0.mk (Kd.R_below (by (with_reducible repeat (first | apply Kd.R_alloc | apply Kd.R_drewN | apply Kd.R_drew)); exact (Kd.R_mono (Kd.R_far (p := ⟨gb289, 1, none⟩) (Kd.R_far (p := ⟨gb289, 0, none⟩) (Kd.R_types HO280.out BK289.out (by decide)) (fun _ hk => hk.2) (.slice Ao44 t284.length co44)) (fun _ hk => hk.2) (.bool t287)) (fun _ h_ => h_.1))) hb); have n1_ := Aside0.mk (Kd.R_below (by (with_reducible repeat (first | apply Kd.R_alloc | apply Kd.R_drewN | apply Kd.R_drew)); exact (Kd.R_mono (Kd.R_far (p := ⟨gb289, 1, none⟩) (Kd.R_far (p := ⟨gb289, 0, none⟩) (Kd.R_types HO286.out BK289.out (by decide)) (fun _ hk => hk.2) (.slice Ao44 t284.length co44)) (fun _ hk => hk.2) (.bool t287)) (fun _ h_ => h_.1))) hb); have n4_ := Aside0.mk (blk_below (g := gb289) (o := .cells #[.slice Ao44 t284.length co44, .bool t287] 24 (0, 0)) bz_ hb); replace BK271 := bb_ BK271 hb; replace BK283 := bb_ BK283 hb; replace HB := hs_ HB hb; clear HO280 HO286 BK289; have HO280 := n0_; have HO286 := n1_; have BK289 := n4_; clear n0_ n1_ n4_; (try clear hb); (try clear hb2); (try clear hk); (try clear hi)) | (go_at_call 14; (with_reducible refine (stockyardlaw03_awake.calls k2  t291 _ A34.out).mono ?_); rintro e w50 ⟨rfl, hb⟩; replace HO280 := rb_ HO280 hb; replace HO286 := rb_ HO286 hb; replace BK271 := bb_ BK271 hb; replace BK283 := bb_ BK283 hb; replace BK289 := bb_ BK289 hb; replace HB := hs_ HB hb; (try clear hb); (try clear hb2); (try clear hk); (try clear hi)))
                  go_ret
                  exact ⟨rt_, hb_⟩
                · replace c33 := Bool.eq_false_iff.mpr c33
                  subst c33
                  have H1 : (some false) = some r := by rw [if_neg (show ¬ (false = true) by decide)] at H; exact H
                  clear H
                  have H := H1
                  clear H1
                  obtain rfl := Option.some.inj H
                  obtain ⟨hcz51_0, hcz51_1, hfz51_0, hfz51_1⟩ := c2_ BK271
                  go_wp2_with (first | ((with_reducible refine gate_callee (f := 15) rfl ?_); refine goesL_ (some 36) rfl rfl Tryd.func15 (by kernel_rfl) rfl #[.agg #[.slice A0_0 l0_0.length c0_0, .bool a0_1], .slice A1 l1.length c1] rfl gl_ ?_; (with_reducible refine (pattern_Substitute.calls k2 _ _ l0_0 a0_1 (fun k_ => k_ < w.heap.size) _ _ l1 t278 t281 t282 _ ?side1 ?side2 ?side3 A29.out).mono ?_); (case side1 => exact sd_); (case side2 => exact HC0_0.out); (case side3 => exact Kd.V_mk HC1.out (Kd.F_below (Kd.C_F k28_heap HR1.out) hb_)); rintro e w52 ⟨v279, rfl, ho0, hb⟩; refine ⟨_, rfl, ?_⟩; have n0_ := Aside0.mk (Kd.R_lower (Kd.R_mono (ok' := fun k_ => True) ho0 (fun _ hk_ => trivial)) (below_size hb_)); replace BK271 := bb_ BK271 hb; replace HB := hs_ HB hb; have HO280 := n0_; clear n0_; (try clear hb); (try clear hb2); (try clear hk); (try clear hi); (try clear ho0)) | ((with_reducible refine gate_dst (N := 7) rfl ?_); (try (refine gate_guard (by rfl) ?_; dsimp only)); refine box_event ?hg (N := 7) ?hd (cs := #[.slice none 0 0, .bool false]) (t := 24) ?hr ?_; (case hd => rfl); (case hg => rfl); (case hr => first | (go_simp; done) | (go_simp; rfl)); intro gb283 hg w53 hbox hb; have BK283 := Aside0.mk hbox; have GW283 := gw_ HB hg; have GE283 := gw_ HB hg; have NB271_283 := nl_ BK271 hg; have NB283_271 := nr_ BK271 hg; replace HO280 := rb_ HO280 hb; replace BK271 := bb_ BK271 hb; replace HB := hs_ HB hb; clear hb hbox hg; obtain ⟨Ao54, co54, eo54⟩ := Kd.R_slice HO280.out; subst eo54; have hnb55 := NB283_271.out; have hnc55 := NB271_283.out; obtain ⟨hcz56_0, hcz56_1, hfz56_0, hfz56_1⟩ := c2_ BK283; obtain ⟨hcz57_0, hcz57_1, hfz57_0, hfz57_1⟩ := c2_ BK271) | ((with_reducible refine gate_callee (f := 16) rfl ?_); refine goesL_ (some 42) rfl rfl Tryd.func16 (by kernel_rfl) rfl #[.agg #[.slice A0_0 l0_0.length c0_0, .bool a0_1], .slice A1 l1.length c1] rfl gl_ ?_; (with_reducible refine (stockyardref03_Substitute.calls k2 _ _ l0_0 a0_1 _ _ l1 t284 t287 t288 _ ?side1 ?side2 ?side3 ?side4 A30.out).mono ?_); (case side1 => exact Kd.C_below HR0_0.out hb_); (case side2 => exact HC0_0.out); (case side3 => exact Kd.C_below HR1.out hb_); (case side4 => exact HC1.out); rintro e w58 ⟨v285, rfl, ho0, hb⟩; refine ⟨_, rfl, ?_⟩; have n0_ := Aside0.mk (Kd.R_elder' (by (with_reducible repeat (first | apply Kd.R_alloc | apply Kd.R_drewN | apply Kd.R_drew)); exact (Kd.R_mono (Kd.R_far (p := ⟨gb283, 1, none⟩) (Kd.R_far (p := ⟨gb283, 0, none⟩) (Kd.R_types HO280.out BK283.out (by decide)) (fun _ hk => hk.2) (.slice Ao54 t278.length co54)) (fun _ hk => hk.2) (.bool t281)) (fun _ h_ => h_.1))) (Kd.R_base ho0) hb); have n1_ := Aside0.mk (Kd.R_lower (Kd.R_new' ho0 (Kd.R_lt (by (with_reducible repeat (first | apply Kd.R_alloc | apply Kd.R_drewN | apply Kd.R_drew)); exact (Kd.R_mono (Kd.R_far (p := ⟨gb283, 1, none⟩) (Kd.R_far (p := ⟨gb283, 0, none⟩) (Kd.R_types HO280.out BK283.out (by decide)) (fun _ hk => hk.2) (.slice Ao54 t278.length co54)) (fun _ hk => hk.2) (.bool t281)) (fun _ h_ => h_.1))))) (below_size hb_)); have n3_ := Aside0.mk (blk_below (g := gb283) (o := .cells #[.slice Ao54 t278.length co54, .bool t281] 24 (0, 0)) bz_ hb); replace BK271 := bb_ BK271 hb; replace HB := hs_ HB hb; clear HO280 BK283; have HO280 := n0_; have HO286 := n1_; have BK283 := n3_; clear n0_ n1_ n3_; (try clear hb); (try clear hb2); (try clear hk); (try clear hi); (try clear ho0)) | ((with_reducible refine gate_dst (N := 9) rfl ?_); (try (refine gate_guard (by rfl) ?_; dsimp only)); refine box_event ?hg (N := 9) ?hd (cs := #[.slice none 0 0, .bool false]) (t := 24) ?hr ?_; (case hd => rfl); (case hg => rfl); (case hr => first | (go_simp; done) | (go_simp; rfl)); intro gb289 hg w59 hbox hb; have BK289 := Aside0.mk hbox; have GW289 := gw_ HB hg; have GE289 := gw_ HB hg; have NB271_289 := nl_ BK271 hg; have NB289_271 := nr_ BK271 hg; have NB283_289 := nl_ BK283 hg; have NB289_283 := nr_ BK283 hg; replace HO280 := rb_ HO280 hb; replace HO286 := rb_ HO286 hb; replace BK271 := bb_ BK271 hb; replace BK283 := bb_ BK283 hb; replace HB := hs_ HB hb; clear hb hbox hg; obtain ⟨Ao60, co60, eo60⟩ := Kd.R_slice HO286.out; subst eo60; have hnb61 := NB289_271.out; have hnc61 := NB271_289.out; have hnb62 := NB289_283.out; have hnc62 := NB283_289.out; obtain ⟨hcz63_0, hcz63_1, hfz63_0, hfz63_1⟩ := c2_ BK289; obtain ⟨hcz64_0, hcz64_1, hfz64_0, hfz64_1⟩ := c2_ BK283) | (go_at_call 17; (with_reducible refine (stockyardref03_Same.calls k2 _ _ t278 t281 _ _ t284 t287 false _ ?side1 ?side2 ?side3 ?side4 A32.out).mono ?_); (case side1 => refine (Kd.R_reads' (e := 9) (base := w.heap.size) (ok := fun k_ => (True ∧ some k_ ≠ (.slice Ao60 t284.length co60 : Value).ownBlock)) (n := t278.length) (c := co54) ?_).2.2; exact (by (with_reducible repeat (first | apply Kd.R_alloc | apply Kd.R_drewN | apply Kd.R_drew)); exact (Kd.R_mono (Kd.R_far (p := ⟨gb289, 1, none⟩) (Kd.R_far (p := ⟨gb289, 0, none⟩) (Kd.R_types HO280.out BK289.out (by decide)) (fun _ hk => hk.2) (.slice Ao60 t284.length co60)) (fun _ hk => hk.2) (.bool t287)) (fun _ h_ => h_.1)))); (case side2 => exact (Kd.R_reads' HO280.out).2.1); (case side3 => refine (Kd.R_reads' (e := 9) (base := w.heap.size) (ok := fun k_ => (True ∧ some k_ ≠ (.slice Ao54 t278.length co54 : Value).ownBlock)) (n := t284.length) (c := co60) ?_).2.2; exact (by (with_reducible repeat (first | apply Kd.R_alloc | apply Kd.R_drewN | apply Kd.R_drew)); exact (Kd.R_mono (Kd.R_far (p := ⟨gb289, 1, none⟩) (Kd.R_far (p := ⟨gb289, 0, none⟩) (Kd.R_types HO286.out BK289.out (by decide)) (fun _ hk => hk.2) (.slice Ao60 t284.length co60)) (fun _ hk => hk.2) (.bool t287)) (fun _ h_ => h_.1)))); (case side4 => exact (Kd.R_reads' HO286.out).2.1); rintro e w65 ⟨rfl, hb⟩; have n0_ := Aside0.mk (Kd.R_below (by (with_reducible repeat (first | apply Kd.R_alloc | apply Kd.R_drewN | apply Kd.R_drew)); exact (Kd.R_mono (Kd.R_far (p := ⟨gb289, 1, none⟩) (Kd.R_far (p := ⟨gb289, 0, none⟩) (Kd.R_types HO280.out BK289.out (by decide)) (fun _ hk => hk.2) (.slice Ao60 t284.length co60)) (fun _ hk => hk.2) (.bool t287)) (fun _ h_ => h_.1))) hb); have n1_ := Aside0.mk (Kd.R_below (by (with_reducible repeat (first | apply Kd.R_alloc | apply Kd.R_drewN | apply Kd.R_drew)); exact (Kd.R_mono (Kd.R_far (p := ⟨gb289, 1, none⟩) (Kd.R_far (p := ⟨gb289, 0, none⟩) (Kd.R_types HO286.out BK289.out (by decide)) (fun _ hk => hk.2) (.slice Ao60 t284.length co60)) (fun _ hk => hk.2) (.bool t287)) (fun _ h_ => h_.1))) hb); have n4_ := Aside0.mk (blk_below (g := gb289) (o := .cells #[.slice Ao60 t284.length co60, .bool t287] 24 (0, 0)) bz_ hb); replace BK271 := bb_ BK271 hb; replace BK283 := bb_ BK283 hb; replace HB := hs_ HB hb; clear HO280 HO286 BK289; have HO280 := n0_; have HO286 := n1_; have BK289 := n4_; clear n0_ n1_ n4_; (try clear hb); (try clear hb2); (try clear hk); (try clear hi)))
                  go_ret
                  exact ⟨rt_, hb_⟩
              · rw [if_neg c31] at H
                have c31b0 : (t282 == t288) = false := beq_eq_false_iff_ne.mpr c31
                have c31b1 : (t282 != t288) = true := bne_iff_ne.mpr c31
                obtain rfl := Option.some.inj H
                obtain ⟨hcz66_0, hcz66_1, hfz66_0, hfz66_1⟩ := c2_ BK271
                go_wp2_with (first | ((with_reducible refine gate_callee (f := 15) rfl ?_); refine goesL_ (some 36) rfl rfl Tryd.func15 (by kernel_rfl) rfl #[.agg #[.slice A0_0 l0_0.length c0_0, .bool a0_1], .slice A1 l1.length c1] rfl gl_ ?_; (with_reducible refine (pattern_Substitute.calls k2 _ _ l0_0 a0_1 (fun k_ => k_ < w.heap.size) _ _ l1 t278 t281 t282 _ ?side1 ?side2 ?side3 A29.out).mono ?_); (case side1 => exact sd_); (case side2 => exact HC0_0.out); (case side3 => exact Kd.V_mk HC1.out (Kd.F_below (Kd.C_F k28_heap HR1.out) hb_)); rintro e w67 ⟨v279, rfl, ho0, hb⟩; refine ⟨_, rfl, ?_⟩; have n0_ := Aside0.mk (Kd.R_lower (Kd.R_mono (ok' := fun k_ => True) ho0 (fun _ hk_ => trivial)) (below_size hb_)); replace BK271 := bb_ BK271 hb; replace HB := hs_ HB hb; have HO280 := n0_; clear n0_; (try clear hb); (try clear hb2); (try clear hk); (try clear hi); (try clear ho0)) | ((with_reducible refine gate_dst (N := 7) rfl ?_); (try (refine gate_guard (by rfl) ?_; dsimp only)); refine box_event ?hg (N := 7) ?hd (cs := #[.slice none 0 0, .bool false]) (t := 24) ?hr ?_; (case hd => rfl); (case hg => rfl); (case hr => first | (go_simp; done) | (go_simp; rfl)); intro gb283 hg w68 hbox hb; have BK283 := Aside0.mk hbox; have GW283 := gw_ HB hg; have GE283 := gw_ HB hg; have NB271_283 := nl_ BK271 hg; have NB283_271 := nr_ BK271 hg; replace HO280 := rb_ HO280 hb; replace BK271 := bb_ BK271 hb; replace HB := hs_ HB hb; clear hb hbox hg; obtain ⟨Ao69, co69, eo69⟩ := Kd.R_slice HO280.out; subst eo69; have hnb70 := NB283_271.out; have hnc70 := NB271_283.out; obtain ⟨hcz71_0, hcz71_1, hfz71_0, hfz71_1⟩ := c2_ BK283; obtain ⟨hcz72_0, hcz72_1, hfz72_0, hfz72_1⟩ := c2_ BK271) | ((with_reducible refine gate_callee (f := 16) rfl ?_); refine goesL_ (some 42) rfl rfl Tryd.func16 (by kernel_rfl) rfl #[.agg #[.slice A0_0 l0_0.length c0_0, .bool a0_1], .slice A1 l1.length c1] rfl gl_ ?_; (with_reducible refine (stockyardref03_Substitute.calls k2 _ _ l0_0 a0_1 _ _ l1 t284 t287 t288 _ ?side1 ?side2 ?side3 ?side4 A30.out).mono ?_); (case side1 => exact Kd.C_below HR0_0.out hb_); (case side2 => exact HC0_0.out); (case side3 => exact Kd.C_below HR1.out hb_); (case side4 => exact HC1.out); rintro e w73 ⟨v285, rfl, ho0, hb⟩; refine ⟨_, rfl, ?_⟩; have n0_ := Aside0.mk (Kd.R_elder' (by (with_reducible repeat (first | apply Kd.R_alloc | apply Kd.R_drewN | apply Kd.R_drew)); exact (Kd.R_mono (Kd.R_far (p := ⟨gb283, 1, none⟩) (Kd.R_far (p := ⟨gb283, 0, none⟩) (Kd.R_types HO280.out BK283.out (by decide)) (fun _ hk => hk.2) (.slice Ao69 t278.length co69)) (fun _ hk => hk.2) (.bool t281)) (fun _ h_ => h_.1))) (Kd.R_base ho0) hb); have n1_ := Aside0.mk (Kd.R_lower (Kd.R_new' ho0 (Kd.R_lt (by (with_reducible repeat (first | apply Kd.R_alloc | apply Kd.R_drewN | apply Kd.R_drew)); exact (Kd.R_mono (Kd.R_far (p := ⟨gb283, 1, none⟩) (Kd.R_far (p := ⟨gb283, 0, none⟩) (Kd.R_types HO280.out BK283.out (by decide)) (fun _ hk => hk.2) (.slice Ao69 t278.length co69)) (fun _ hk => hk.2) (.bool t281)) (fun _ h_ => h_.1))))) (below_size hb_)); have n3_ := Aside0.mk (blk_below (g := gb283) (o := .cells #[.slice Ao69 t278.length co69, .bool t281] 24 (0, 0)) bz_ hb); replace BK271 := bb_ BK271 hb; replace HB := hs_ HB hb; clear HO280 BK283; have HO280 := n0_; have HO286 := n1_; have BK283 := n3_; clear n0_ n1_ n3_; (try clear hb); (try clear hb2); (try clear hk); (try clear hi); (try clear ho0)) | ((with_reducible refine gate_dst (N := 9) rfl ?_); (try (refine gate_guard (by rfl) ?_; dsimp only)); refine box_event ?hg (N := 9) ?hd (cs := #[.slice none 0 0, .bool false]) (t := 24) ?hr ?_; (case hd => rfl); (case hg => rfl); (case hr => first | (go_simp; done) | (go_simp; rfl)); intro gb289 hg w74 hbox hb; have BK289 := Aside0.mk hbox; have GW289 := gw_ HB hg; have GE289 := gw_ HB hg; have NB271_289 := nl_ BK271 hg; have NB289_271 := nr_ BK271 hg; have NB283_289 := nl_ BK283 hg; have NB289_283 := nr_ BK283 hg; replace HO280 := rb_ HO280 hb; replace HO286 := rb_ HO286 hb; replace BK271 := bb_ BK271 hb; replace BK283 := bb_ BK283 hb; replace HB := hs_ HB hb; clear hb hbox hg; obtain ⟨Ao75, co75, eo75⟩ := Kd.R_slice HO286.out; subst eo75; have hnb76 := NB289_271.out; have hnc76 := NB271_289.out; have hnb77 := NB289_283.out; have hnc77 := NB283_289.out; obtain ⟨hcz78_0, hcz78_1, hfz78_0, hfz78_1⟩ := c2_ BK289))
                go_ret
                exact ⟨rt_, hb_⟩

end Go.Proofs.YthclkdplihchjaaDoor.P

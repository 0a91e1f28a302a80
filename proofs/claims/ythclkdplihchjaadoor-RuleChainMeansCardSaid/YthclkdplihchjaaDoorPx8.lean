-- Written by a program of this session (wip/gen.py) over the kit's print: each Go function as a plain Lean function, and the proof that the Go code comes to it. Nothing here is trusted: Lean checks it.
import Derived.Test.YthclkdplihchjaaDoorPx0
import Derived.Test.YthclkdplihchjaaDoorPx1
import Derived.Test.YthclkdplihchjaaDoorPx7
import Derived.Test.YthclkdplihchjaaDoorSq
namespace Go.Proofs.YthclkdplihchjaaDoor.P
open Go.RowKit Go.Proofs.YthclkdplihchjaaDoorW.PrintWords Go.Proofs.YthclkdplihchjaaDoorW.PrintLast Go.Proofs.YthclkdplihchjaaDoorW.PrintMore
attribute [local go_sem] str_gtr str_leq str_geq max2_int min2_int max_two min_two max_three min_three max_four min_four   -- for this text's walks alone
set_option linter.unusedVariables false
set_option linter.unusedSimpArgs false

/-! ### pattern_Within: function 19 -/
mutual
def pattern_Within.j0 : Nat → Bool → List ByteArray → Bool → List ByteArray → Bool → Option (Bool)
  | 0, _, _, _, _, _ => none
  | k + 1, x32, x342000, x342001, x349000, x349001 => if x32 = true then (some false) else (pattern_Within.l0 k x342000 (x342000.length : Int) 0 x349000 x349001)
def pattern_Within.l0 : Nat → List ByteArray → Int → Int → List ByteArray → Bool → Option (Bool)
  | 0, _, _, _, _, _ => none
  | k + 1, x34, x35, x36, x349000, x349001 => if x36 < x35 then (if 0 ≤ x36 then (if x36 < (x34.length : Int) then (if x36 < (x349000.length : Int) then (if (rdOf ByteArray.empty x349000 x36).toList = (rdOf ByteArray.empty x34 x36).toList then (pattern_Within.l0 k x34 x35 (wrap64 (x36 + 1)) x349000 x349001) else (some false)) else (none)) else (none)) else (none)) else (some true)
end
def pattern_Within.f (k : Nat) (l0_0 : List ByteArray) (a0_1 : Bool) (l1_0 : List ByteArray) (a1_1 : Bool) : Option (Bool) := (pattern_Meet.f k l0_0 a0_1 l1_0 a1_1).bind fun bt343 => (if bt343.2.2 = true then (if (bt343.2.1 != a0_1) = true then (pattern_Within.j0 k true l0_0 a0_1 bt343.1 bt343.2.1) else (pattern_Within.j0 k ((bt343.1.length : Int) != (l0_0.length : Int)) l0_0 a0_1 bt343.1 bt343.2.1)) else (pattern_Within.j0 k true l0_0 a0_1 bt343.1 bt343.2.1))
theorem pattern_Within.mono_l : ∀ k, (∀ y0 y1 y2 y3 y4, LeO (pattern_Within.j0 k y0 y1 y2 y3 y4) (pattern_Within.j0 (k + 1) y0 y1 y2 y3 y4)) ∧ (∀ y0 y1 y2 y3 y4, LeO (pattern_Within.l0 k y0 y1 y2 y3 y4) (pattern_Within.l0 (k + 1) y0 y1 y2 y3 y4))
  | 0 => ⟨fun _ _ _ _ _ r h => by simp [pattern_Within.j0] at h, fun _ _ _ _ _ r h => by simp [pattern_Within.l0] at h⟩
  | k + 1 => by
    obtain ⟨ih0, ih1⟩ := pattern_Within.mono_l k
    refine ⟨?_, ?_⟩
    · intro y0 y1 y2 y3 y4
      unfold pattern_Within.j0
      repeat' first
      | (with_reducible exact ih0 _ _ _ _ _)
      | (with_reducible exact ih1 _ _ _ _ _)
      | (with_reducible exact pattern_Meet.mono _ _ _ _ _)
      | (with_reducible exact LeO.refl _)
      | (with_reducible exact LeO.none _)
      | (with_reducible refine LeO.ite ?_ ?_)
      | (with_reducible refine LeO.bind ?_ (fun _ => ?_))
      | exact ih0 _ _ _ _ _
      | exact ih1 _ _ _ _ _
      | exact pattern_Meet.mono _ _ _ _ _
      | exact LeO.none _
      | refine LeO.ite ?_ ?_
      | refine LeO.bind ?_ (fun _ => ?_)
    · intro y0 y1 y2 y3 y4
      unfold pattern_Within.l0
      repeat' first
      | (with_reducible exact ih0 _ _ _ _ _)
      | (with_reducible exact ih1 _ _ _ _ _)
      | (with_reducible exact pattern_Meet.mono _ _ _ _ _)
      | (with_reducible exact LeO.refl _)
      | (with_reducible exact LeO.none _)
      | (with_reducible refine LeO.ite ?_ ?_)
      | (with_reducible refine LeO.bind ?_ (fun _ => ?_))
      | exact ih0 _ _ _ _ _
      | exact ih1 _ _ _ _ _
      | exact pattern_Meet.mono _ _ _ _ _
      | exact LeO.none _
      | refine LeO.ite ?_ ?_
      | refine LeO.bind ?_ (fun _ => ?_)
theorem pattern_Within.mono : ∀ a0 a1 a2 a3 k, LeO (pattern_Within.f k a0 a1 a2 a3) (pattern_Within.f (k + 1) a0 a1 a2 a3) := by
  intro a0 a1 a2 a3 k
  obtain ⟨ih0, ih1⟩ := pattern_Within.mono_l k
  unfold pattern_Within.f
  repeat' first
      | (with_reducible exact ih0 _ _ _ _ _)
      | (with_reducible exact ih1 _ _ _ _ _)
      | (with_reducible exact pattern_Meet.mono _ _ _ _ _)
      | (with_reducible exact LeO.refl _)
      | (with_reducible exact LeO.none _)
      | (with_reducible refine LeO.ite ?_ ?_)
      | (with_reducible refine LeO.bind ?_ (fun _ => ?_))
      | exact ih0 _ _ _ _ _
      | exact ih1 _ _ _ _ _
      | exact pattern_Meet.mono _ _ _ _ _
      | exact LeO.none _
      | refine LeO.ite ?_ ?_
      | refine LeO.bind ?_ (fun _ => ?_)
set_option maxHeartbeats 8000000 in
set_option maxRecDepth 100000 in
theorem pattern_Within.calls (k : Nat) (A0_0 : Option Addr) (c0_0 : Nat) (l0_0 : List ByteArray) (a0_1 : Bool) (A1_0 : Option Addr) (c1_0 : Nat) (l1_0 : List ByteArray) (a1_1 : Bool) (r : Bool) (w : World) (hr0_0 : Kd.C Kd.string w A0_0 l0_0.length l0_0) (hc0_0 : l0_0.length ≤ c0_0) (hr1_0 : Kd.C Kd.string w A1_0 l1_0.length l1_0) (hc1_0 : l1_0.length ≤ c1_0) (h : pattern_Within.f k l0_0 a0_1 l1_0 a1_1 = some r) :
    Calls Tryd.prog 19 #[.agg #[.slice A0_0 l0_0.length c0_0, .bool a0_1], .agg #[.slice A1_0 l1_0.length c1_0, .bool a1_1]] w fun e w' => e = .returned (.bool r) ∧ Below w.heap.size w w' := by
  have hu24 := Tryd.underlying24
  have HR0_0 := Aside0.mk hr0_0
  have HC0_0 := Aside0.mk hc0_0
  clear hr0_0 hc0_0
  have HR1_0 := Aside0.mk hr1_0
  have HC1_0 := Aside0.mk hc1_0
  clear hr1_0 hc1_0
  have HB := Aside0.mk (Below.refl w.heap.size w)
  have H : ((pattern_Meet.f k l0_0 a0_1 l1_0 a1_1).bind fun bt343 => (if bt343.2.2 = true then (if (bt343.2.1 != a0_1) = true then (pattern_Within.j0 k true l0_0 a0_1 bt343.1 bt343.2.1) else (pattern_Within.j0 k ((bt343.1.length : Int) != (l0_0.length : Int)) l0_0 a0_1 bt343.1 bt343.2.1)) else (pattern_Within.j0 k true l0_0 a0_1 bt343.1 bt343.2.1))) = some r := h
  clear h
  replace H := Option.bind_eq_some_iff.mp H
  obtain ⟨⟨t343, t346, t347⟩, A30, H⟩ := H
  replace H : (if t347 = true then (if (t346 != a0_1) = true then (pattern_Within.j0 k true l0_0 a0_1 t343 t346) else (pattern_Within.j0 k ((t343.length : Int) != (l0_0.length : Int)) l0_0 a0_1 t343 t346)) else (pattern_Within.j0 k true l0_0 a0_1 t343 t346)) = some r := H
  have A3 := Aside0.mk A30
  clear A30
  have HC4 := Aside0.mk H
  clear H
  go_enter Tryd.func19, Tryd.ntmps19
  go_upto_region 2 with (first | ((with_reducible refine gate_dst (N := 2) rfl ?_); (try (refine gate_guard (by rfl) ?_; dsimp only)); refine box_event ?hg (N := 2) ?hd (cs := #[.slice A0_0 l0_0.length c0_0, .bool a0_1]) (t := 24) ?hr ?_; (case hd => rfl); (case hg => rfl); (case hr => first | (go_simp; done) | (go_simp; rfl)); intro gb341 hg w5 hbox hb; have BK341 := Aside0.mk hbox; have GW341 := gw_ HB hg; have GE341 := gw_ HB hg; replace HB := hs_ HB hb; clear hb hbox hg) | ((with_reducible refine gate_dst (N := 3) rfl ?_); (try (refine gate_guard (by rfl) ?_; dsimp only)); refine box_event ?hg (N := 3) ?hd (cs := #[.slice A1_0 l1_0.length c1_0, .bool a1_1]) (t := 24) ?hr ?_; (case hd => rfl); (case hg => rfl); (case hr => first | (go_simp; done) | (go_simp; rfl)); intro gb342 hg w6 hbox hb; have BK342 := Aside0.mk hbox; have GW342 := gw_ HB hg; have GE342 := gw_ HB hg; have NB341_342 := nl_ BK341 hg; have NB342_341 := nr_ BK341 hg; replace BK341 := bb_ BK341 hb; replace HB := hs_ HB hb; clear hb hbox hg; have hnb7 := NB341_342.out; have hnc7 := NB342_341.out; obtain ⟨hcz8_0, hcz8_1, hfz8_0, hfz8_1⟩ := c2_ BK341; obtain ⟨hcz9_0, hcz9_1, hfz9_0, hfz9_1⟩ := c2_ BK342) | ((with_reducible refine gate_callee (f := 44) rfl ?_); refine goesL_ (some 12) rfl rfl Tryd.func44 (by kernel_rfl) rfl #[.agg #[.slice A0_0 l0_0.length c0_0, .bool a0_1], .agg #[.slice A1_0 l1_0.length c1_0, .bool a1_1]] rfl gl_ ?_; (with_reducible refine (pattern_Meet.calls k _ _ l0_0 a0_1 _ _ l1_0 a1_1 t343 t346 t347 _ ?side1 ?side2 ?side3 ?side4 A3.out).mono ?_); (case side1 => exact sd_); (case side2 => exact HC0_0.out); (case side3 => exact sd_); (case side4 => exact HC1_0.out); rintro e w10 ⟨v344, rfl, ho0, hb⟩; refine ⟨_, rfl, ?_⟩; have n0_ := Aside0.mk (Kd.R_lower ho0 (below_size hb_)); replace BK341 := bb_ BK341 hb; replace BK342 := bb_ BK342 hb; replace HB := hs_ HB hb; have HO345 := n0_; clear n0_; (try clear hb); (try clear hb2); (try clear hk); (try clear hi); (try clear ho0)) | ((with_reducible refine gate_dst (N := 5) rfl ?_); (try (refine gate_guard (by rfl) ?_; dsimp only)); refine box_event ?hg (N := 5) ?hd (cs := #[.slice none 0 0, .bool false]) (t := 24) ?hr ?_; (case hd => rfl); (case hg => rfl); (case hr => first | (go_simp; done) | (go_simp; rfl)); intro gb348 hg w11 hbox hb; have BK348 := Aside0.mk hbox; have GW348 := gw_ HB hg; have GE348 := gw_ HB hg; have NB341_348 := nl_ BK341 hg; have NB348_341 := nr_ BK341 hg; have NB342_348 := nl_ BK342 hg; have NB348_342 := nr_ BK342 hg; replace HO345 := rb_ HO345 hb; replace BK341 := bb_ BK341 hb; replace BK342 := bb_ BK342 hb; replace HB := hs_ HB hb; clear hb hbox hg; obtain ⟨Ao12, co12, eo12⟩ := Kd.R_slice HO345.out; subst eo12; have hnb13 := NB348_341.out; have hnc13 := NB341_348.out; have hnb14 := NB348_342.out; have hnc14 := NB342_348.out; obtain ⟨hcz15_0, hcz15_1, hfz15_0, hfz15_1⟩ := c2_ BK348))
  (try simp only [Act.put, List.setIfInBounds_toArray, List.set_cons_zero, List.set_cons_succ])
  go_cut [32] (fun v32 wc => ∃ (kq : Nat) (x32_3 : Bool), v32 = .bool x32_3 ∧ Aside0 (pattern_Within.j0 kq x32_3 l0_0 a0_1 t343 t346 = some r) ∧ Aside0 (kq ≤ k) ∧ Aside0 (Kd.R Kd.string 9 wc w.heap.size (fun _ => True) (.slice Ao12 t343.length co12) t343) ∧ Aside0 (wc.heap[gb341]? = some (.cells #[(.slice A0_0 l0_0.length c0_0), .bool a0_1] 24 (0, 0))) ∧ Aside0 (wc.heap[gb342]? = some (.cells #[(.slice A1_0 l1_0.length c1_0), .bool a1_1] 24 (0, 0))) ∧ Aside0 (wc.heap[gb348]? = some (.cells #[(.slice Ao12 t343.length co12), .bool t346] 24 (0, 0))) ∧ Aside0 (Below w.heap.size w wc))
  case first =>
    have H := HC4.out
    clear HC4
    by_cases c16 : t347 = true
    · subst c16
      have H1 : (if (t346 != a0_1) = true then (pattern_Within.j0 k true l0_0 a0_1 t343 t346) else (pattern_Within.j0 k ((t343.length : Int) != (l0_0.length : Int)) l0_0 a0_1 t343 t346)) = some r := by rw [if_pos rfl] at H; exact H
      clear H
      have H := H1
      clear H1
      by_cases c17 : (t346 != a0_1) = true
      · rw [if_pos c17] at H
        have c17b0 : (t346 != a0_1) = true := c17
        (try (have c17b1 : decide (t346 = a0_1) = false := by simpa using c17))
        (try (have c17b2 : (t346 == a0_1) = false := by simpa using c17))
        (try (have c17b3 : ¬ (t346 = a0_1) := by simpa using c17))
        clear c17
        (first | rw [c17b0] | (simp only [i64_w, i32_w]; rw [c17b0]) | skip)
        have H' := Aside0.mk H
        clear H
        have hnb18 := NB348_341.out
        have hnc18 := NB341_348.out
        have hnb19 := NB348_342.out
        have hnc19 := NB342_348.out
        obtain ⟨hcz20_0, hcz20_1, hfz20_0, hfz20_1⟩ := c2_ BK348
        have hnb21 := NB341_342.out
        have hnc21 := NB342_341.out
        obtain ⟨hcz22_0, hcz22_1, hfz22_0, hfz22_1⟩ := c2_ BK341
        go_wp2
        go_meet
        case rel => exact ⟨_, (true), (by first | rfl | (simp; done) | (simp [*]; done)), H', ⟨by first | omega | exact Nat.le_refl _⟩, ⟨by (with_reducible repeat (first | apply Kd.R_alloc | apply Kd.R_drewN | apply Kd.R_drew)); exact Kd.R_mono (Kd.R_far (p := ⟨gb348, 1, none⟩) (Kd.R_far (p := ⟨gb348, 0, none⟩) (Kd.R_types HO345.out BK348.out (by decide)) (fun _ hk => hk.2) (.slice Ao12 t343.length co12)) (fun _ hk => hk.2) (.bool t346)) (fun _ hk => trivial)⟩, ⟨by (with_reducible repeat (first | refine blk_drewN ?_ _ | refine blk_drew ?_ | refine blk_alloc ?_ _)); refine blk_far ?_ NB341_348.out _; (with_reducible repeat (first | refine blk_drewN ?_ _ | refine blk_drew ?_ | refine blk_alloc ?_ _)); refine blk_far ?_ NB341_348.out _; (with_reducible repeat (first | refine blk_drewN ?_ _ | refine blk_drew ?_ | refine blk_alloc ?_ _)); exact BK341.out⟩, ⟨by (with_reducible repeat (first | refine blk_drewN ?_ _ | refine blk_drew ?_ | refine blk_alloc ?_ _)); refine blk_far ?_ NB342_348.out _; (with_reducible repeat (first | refine blk_drewN ?_ _ | refine blk_drew ?_ | refine blk_alloc ?_ _)); refine blk_far ?_ NB342_348.out _; (with_reducible repeat (first | refine blk_drewN ?_ _ | refine blk_drew ?_ | refine blk_alloc ?_ _)); exact BK342.out⟩, ⟨by (with_reducible repeat (first | refine blk_drewN ?_ _ | refine blk_drew ?_ | refine blk_alloc ?_ _)); refine blk_put (cs := #[.slice Ao12 t343.length co12, .bool false]) ?_ 1 _ rfl; (with_reducible repeat (first | refine blk_drewN ?_ _ | refine blk_drew ?_ | refine blk_alloc ?_ _)); refine blk_put (cs := #[.slice none 0 0, .bool false]) ?_ 0 _ rfl; (with_reducible repeat (first | refine blk_drewN ?_ _ | refine blk_drew ?_ | refine blk_alloc ?_ _)); exact BK348.out⟩, ⟨hb_⟩⟩
      · rw [if_neg c17] at H
        have c17b0 : (t346 != a0_1) = false := by simpa using c17
        (try (have c17b1 : decide (t346 = a0_1) = true := by simpa using c17))
        (try (have c17b2 : (t346 == a0_1) = true := by simpa using c17))
        clear c17
        (first | rw [c17b0] | (simp only [i64_w, i32_w]; rw [c17b0]) | skip)
        have H' := Aside0.mk H
        clear H
        have hnb23 := NB348_341.out
        have hnc23 := NB341_348.out
        have hnb24 := NB348_342.out
        have hnc24 := NB342_348.out
        obtain ⟨hcz25_0, hcz25_1, hfz25_0, hfz25_1⟩ := c2_ BK348
        have hnb26 := NB341_342.out
        have hnc26 := NB342_341.out
        obtain ⟨hcz27_0, hcz27_1, hfz27_0, hfz27_1⟩ := c2_ BK341
        go_wp2
        go_meet
        case rel => exact ⟨_, (((t343.length : Int) != (l0_0.length : Int))), (by first | rfl | (simp; done) | (simp [*]; done)), H', ⟨by first | omega | exact Nat.le_refl _⟩, ⟨by (with_reducible repeat (first | apply Kd.R_alloc | apply Kd.R_drewN | apply Kd.R_drew)); exact Kd.R_mono (Kd.R_far (p := ⟨gb348, 1, none⟩) (Kd.R_far (p := ⟨gb348, 0, none⟩) (Kd.R_types HO345.out BK348.out (by decide)) (fun _ hk => hk.2) (.slice Ao12 t343.length co12)) (fun _ hk => hk.2) (.bool t346)) (fun _ hk => trivial)⟩, ⟨by (with_reducible repeat (first | refine blk_drewN ?_ _ | refine blk_drew ?_ | refine blk_alloc ?_ _)); refine blk_far ?_ NB341_348.out _; (with_reducible repeat (first | refine blk_drewN ?_ _ | refine blk_drew ?_ | refine blk_alloc ?_ _)); refine blk_far ?_ NB341_348.out _; (with_reducible repeat (first | refine blk_drewN ?_ _ | refine blk_drew ?_ | refine blk_alloc ?_ _)); exact BK341.out⟩, ⟨by (with_reducible repeat (first | refine blk_drewN ?_ _ | refine blk_drew ?_ | refine blk_alloc ?_ _)); refine blk_far ?_ NB342_348.out _; (with_reducible repeat (first | refine blk_drewN ?_ _ | refine blk_drew ?_ | refine blk_alloc ?_ _)); refine blk_far ?_ NB342_348.out _; (with_reducible repeat (first | refine blk_drewN ?_ _ | refine blk_drew ?_ | refine blk_alloc ?_ _)); exact BK342.out⟩, ⟨by (with_reducible repeat (first | refine blk_drewN ?_ _ | refine blk_drew ?_ | refine blk_alloc ?_ _)); refine blk_put (cs := #[.slice Ao12 t343.length co12, .bool false]) ?_ 1 _ rfl; (with_reducible repeat (first | refine blk_drewN ?_ _ | refine blk_drew ?_ | refine blk_alloc ?_ _)); refine blk_put (cs := #[.slice none 0 0, .bool false]) ?_ 0 _ rfl; (with_reducible repeat (first | refine blk_drewN ?_ _ | refine blk_drew ?_ | refine blk_alloc ?_ _)); exact BK348.out⟩, ⟨hb_⟩⟩
    · replace c16 := Bool.eq_false_iff.mpr c16
      subst c16
      have H1 : (pattern_Within.j0 k true l0_0 a0_1 t343 t346) = some r := by rw [if_neg (show ¬ (false = true) by decide)] at H; exact H
      clear H
      have H := H1
      clear H1
      have H' := Aside0.mk H
      clear H
      go_wp2
      go_meet
      case rel => exact ⟨_, (true), (by first | rfl | (simp; done) | (simp [*]; done)), H', ⟨by first | omega | exact Nat.le_refl _⟩, ⟨by (with_reducible repeat (first | apply Kd.R_alloc | apply Kd.R_drewN | apply Kd.R_drew)); exact Kd.R_mono (Kd.R_far (p := ⟨gb348, 1, none⟩) (Kd.R_far (p := ⟨gb348, 0, none⟩) (Kd.R_types HO345.out BK348.out (by decide)) (fun _ hk => hk.2) (.slice Ao12 t343.length co12)) (fun _ hk => hk.2) (.bool t346)) (fun _ hk => trivial)⟩, ⟨by (with_reducible repeat (first | refine blk_drewN ?_ _ | refine blk_drew ?_ | refine blk_alloc ?_ _)); refine blk_far ?_ NB341_348.out _; (with_reducible repeat (first | refine blk_drewN ?_ _ | refine blk_drew ?_ | refine blk_alloc ?_ _)); refine blk_far ?_ NB341_348.out _; (with_reducible repeat (first | refine blk_drewN ?_ _ | refine blk_drew ?_ | refine blk_alloc ?_ _)); exact BK341.out⟩, ⟨by (with_reducible repeat (first | refine blk_drewN ?_ _ | refine blk_drew ?_ | refine blk_alloc ?_ _)); refine blk_far ?_ NB342_348.out _; (with_reducible repeat (first | refine blk_drewN ?_ _ | refine blk_drew ?_ | refine blk_alloc ?_ _)); refine blk_far ?_ NB342_348.out _; (with_reducible repeat (first | refine blk_drewN ?_ _ | refine blk_drew ?_ | refine blk_alloc ?_ _)); exact BK342.out⟩, ⟨by (with_reducible repeat (first | refine blk_drewN ?_ _ | refine blk_drew ?_ | refine blk_alloc ?_ _)); refine blk_put (cs := #[.slice Ao12 t343.length co12, .bool false]) ?_ 1 _ rfl; (with_reducible repeat (first | refine blk_drewN ?_ _ | refine blk_drew ?_ | refine blk_alloc ?_ _)); refine blk_put (cs := #[.slice none 0 0, .bool false]) ?_ 0 _ rfl; (with_reducible repeat (first | refine blk_drewN ?_ _ | refine blk_drew ?_ | refine blk_alloc ?_ _)); exact BK348.out⟩, ⟨hb_⟩⟩
  case rest =>
    clear HC4; (try clear c1); (try clear c2); (try clear p2); (try clear c4); (try clear c7); (try clear c13); (try clear c14); (try clear c16); (try clear c17); (try clear c17b0); (try clear c17b1); (try clear c17b2); (try clear c18); (try clear c19); (try clear c21); (try clear c23); (try clear c24); (try clear c26); (try clear hcz15_0); (try clear hcz15_1); (try clear hcz20_0); (try clear hcz20_1); (try clear hcz22_0); (try clear hcz22_1); (try clear hcz25_0); (try clear hcz25_1); (try clear hcz27_0); (try clear hcz27_1); (try clear hcz8_0); (try clear hcz8_1); (try clear hcz9_0); (try clear hcz9_1); (try clear hfz15_0); (try clear hfz15_1); (try clear hfz20_0); (try clear hfz20_1); (try clear hfz22_0); (try clear hfz22_1); (try clear hfz25_0); (try clear hfz25_1); (try clear hfz27_0); (try clear hfz27_1); (try clear hfz8_0); (try clear hfz8_1); (try clear hfz9_0); (try clear hfz9_1)
    obtain ⟨kq, x32_3, rfl, HA, HJ3, HO_349000, BK341, BK342, BK348, HB⟩ := hcut
    cases kq with
    | zero => exact absurd HA.out (by simp [pattern_Within.j0])
    | succ kj3 =>
      have H := HA.out
      clear HA
      simp only [pattern_Within.j0] at H
      by_cases c28 : x32_3 = true
      · subst c28
        have H1 : (some false) = some r := by rw [if_pos rfl] at H; exact H
        clear H
        have H := H1
        clear H1
        obtain rfl := Option.some.inj H
        go_wp2
        go_ret
        exact ⟨rt_, hb_⟩
      · replace c28 := Bool.eq_false_iff.mpr c28
        subst c28
        have H1 : (pattern_Within.l0 kj3 l0_0 (l0_0.length : Int) 0 t343 t346) = some r := by rw [if_neg (show ¬ (false = true) by decide)] at H; exact H
        clear H
        have H := H1
        clear H1
        have H' := Aside0.mk H
        clear H
        have hnb29 := NB341_342.out
        have hnc29 := NB342_341.out
        have hnb30 := NB341_348.out
        have hnc30 := NB348_341.out
        obtain ⟨hcz31_0, hcz31_1, hfz31_0, hfz31_1⟩ := c2_ BK341
        go_wp2
        go_loopg [36] kj3 (fun kq v36 w' => ∃ (x36_2 : Int), v36 = .int .i64 x36_2 ∧ Aside0 (pattern_Within.l0 kq l0_0 (l0_0.length : Int) x36_2 t343 t346 = some r) ∧ Aside0 (kq ≤ kj3) ∧ Aside0 (Kd.R Kd.string 9 w' w.heap.size (fun _ => True) (.slice Ao12 t343.length co12) t343) ∧ Aside0 (w'.heap[gb341]? = some (.cells #[(.slice A0_0 l0_0.length c0_0), .bool a0_1] 24 (0, 0))) ∧ Aside0 (w'.heap[gb342]? = some (.cells #[(.slice A1_0 l1_0.length c1_0), .bool a1_1] 24 (0, 0))) ∧ Aside0 (w'.heap[gb348]? = some (.cells #[(.slice Ao12 t343.length co12), .bool t346] 24 (0, 0))) ∧ Aside0 (Below w.heap.size w w'))
        case atStart => exact ⟨(0), (by first | rfl | (simp; done) | (simp [*]; done)), H', ⟨Nat.le_refl _⟩, ⟨by (with_reducible repeat (first | apply Kd.R_alloc | apply Kd.R_drewN | apply Kd.R_drew)); exact HO_349000.out⟩, ⟨bk_⟩, ⟨bk_⟩, ⟨bk_⟩, ⟨hb_⟩⟩
        case round =>
          clear H'
          (try clear c1); (try clear c2); (try clear p2); (try clear c3); (try clear c4); (try clear c7); (try clear c13); (try clear c14); (try clear c16); (try clear c17); (try clear c17b0); (try clear c17b1); (try clear c17b2); (try clear c18); (try clear c19); (try clear c21); (try clear c23); (try clear c24); (try clear c26); (try clear c28); (try clear c29); (try clear c30); (try clear hcz15_0); (try clear hcz15_1); (try clear hcz20_0); (try clear hcz20_1); (try clear hcz22_0); (try clear hcz22_1); (try clear hcz25_0); (try clear hcz25_1); (try clear hcz27_0); (try clear hcz27_1); (try clear hcz31_0); (try clear hcz31_1); (try clear hcz8_0); (try clear hcz8_1); (try clear hcz9_0); (try clear hcz9_1); (try clear hfz15_0); (try clear hfz15_1); (try clear hfz20_0); (try clear hfz20_1); (try clear hfz22_0); (try clear hfz22_1); (try clear hfz25_0); (try clear hfz25_1); (try clear hfz27_0); (try clear hfz27_1); (try clear hfz31_0); (try clear hfz31_1); (try clear hfz8_0); (try clear hfz8_1); (try clear hfz9_0); (try clear hfz9_1); (try clear p2)
          obtain ⟨x36_2, rfl, HA, HK2, HO_349000, BK341, BK342, BK348, HB⟩ := hrel
          cases gk with
          | zero => exact absurd HA.out (by simp [pattern_Within.l0])
          | succ k2 =>
            have H := HA.out
            clear HA
            simp only [pattern_Within.l0] at H
            by_cases c32 : x36_2 < (l0_0.length : Int)
            · rw [if_pos c32] at H
              have c32b0 : decide (x36_2 < (l0_0.length : Int)) = true := decide_eq_true c32
              clear c32
              by_cases c33 : 0 ≤ x36_2
              · rw [if_pos c33] at H
                have c33b0 : decide (0 ≤ x36_2) = true := decide_eq_true c33
                clear c33
                by_cases c34 : x36_2 < (l0_0.length : Int)
                · rw [if_pos c34] at H
                  have c34b0 : decide (x36_2 < (l0_0.length : Int)) = true := decide_eq_true c34
                  clear c34
                  by_cases c35 : x36_2 < (t343.length : Int)
                  · rw [if_pos c35] at H
                    have c35b0 : decide (x36_2 < (t343.length : Int)) = true := decide_eq_true c35
                    clear c35
                    by_cases c36 : (rdOf ByteArray.empty t343 x36_2).toList = (rdOf ByteArray.empty l0_0 x36_2).toList
                    · rw [if_pos c36] at H
                      have c36b0 : ((rdOf ByteArray.empty t343 x36_2).toList == (rdOf ByteArray.empty l0_0 x36_2).toList) = true := beq_iff_eq.mpr c36
                      have c36b1 : ((rdOf ByteArray.empty t343 x36_2).toList != (rdOf ByteArray.empty l0_0 x36_2).toList) = false := bne_eq_false_iff_eq.mpr c36
                      clear c36
                      have H' := Aside0.mk H
                      clear H
                      have p349 : 0 ≤ (x36_2 : Int) := of_decide_eq_true (by first | (with_reducible assumption) | assumption)
                      have q349 : x36_2 < (l0_0.length : Int) := of_decide_eq_true (by first | (with_reducible assumption) | assumption)
                      obtain ⟨ad349, e349, hx349_0⟩ := Kd.at_string HR0_0.out x36_2 p349 q349
                      cases e349
                      replace hx349_0 := (HB.out.cell (World.block_lt_of_cell? w _ hx349_0)).trans hx349_0
                      replace p349 := eq_true p349
                      replace q349 := eq_true q349
                      have hnb37 := NB348_341.out
                      have hnc37 := NB341_348.out
                      have hnb38 := NB348_342.out
                      have hnc38 := NB342_348.out
                      obtain ⟨hcz39_0, hcz39_1, hfz39_0, hfz39_1⟩ := c2_ BK348
                      have p350 : 0 ≤ (x36_2 : Int) := of_decide_eq_true (by first | (with_reducible assumption) | assumption)
                      have q350 : x36_2 < (t343.length : Int) := of_decide_eq_true (by first | (with_reducible assumption) | assumption)
                      obtain ⟨ad350, e350, hx350_0⟩ := Kd.at_string (Kd.R_reads' HO_349000.out).2.2 x36_2 p350 q350
                      cases e350
                      replace p350 := eq_true p350
                      replace q350 := eq_true q350
                      go_wp2
                      go_roundg k2
                      case measure => have := HJ3.out; have := HK2.out; omega
                      case rel => exact ⟨(wrap64 (x36_2 + 1)), (by first | rfl | (simp; done) | (simp [*]; done)), H', ⟨by have := HJ3.out; have := HK2.out; omega⟩, ⟨by (with_reducible repeat (first | apply Kd.R_alloc | apply Kd.R_drewN | apply Kd.R_drew)); exact HO_349000.out⟩, ⟨bk_⟩, ⟨bk_⟩, ⟨bk_⟩, ⟨hb_⟩⟩
                    · rw [if_neg c36] at H
                      have c36b0 : ((rdOf ByteArray.empty t343 x36_2).toList == (rdOf ByteArray.empty l0_0 x36_2).toList) = false := beq_eq_false_iff_ne.mpr c36
                      have c36b1 : ((rdOf ByteArray.empty t343 x36_2).toList != (rdOf ByteArray.empty l0_0 x36_2).toList) = true := bne_iff_ne.mpr c36
                      obtain rfl := Option.some.inj H
                      have p349 : 0 ≤ (x36_2 : Int) := of_decide_eq_true (by first | (with_reducible assumption) | assumption)
                      have q349 : x36_2 < (l0_0.length : Int) := of_decide_eq_true (by first | (with_reducible assumption) | assumption)
                      obtain ⟨ad349, e349, hx349_0⟩ := Kd.at_string HR0_0.out x36_2 p349 q349
                      cases e349
                      replace hx349_0 := (HB.out.cell (World.block_lt_of_cell? w _ hx349_0)).trans hx349_0
                      replace p349 := eq_true p349
                      replace q349 := eq_true q349
                      have hnb40 := NB348_341.out
                      have hnc40 := NB341_348.out
                      have hnb41 := NB348_342.out
                      have hnc41 := NB342_348.out
                      obtain ⟨hcz42_0, hcz42_1, hfz42_0, hfz42_1⟩ := c2_ BK348
                      have p350 : 0 ≤ (x36_2 : Int) := of_decide_eq_true (by first | (with_reducible assumption) | assumption)
                      have q350 : x36_2 < (t343.length : Int) := of_decide_eq_true (by first | (with_reducible assumption) | assumption)
                      obtain ⟨ad350, e350, hx350_0⟩ := Kd.at_string (Kd.R_reads' HO_349000.out).2.2 x36_2 p350 q350
                      cases e350
                      replace p350 := eq_true p350
                      replace q350 := eq_true q350
                      go_wp2
                      go_ret
                      exact ⟨rt_, hb_⟩
                  · rw [if_neg c35] at H
                    exact absurd H (by simp)
                · rw [if_neg c34] at H
                  exact absurd H (by simp)
              · rw [if_neg c33] at H
                exact absurd H (by simp)
            · rw [if_neg c32] at H
              have c32b0 : decide (x36_2 < (l0_0.length : Int)) = false := decide_eq_false c32
              clear c32
              obtain rfl := Option.some.inj H
              go_wp2
              go_ret
              exact ⟨rt_, hb_⟩

/-! ### pattern_Bind: function 18 -/
def pattern_Bind.l0 : Nat → List (S28) → List ByteArray → Int → Int → List ByteArray → Bool → List ByteArray → Bool → Option ((List (S28)) × Bool)
  | 0, _, _, _, _, _, _, _, _ => none
  | k + 1, x6, x17, x18, x19, x352000, x352001, x353000, x353001 => if x19 < x18 then (if 0 ≤ x19 then (if x19 < (x17.length : Int) then ((pattern_formOf.f k (rdOf ByteArray.empty x17 x19)).bind fun bt355 => (if bt355.1 = 2 then (if x19 < (x353000.length : Int) then (if 0 ≤ (wrap64 (((rdOf ByteArray.empty x353000 x19).size : Int) - (bt355.2.size : Int))) then (if (wrap64 (((rdOf ByteArray.empty x353000 x19).size : Int) - (bt355.2.size : Int))) ≤ ((rdOf ByteArray.empty x353000 x19).size : Int) then (if x6.length < 4398046511104 then (pattern_Bind.l0 k (x6 ++ [(⟨(([(rdOf ByteArray.empty x353000 x19).extract 0 ((wrap64 (((rdOf ByteArray.empty x353000 x19).size : Int) - (bt355.2.size : Int))) : Int).toNat] : List ByteArray)), false⟩ : S28)]) x17 x18 (wrap64 (x19 + 1)) x352000 x352001 x353000 x353001) else (none)) else (none)) else (none)) else (none)) else (pattern_Bind.l0 k x6 x17 x18 (wrap64 (x19 + 1)) x352000 x352001 x353000 x353001))) else (none)) else (none)) else (if x352001 = true then ((some (([] : List ByteArray) : List ByteArray)).bind fun y364 => (if 0 ≤ (x352000.length : Int) then (if (x352000.length : Int) ≤ (x353000.length : Int) then (if y364.length + (x353000.drop ((x352000.length : Int) : Int).toNat).length < 8796093022208 then (if x6.length < 4398046511104 then (some ((x6 ++ [(⟨(y364 ++ (x353000.drop ((x352000.length : Int) : Int).toNat)), x353001⟩ : S28)]), true)) else (none)) else (none)) else (none)) else (none))) else (some (x6, true)))
def pattern_Bind.f (k : Nat) (l0_0 : List ByteArray) (a0_1 : Bool) (l1_0 : List ByteArray) (a1_1 : Bool) : Option ((List (S28)) × Bool) := (pattern_Within.f k l1_0 a1_1 l0_0 a0_1).bind fun t353 => (if t353 = true then (pattern_Bind.l0 k ([] : List (S28)) l0_0 (l0_0.length : Int) 0 l0_0 a0_1 l1_0 a1_1) else (some (([] : List (S28)), false)))
theorem pattern_Bind.mono_l : ∀ k, (∀ y0 y1 y2 y3 y4 y5 y6 y7, LeO (pattern_Bind.l0 k y0 y1 y2 y3 y4 y5 y6 y7) (pattern_Bind.l0 (k + 1) y0 y1 y2 y3 y4 y5 y6 y7))
  | 0 => fun _ _ _ _ _ _ _ _ r h => by simp [pattern_Bind.l0] at h
  | k + 1 => by
    have ih0 := pattern_Bind.mono_l k
    · intro y0 y1 y2 y3 y4 y5 y6 y7
      unfold pattern_Bind.l0
      repeat' first
      | (with_reducible exact ih0 _ _ _ _ _ _ _ _)
      | (with_reducible exact pattern_Within.mono _ _ _ _ _)
      | (with_reducible exact pattern_formOf.mono _ _)
      | (with_reducible exact LeO.refl _)
      | (with_reducible exact LeO.none _)
      | (with_reducible refine LeO.ite ?_ ?_)
      | (with_reducible refine LeO.bind ?_ (fun _ => ?_))
      | exact ih0 _ _ _ _ _ _ _ _
      | exact pattern_Within.mono _ _ _ _ _
      | exact pattern_formOf.mono _ _
      | exact LeO.none _
      | refine LeO.ite ?_ ?_
      | refine LeO.bind ?_ (fun _ => ?_)
theorem pattern_Bind.mono : ∀ a0 a1 a2 a3 k, LeO (pattern_Bind.f k a0 a1 a2 a3) (pattern_Bind.f (k + 1) a0 a1 a2 a3) := by
  intro a0 a1 a2 a3 k
  have ih0 := pattern_Bind.mono_l k
  unfold pattern_Bind.f
  repeat' first
      | (with_reducible exact ih0 _ _ _ _ _ _ _ _)
      | (with_reducible exact pattern_Within.mono _ _ _ _ _)
      | (with_reducible exact pattern_formOf.mono _ _)
      | (with_reducible exact LeO.refl _)
      | (with_reducible exact LeO.none _)
      | (with_reducible refine LeO.ite ?_ ?_)
      | (with_reducible refine LeO.bind ?_ (fun _ => ?_))
      | exact ih0 _ _ _ _ _ _ _ _
      | exact pattern_Within.mono _ _ _ _ _
      | exact pattern_formOf.mono _ _
      | exact LeO.none _
      | refine LeO.ite ?_ ?_
      | refine LeO.bind ?_ (fun _ => ?_)
def pattern_Bind.T13 : Bool × List (List Nat × List Nat) := (true, [([], []), ([], []), ([], []), ([2], [2]), ([], []), ([4], [4]), ([5], [5]), ([3, 6], [3, 6]), ([1, 7], [1, 7]), ([], []), ([9], [9]), ([8, 10], [8, 10]), ([11], [11]), ([0, 12, 8], [0, 12]), ([13, 13, 0, 1, 2, 3, 4, 5, 6, 7, 8, 9, 10, 11, 12, 13], [0, 13])])
def pattern_Bind.B13 : List Nat := [0, 0, 0, 4, 0, 16, 48, 124, 254, 0, 512, 2046, 4094, 8191, 16383]
theorem pattern_Bind.tab13 : rtab .any (opsOf Tryd.f18 13) = pattern_Bind.T13 := by kernel_rfl
theorem pattern_Bind.bits13 : waitsOk pattern_Bind.T13.2 pattern_Bind.B13 = true := by kernel_rfl
set_option maxHeartbeats 8000000 in
set_option maxRecDepth 100000 in
theorem pattern_Bind.calls (k : Nat) (A0_0 : Option Addr) (c0_0 : Nat) (l0_0 : List ByteArray) (a0_1 : Bool) (A1_0 : Option Addr) (c1_0 : Nat) (l1_0 : List ByteArray) (a1_1 : Bool) (r1 : List (S28)) (r2 : Bool) (w : World) (hr0_0 : Kd.C Kd.string w A0_0 l0_0.length l0_0) (hc0_0 : l0_0.length ≤ c0_0) (hr1_0 : Kd.C Kd.string w A1_0 l1_0.length l1_0) (hc1_0 : l1_0.length ≤ c1_0) (h : pattern_Bind.f k l0_0 a0_1 l1_0 a1_1 = some (r1, r2)) :
    Calls Tryd.prog 18 #[.agg #[.slice A0_0 l0_0.length c0_0, .bool a0_1], .agg #[.slice A1_0 l1_0.length c1_0, .bool a1_1]] w fun e w' => ∃ v0_ : Value, e = .returned (.tuple #[v0_, .bool r2]) ∧ Kd.S k28 28 w' w.heap.size (fun _ => True) v0_ r1 ∧ Below w.heap.size w w' := by
  have hu24 := Tryd.underlying24
  have hu28 := Tryd.underlying28
  have HR0_0 := Aside0.mk hr0_0
  have HC0_0 := Aside0.mk hc0_0
  clear hr0_0 hc0_0
  have HR1_0 := Aside0.mk hr1_0
  have HC1_0 := Aside0.mk hc1_0
  clear hr1_0 hc1_0
  have HB := Aside0.mk (Below.refl w.heap.size w)
  have H : ((pattern_Within.f k l1_0 a1_1 l0_0 a0_1).bind fun t353 => (if t353 = true then (pattern_Bind.l0 k ([] : List (S28)) l0_0 (l0_0.length : Int) 0 l0_0 a0_1 l1_0 a1_1) else (some (([] : List (S28)), false)))) = some (r1, r2) := h
  clear h
  replace H := Option.bind_eq_some_iff.mp H
  obtain ⟨t353, A30, H⟩ := H
  replace H : (if t353 = true then (pattern_Bind.l0 k ([] : List (S28)) l0_0 (l0_0.length : Int) 0 l0_0 a0_1 l1_0 a1_1) else (some (([] : List (S28)), false))) = some (r1, r2) := H
  have A3 := Aside0.mk A30
  clear A30
  by_cases c4 : t353 = true
  · subst c4
    have H1 : (pattern_Bind.l0 k ([] : List (S28)) l0_0 (l0_0.length : Int) 0 l0_0 a0_1 l1_0 a1_1) = some (r1, r2) := by rw [if_pos rfl] at H; exact H
    clear H
    have H := H1
    clear H1
    have H' := Aside0.mk H
    clear H
    go_enter Tryd.func18, Tryd.ntmps18
    go_wp2_with (first | ((with_reducible refine gate_dst (N := 2) rfl ?_); refine box_event ?hg (N := 2) ?hd (cs := #[.slice A0_0 l0_0.length c0_0, .bool a0_1]) (t := 24) ?hr ?_; (case hd => rfl); (case hg => rfl); (case hr => first | (go_simp; done) | (go_simp; rfl)); intro gb351 hg w5 hbox hb; have BK351 := Aside0.mk hbox; have GW351 := gw_ HB hg; have GE351 := gw_ HB hg; replace HB := hs_ HB hb; clear hb hbox hg) | ((with_reducible refine gate_dst (N := 3) rfl ?_); refine box_event ?hg (N := 3) ?hd (cs := #[.slice A1_0 l1_0.length c1_0, .bool a1_1]) (t := 24) ?hr ?_; (case hd => rfl); (case hg => rfl); (case hr => first | (go_simp; done) | (go_simp; rfl)); intro gb352 hg w6 hbox hb; have BK352 := Aside0.mk hbox; have GW352 := gw_ HB hg; have GE352 := gw_ HB hg; have NB351_352 := nl_ BK351 hg; have NB352_351 := nr_ BK351 hg; replace BK351 := bb_ BK351 hb; replace HB := hs_ HB hb; clear hb hbox hg; have hnb7 := NB352_351.out; have hnc7 := NB351_352.out; obtain ⟨hcz8_0, hcz8_1, hfz8_0, hfz8_1⟩ := c2_ BK352; obtain ⟨hcz9_0, hcz9_1, hfz9_0, hfz9_1⟩ := c2_ BK351) | ((with_reducible refine gate_callee (f := 19) rfl ?_); refine goesL_ (some 14) rfl rfl Tryd.func19 (by kernel_rfl) rfl #[.agg #[.slice A1_0 l1_0.length c1_0, .bool a1_1], .agg #[.slice A0_0 l0_0.length c0_0, .bool a0_1]] rfl gl_ ?_; (with_reducible refine (pattern_Within.calls k _ _ l1_0 a1_1 _ _ l0_0 a0_1 true _ ?side1 ?side2 ?side3 ?side4 A3.out).mono ?_); (case side1 => exact sd_); (case side2 => exact HC1_0.out); (case side3 => exact sd_); (case side4 => exact HC0_0.out); rintro e w10 ⟨rfl, hb⟩; refine ⟨_, rfl, ?_⟩; replace BK351 := bb_ BK351 hb; replace BK352 := bb_ BK352 hb; replace HB := hs_ HB hb; (try clear hb); (try clear hb2); (try clear hk); (try clear hi); obtain ⟨hcz11_0, hcz11_1, hfz11_0, hfz11_1⟩ := c2_ BK351))
    go_loopg [6, 19] k (fun kq v6 v19 w' => ∃ (x6_1 : List (S28)) (x19_1 : Int), v19 = .int .i64 x19_1 ∧ Aside0 (pattern_Bind.l0 kq x6_1 l0_0 (l0_0.length : Int) x19_1 l0_0 a0_1 l1_0 a1_1 = some (r1, r2)) ∧ Aside0 (kq ≤ k) ∧ Aside0 (Kd.S k28 28 w' w.heap.size (fun _ => True) v6 x6_1) ∧ Aside0 (w'.heap[gb351]? = some (.cells #[(.slice A0_0 l0_0.length c0_0), .bool a0_1] 24 (0, 0))) ∧ Aside0 (w'.heap[gb352]? = some (.cells #[(.slice A1_0 l1_0.length c1_0), .bool a1_1] 24 (0, 0))) ∧ Aside0 (Below w.heap.size w w'))
    case atStart => exact ⟨(([] : List (S28))), (0), (by first | rfl | (simp; done) | (simp [*]; done)), H', ⟨Nat.le_refl _⟩, ⟨by first | exact Kd.S_nil _ _ _ _ _ | exact Kd.N_nil _ _ _ _ _ | exact Kd.V_nil _ _ _ _ _ | exact Kd.Q_nil _ _ _ _ _ | exact Kd.R_nil _ _ _ _ _⟩, ⟨bk_⟩, ⟨bk_⟩, ⟨hb_⟩⟩
    case round =>
      clear H'
      (try clear c1); (try clear p2); (try clear c4); (try clear c7); (try clear hcz11_0); (try clear hcz11_1); (try clear hcz8_0); (try clear hcz8_1); (try clear hcz9_0); (try clear hcz9_1); (try clear hfz11_0); (try clear hfz11_1); (try clear hfz8_0); (try clear hfz8_1); (try clear hfz9_0); (try clear hfz9_1)
      obtain ⟨x6_1, x19_1, rfl, HA, HK1, HO_6, BK351, BK352, HB⟩ := hrel
      cases gk with
      | zero => exact absurd HA.out (by simp [pattern_Bind.l0])
      | succ k1 =>
        have H := HA.out
        clear HA
        simp only [pattern_Bind.l0] at H
        by_cases c12 : x19_1 < (l0_0.length : Int)
        · rw [if_pos c12] at H
          have c12b0 : decide (x19_1 < (l0_0.length : Int)) = true := decide_eq_true c12
          clear c12
          by_cases c13 : 0 ≤ x19_1
          · rw [if_pos c13] at H
            have c13b0 : decide (0 ≤ x19_1) = true := decide_eq_true c13
            clear c13
            by_cases c14 : x19_1 < (l0_0.length : Int)
            · rw [if_pos c14] at H
              have c14b0 : decide (x19_1 < (l0_0.length : Int)) = true := decide_eq_true c14
              clear c14
              replace H := Option.bind_eq_some_iff.mp H
              obtain ⟨⟨t355, t356⟩, A150, H⟩ := H
              replace H : (if t355 = 2 then (if x19_1 < (l1_0.length : Int) then (if 0 ≤ (wrap64 (((rdOf ByteArray.empty l1_0 x19_1).size : Int) - (t356.size : Int))) then (if (wrap64 (((rdOf ByteArray.empty l1_0 x19_1).size : Int) - (t356.size : Int))) ≤ ((rdOf ByteArray.empty l1_0 x19_1).size : Int) then (if x6_1.length < 4398046511104 then (pattern_Bind.l0 k1 (x6_1 ++ [(⟨(([(rdOf ByteArray.empty l1_0 x19_1).extract 0 ((wrap64 (((rdOf ByteArray.empty l1_0 x19_1).size : Int) - (t356.size : Int))) : Int).toNat] : List ByteArray)), false⟩ : S28)]) l0_0 (l0_0.length : Int) (wrap64 (x19_1 + 1)) l0_0 a0_1 l1_0 a1_1) else (none)) else (none)) else (none)) else (none)) else (pattern_Bind.l0 k1 x6_1 l0_0 (l0_0.length : Int) (wrap64 (x19_1 + 1)) l0_0 a0_1 l1_0 a1_1)) = some (r1, r2) := H
              have A15 := Aside0.mk A150
              clear A150
              by_cases c16 : t355 = 2
              · rw [if_pos c16] at H
                have c16b0 : (t355 == 2) = true := beq_iff_eq.mpr c16
                have c16b1 : (t355 != 2) = false := bne_eq_false_iff_eq.mpr c16
                clear c16
                by_cases c17 : x19_1 < (l1_0.length : Int)
                · rw [if_pos c17] at H
                  have c17b0 : decide (x19_1 < (l1_0.length : Int)) = true := decide_eq_true c17
                  clear c17
                  obtain ⟨ji18, hji18⟩ : ∃ j_ : Int, (wrap64 (((rdOf ByteArray.empty l1_0 x19_1).size : Int) - (t356.size : Int))) = j_ := ⟨_, rfl⟩
                  replace H : (if 0 ≤ (ji18) then (if (ji18) ≤ ((rdOf ByteArray.empty l1_0 x19_1).size : Int) then (if x6_1.length < 4398046511104 then (pattern_Bind.l0 k1 (x6_1 ++ [(⟨(([(rdOf ByteArray.empty l1_0 x19_1).extract 0 ((ji18) : Int).toNat] : List ByteArray)), false⟩ : S28)]) l0_0 (l0_0.length : Int) (wrap64 (x19_1 + 1)) l0_0 a0_1 l1_0 a1_1) else (none)) else (none)) else (none)) = some (r1, r2) := by first | (rw [hji18] at H; exact H) | (simp only [hji18] at H ⊢; exact H)
                  (try rw [hji18] at A15)
                  have hji18w : (IntKind.i64.wrap (((rdOf ByteArray.empty l1_0 x19_1).size : Int) - (t356.size : Int))) = ji18 := (i64_w _).trans hji18
                  by_cases c19 : 0 ≤ (ji18)
                  · rw [if_pos c19] at H
                    have c19b0 := eq_true c19
                    have c19b1 : decide (0 ≤ (ji18)) = true := decide_eq_true c19
                    clear c19
                    by_cases c20 : (ji18) ≤ ((rdOf ByteArray.empty l1_0 x19_1).size : Int)
                    · rw [if_pos c20] at H
                      have c20b0 := eq_true c20
                      have c20b1 : decide ((ji18) ≤ ((rdOf ByteArray.empty l1_0 x19_1).size : Int)) = true := decide_eq_true c20
                      clear c20
                      obtain ⟨y358, hy358⟩ : ∃ y_ : List ByteArray, y_ = (([(rdOf ByteArray.empty l1_0 x19_1).extract 0 ((ji18) : Int).toNat] : List ByteArray)) := ⟨_, rfl⟩
                      replace H : (if x6_1.length < 4398046511104 then (pattern_Bind.l0 k1 (x6_1 ++ [(⟨y358, false⟩ : S28)]) l0_0 (l0_0.length : Int) (wrap64 (x19_1 + 1)) l0_0 a0_1 l1_0 a1_1) else (none)) = some (r1, r2) := by first | (rw [hy358]; with_reducible exact H) | (have H2_ := (Option.bind_some _ _).symm.trans H; rw [hy358]; with_reducible exact H2_) | (have H2_ := (Option.bind_some _ _).symm.trans H; with_reducible exact H2_) | with_reducible exact H | (rw [hy358]; exact H) | exact H
                      have Ny358 := Aside0.mk hy358
                      clear hy358
                      by_cases c21 : x6_1.length < 4398046511104
                      · rw [if_pos c21] at H
                        have LMc21 := Aside0.mk c21
                        clear c21
                        obtain ⟨y361, hy361⟩ : ∃ y_ : List (S28), y_ = (x6_1 ++ [(⟨y358, false⟩ : S28)]) := ⟨_, rfl⟩
                        replace H : (pattern_Bind.l0 k1 y361 l0_0 (l0_0.length : Int) (wrap64 (x19_1 + 1)) l0_0 a0_1 l1_0 a1_1) = some (r1, r2) := by first | (rw [hy361]; with_reducible exact H) | (have H2_ := (Option.bind_some _ _).symm.trans H; rw [hy361]; with_reducible exact H2_) | (have H2_ := (Option.bind_some _ _).symm.trans H; with_reducible exact H2_) | with_reducible exact H | (rw [hy361]; exact H) | exact H
                        have Ny361 := Aside0.mk hy361
                        clear hy361
                        have H' := Aside0.mk H
                        clear H
                        have p354 : 0 ≤ (x19_1 : Int) := of_decide_eq_true (by first | (with_reducible assumption) | assumption)
                        have q354 : x19_1 < (l0_0.length : Int) := of_decide_eq_true (by first | (with_reducible assumption) | assumption)
                        obtain ⟨ad354, e354, hx354_0⟩ := Kd.at_string HR0_0.out x19_1 p354 q354
                        cases e354
                        replace hx354_0 := (HB.out.cell (World.block_lt_of_cell? w _ hx354_0)).trans hx354_0
                        replace p354 := eq_true p354
                        replace q354 := eq_true q354
                        go_wp2_with (first | ((with_reducible refine gate_callee (f := 39) rfl ?_); refine goesL_ (some 26) rfl rfl Tryd.func39 (by kernel_rfl) rfl #[.string (rdOf ByteArray.empty l0_0 x19_1)] rfl gl_ ?_; (with_reducible refine (pattern_formOf.calls k1 (rdOf ByteArray.empty l0_0 x19_1) t355 t356 _ A15.out).mono ?_); rintro e w' ⟨rfl, ⟨nd, rfl⟩⟩; refine ⟨_, rfl, ?_⟩; have hnb22 := NB352_351.out; have hnc22 := NB351_352.out; obtain ⟨hcz23_0, hcz23_1, hfz23_0, hfz23_1⟩ := c2_ BK352; have p357 : 0 ≤ (x19_1 : Int) := of_decide_eq_true (by first | (with_reducible assumption) | assumption); have q357 : x19_1 < (l1_0.length : Int) := of_decide_eq_true (by first | (with_reducible assumption) | assumption); obtain ⟨ad357, e357, hx357_0⟩ := Kd.at_string HR1_0.out x19_1 p357 q357; cases e357; replace hx357_0 := (HB.out.cell (World.block_lt_of_cell? w _ hx357_0)).trans hx357_0; replace p357 := eq_true p357; replace q357 := eq_true q357) | ((with_reducible refine gate_dst (N := 44) rfl ?_); refine Kd.R_lit Kd.string _ 9 ?hg (N := 44) ?hd (xs := ([(rdOf ByteArray.empty l1_0 x19_1).extract 0 ((ji18) : Int).toNat] : List ByteArray)) (inner := [.string ((rdOf ByteArray.empty l1_0 x19_1).extract 0 ((ji18) : Int).toNat)]) (ok := fun _ => True) (okp := fun _ => True) ?hr ?hp (fun _ hk => hk) trivial (Below.refl _ _) (Nat.le_refl _) (by simp) ?_; (case hd => rfl); (case hg => rfl); (case hr => first | (go_simp; done) | (go_simp; rfl)); (case hp => exact (Reps.one (show Kd.M Kd.string _ _ _ ((rdOf ByteArray.empty l1_0 x19_1).extract 0 ((ji18) : Int).toNat) [.string ((rdOf ByteArray.empty l1_0 x19_1).extract 0 ((ji18) : Int).toNat)] from rfl) (Reps.none _ _))); intro v359 w24 ho25 hb hg_ hnew_; clear hg_ hnew_; (first | rw [← Ny358.out] at ho25 | (simp only [Int.reduceToNat] at ho25; rw [← Ny358.out] at ho25)); have n0_ := Aside0.mk (Kd.S_elder' (by (with_reducible repeat (first | apply Kd.S_alloc | apply Kd.S_drewN | apply Kd.S_drew)); exact HO_6.out) (Kd.R_base ho25) hb); have n1_ := Aside0.mk (Kd.R_lower ho25 (below_size hb_)); replace BK351 := bb_ BK351 hb; replace BK352 := bb_ BK352 hb; replace HB := hs_ HB hb; clear HO_6; have HO_6 := n0_; have HO360 := n1_; clear n0_ n1_; clear hb ho25; obtain ⟨Ao26, co26, eo26⟩ := Kd.R_slice HO360.out; subst eo26) | ((with_reducible refine gate_builtin (b := .append) (xs := #[.tmp 36, .tmp 46]) rfl ?_); at_builtin; refine Kd.S_append k28 (w0 := w) w.heap.size rfl (.tmp 36) (.tmp 46) 25 28 (.agg #[(.slice none 0 0), (.bool false)]) 32 rfl Tryd.underlying25 info28 rfl (by decide) (by omega) u6 x6_1 (⟨y358, false⟩ : S28) [.slice Ao26 y358.length co26, .bool false] (fun _ => True) (fun k_ => some k_ = (.slice Ao26 y358.length co26 : Value).ownBlock) rfl rfl ?aP (fun k_ hk_ => ((Kd.R_mono (ok' := fun k_ => ((fun _ => True)) k_ ∧ some k_ ≠ (u6 : Value).ownBlock) (Kd.R_apart' (HO360.out) (Kd.S_typed HO_6.out) (by decide)) (fun k_ hk => ⟨trivial, hk.2⟩))).1 k_ hk_.symm) ?aF ?aO ?aB ?aS ?aL ?_; (case aP => exact k28_mkM _ _ _ (⟨y358, false⟩ : S28) (Kd.R_mono (Kd.R_tight rfl (Kd.R_mono (ok' := fun k_ => ((fun _ => True)) k_ ∧ some k_ ≠ (u6 : Value).ownBlock) (Kd.R_apart' (HO360.out) (Kd.S_typed HO_6.out) (by decide)) (fun k_ hk => ⟨trivial, hk.2⟩))) (fun _ h_ => h_))); (case aB => exact hb_); (case aF => exact (fun _ _ => trivial)); (case aO => exact (by (with_reducible repeat (first | apply Kd.S_alloc | apply Kd.S_drewN | apply Kd.S_drew)); exact Kd.S_mono HO_6.out (fun k_ hk => ⟨trivial, fun e_ => hk.2 e_⟩))); (case aS => exact (below_size hb_)); (case aL => have := LMc21.out; omega); intro v362 w27 ho hb hg hat; rw [← Ny361.out] at ho; have n0_ := Aside0.mk (blk_grown (g := gb351) (o := .cells #[.slice (some ad354) l0_0.length c0_0, .bool a0_1] 24 (0, 0)) bk_ hg (Kd.S_ne HO_6.out BK351.out (by decide))); have n1_ := Aside0.mk (blk_grown (g := gb352) (o := .cells #[.slice (some ad357) l1_0.length c1_0, .bool a1_1] 24 (0, 0)) bk_ hg (Kd.S_ne HO_6.out BK352.out (by decide))); have n2_ := Aside0.mk (hb); have n3_ := Aside0.mk (ho); clear BK351 BK352 HB HO_6 HO360; have BK351 := n0_; have BK352 := n1_; have HB := n2_; have HO363 := n3_; clear n0_ n1_ n2_ n3_; clear ho hb hg hat))
                        go_roundg k1
                        case measure => have := HK1.out; omega
                        case rel => exact ⟨(y361), (wrap64 (x19_1 + 1)), (by first | rfl | (simp; done) | (simp [*]; done)), H', ⟨by have := HK1.out; omega⟩, ⟨by (with_reducible repeat (first | apply Kd.S_alloc | apply Kd.S_drewN | apply Kd.S_drew)); exact HO363.out⟩, ⟨bk_⟩, ⟨bk_⟩, ⟨hb_⟩⟩
                      · rw [if_neg c21] at H
                        exact absurd H (by simp)
                    · rw [if_neg c20] at H
                      exact absurd H (by simp)
                  · rw [if_neg c19] at H
                    exact absurd H (by simp)
                · rw [if_neg c17] at H
                  exact absurd H (by simp)
              · rw [if_neg c16] at H
                have c16b0 : (t355 == 2) = false := beq_eq_false_iff_ne.mpr c16
                have c16b1 : (t355 != 2) = true := bne_iff_ne.mpr c16
                have H' := Aside0.mk H
                clear H
                have p354 : 0 ≤ (x19_1 : Int) := of_decide_eq_true (by first | (with_reducible assumption) | assumption)
                have q354 : x19_1 < (l0_0.length : Int) := of_decide_eq_true (by first | (with_reducible assumption) | assumption)
                obtain ⟨ad354, e354, hx354_0⟩ := Kd.at_string HR0_0.out x19_1 p354 q354
                cases e354
                replace hx354_0 := (HB.out.cell (World.block_lt_of_cell? w _ hx354_0)).trans hx354_0
                replace p354 := eq_true p354
                replace q354 := eq_true q354
                go_wp2_with (first | ((with_reducible refine gate_callee (f := 39) rfl ?_); refine goesL_ (some 26) rfl rfl Tryd.func39 (by kernel_rfl) rfl #[.string (rdOf ByteArray.empty l0_0 x19_1)] rfl gl_ ?_; (with_reducible refine (pattern_formOf.calls k1 (rdOf ByteArray.empty l0_0 x19_1) t355 t356 _ A15.out).mono ?_); rintro e w' ⟨rfl, ⟨nd, rfl⟩⟩; refine ⟨_, rfl, ?_⟩))
                go_roundg k1
                case measure => have := HK1.out; omega
                case rel => exact ⟨(x6_1), (wrap64 (x19_1 + 1)), (by first | rfl | (simp; done) | (simp [*]; done)), H', ⟨by have := HK1.out; omega⟩, ⟨by (with_reducible repeat (first | apply Kd.S_alloc | apply Kd.S_drewN | apply Kd.S_drew)); exact HO_6.out⟩, ⟨bk_⟩, ⟨bk_⟩, ⟨hb_⟩⟩
            · rw [if_neg c14] at H
              exact absurd H (by simp)
          · rw [if_neg c13] at H
            exact absurd H (by simp)
        · rw [if_neg c12] at H
          have c12b0 : decide (x19_1 < (l0_0.length : Int)) = false := decide_eq_false c12
          clear c12
          by_cases c28 : a0_1 = true
          · subst c28
            have H1 : ((some (([] : List ByteArray) : List ByteArray)).bind fun y364 => (if 0 ≤ (l0_0.length : Int) then (if (l0_0.length : Int) ≤ (l1_0.length : Int) then (if y364.length + (l1_0.drop ((l0_0.length : Int) : Int).toNat).length < 8796093022208 then (if x6_1.length < 4398046511104 then (some ((x6_1 ++ [(⟨(y364 ++ (l1_0.drop ((l0_0.length : Int) : Int).toNat)), a1_1⟩ : S28)]), true)) else (none)) else (none)) else (none)) else (none))) = some (r1, r2) := by rw [if_pos rfl] at H; exact H
            clear H
            have H := H1
            clear H1
            obtain ⟨y364, hy364⟩ : ∃ y_ : List ByteArray, y_ = (([] : List ByteArray)) := ⟨_, rfl⟩
            replace H : (if 0 ≤ (l0_0.length : Int) then (if (l0_0.length : Int) ≤ (l1_0.length : Int) then (if y364.length + (l1_0.drop ((l0_0.length : Int) : Int).toNat).length < 8796093022208 then (if x6_1.length < 4398046511104 then (some ((x6_1 ++ [(⟨(y364 ++ (l1_0.drop ((l0_0.length : Int) : Int).toNat)), a1_1⟩ : S28)]), true)) else (none)) else (none)) else (none)) else (none)) = some (r1, r2) := by first | (rw [hy364]; with_reducible exact H) | (have H2_ := (Option.bind_some _ _).symm.trans H; rw [hy364]; with_reducible exact H2_) | (have H2_ := (Option.bind_some _ _).symm.trans H; with_reducible exact H2_) | with_reducible exact H | (rw [hy364]; exact H) | exact H
            have Ny364 := Aside0.mk hy364
            clear hy364
            by_cases c29 : 0 ≤ (l0_0.length : Int)
            · rw [if_pos c29] at H
              have c29b0 := eq_true c29
              have c29b1 : decide (0 ≤ (l0_0.length : Int)) = true := decide_eq_true c29
              clear c29
              by_cases c30 : (l0_0.length : Int) ≤ (l1_0.length : Int)
              · rw [if_pos c30] at H
                have c30b0 := eq_true c30
                have c30b1 : decide ((l0_0.length : Int) ≤ (l1_0.length : Int)) = true := decide_eq_true c30
                clear c30
                by_cases c31 : y364.length + (l1_0.drop ((l0_0.length : Int) : Int).toNat).length < 8796093022208
                · rw [if_pos c31] at H
                  have LMc31 := Aside0.mk c31
                  clear c31
                  obtain ⟨y368, hy368⟩ : ∃ y_ : List ByteArray, y_ = (y364 ++ (l1_0.drop ((l0_0.length : Int) : Int).toNat)) := ⟨_, rfl⟩
                  replace H : (if x6_1.length < 4398046511104 then (some ((x6_1 ++ [(⟨y368, a1_1⟩ : S28)]), true)) else (none)) = some (r1, r2) := by first | (rw [hy368]; with_reducible exact H) | (have H2_ := (Option.bind_some _ _).symm.trans H; rw [hy368]; with_reducible exact H2_) | (have H2_ := (Option.bind_some _ _).symm.trans H; with_reducible exact H2_) | with_reducible exact H | (rw [hy368]; exact H) | exact H
                  have Ny368 := Aside0.mk hy368
                  clear hy368
                  by_cases c32 : x6_1.length < 4398046511104
                  · rw [if_pos c32] at H
                    have LMc32 := Aside0.mk c32
                    clear c32
                    obtain ⟨y371, hy371⟩ : ∃ y_ : List (S28), y_ = (x6_1 ++ [(⟨y368, a1_1⟩ : S28)]) := ⟨_, rfl⟩
                    replace H : (some (y371, true)) = some (r1, r2) := by first | (rw [hy371]; with_reducible exact H) | (have H2_ := (Option.bind_some _ _).symm.trans H; rw [hy371]; with_reducible exact H2_) | (have H2_ := (Option.bind_some _ _).symm.trans H; with_reducible exact H2_) | with_reducible exact H | (rw [hy371]; exact H) | exact H
                    have Ny371 := Aside0.mk hy371
                    clear hy371
                    simp only [Option.some.injEq, Prod.mk.injEq] at H
                    obtain ⟨rfl, rfl⟩ := H
                    have hnb33 := NB351_352.out
                    have hnc33 := NB352_351.out
                    obtain ⟨hcz34_0, hcz34_1, hfz34_0, hfz34_1⟩ := c2_ BK351
                    try go_wp2
                    have n0_ := Aside0.mk (Kd.S_drew HO_6.out)
                    have n1_ := Aside0.mk (blk_drew BK351.out)
                    have n2_ := Aside0.mk (blk_drew BK352.out)
                    have n3_ := Aside0.mk (below_drew1 HB.out)
                    clear HO_6 BK351 BK352 HB
                    have HO_6 := n0_
                    have BK351 := n1_
                    have BK352 := n2_
                    have HB := n3_
                    clear n0_ n1_ n2_ n3_
                    obtain ⟨i036, hi036, _, hsz36, _⟩ := info_parts info9
                    obtain ⟨A36, hcut36, hA36, hC36⟩ := print_drop_of (P := Tryd.prog) Value.string (⟨#[]⟩ : ByteArray) 22 9 .i64 Tryd.underlying22 hi036 hsz36 A1_0 c1_0 l1_0 (l0_0.length : Int) (of_decide_eq_true (by first | (with_reducible assumption) | assumption)) (of_decide_eq_true (by first | (with_reducible assumption) | assumption)) HC1_0.out
                    have HR367 := Aside0.mk (Kd.C_of_reads (h1 := fun _ => rfl) (hA36 _ (Kd.reads_of_C HR1_0.out)))
                    have HC367 := Aside0.mk hC36
                    clear hA36 hC36 hi036 hsz36
                    refine start_ (n := 15) (S := fun w' => w'.cell? ⟨gb352, 0, none⟩ = some (.slice A1_0 l1_0.length c1_0) ∧ w'.cell? ⟨gb352, 1, none⟩ = some (.bool a1_1) ∧ w'.cell? ⟨gb351, 0, none⟩ = some (.slice A0_0 l0_0.length c0_0) ∧ w'.cell? ⟨gb351, 1, none⟩ = some (.bool true)) (ds := []) #[false, false, false, false, false, false, false, false, false, false, false, false, false, false, false] (by kernel_rfl) rfl rfl ⟨(blk_cell BK352.out 0).trans rfl, (blk_cell BK352.out 1).trans rfl, (blk_cell BK351.out 0).trans rfl, (blk_cell BK351.out 1).trans rfl⟩ (fun hHeld => ?_); refine with_tabW pattern_Bind.tab13 pattern_Bind.bits13 (fun HT_ HW_ => ?_)
                    generalize wr.drew = w35 at HO_6 BK351 BK352 HB HR367 hHeld ⊢
                    refine pure_ (i := 0) (N := some 51) (v := ?_) (a' := ?_) #[true, false, false, false, false, false, false, false, false, false, false, false, false, false, false] rfl rfl (any_of HT_.out (by kernel_rfl)) (fun _ _ _ h => h) (Or.inl ⟨by rfl, ?_⟩) ?_ ?_
                    rotate_left
                    · intro w'
                      go_simp
                      with_reducible rfl
                    rotate_left
                    · simp only [Act.put, List.setIfInBounds_toArray, List.set_cons_zero, List.set_cons_succ, i64_w, i32_w]
                      rfl
                    refine pure_ (i := 2) (N := some 53) (v := ?_) (a' := ?_) #[true, false, true, false, false, false, false, false, false, false, false, false, false, false, false] rfl rfl (any_of HT_.out (by kernel_rfl)) (fun _ _ _ h => h) (Or.inl ⟨by rfl, ?_⟩) ?_ ?_
                    rotate_left
                    · intro w'
                      go_simp
                      with_reducible rfl
                    rotate_left
                    · simp only [Act.put, List.setIfInBounds_toArray, List.set_cons_zero, List.set_cons_succ, i64_w, i32_w]
                      rfl
                    refine pure_ (i := 4) (N := some 55) (v := ?_) (a' := ?_) #[true, false, true, false, true, false, false, false, false, false, false, false, false, false, false] rfl rfl (any_of HT_.out (by kernel_rfl)) (fun _ _ _ h => h) (Or.inl ⟨by rfl, ?_⟩) ?_ ?_
                    rotate_left
                    · intro w'
                      go_simp
                      with_reducible rfl
                    rotate_left
                    · simp only [Act.put, List.setIfInBounds_toArray, List.set_cons_zero, List.set_cons_succ, i64_w, i32_w]
                      rfl
                    refine pure_ (i := 9) (N := some 60) (v := ?_) (a' := ?_) #[true, false, true, false, true, false, false, false, false, true, false, false, false, false, false] rfl rfl (any_of HT_.out (by kernel_rfl)) (fun _ _ _ h => h) (Or.inl ⟨by rfl, ?_⟩) ?_ ?_
                    rotate_left
                    · intro w'
                      go_simp
                      with_reducible rfl
                    rotate_left
                    · simp only [Act.put, List.setIfInBounds_toArray, List.set_cons_zero, List.set_cons_succ, i64_w, i32_w]
                      rfl
                    refine take_ (i := 3) (N := some 54) (v := ?_) (a' := ?_) #[true, false, true, true, true, false, false, false, false, true, false, false, false, false, false] rfl rfl (take_ofW HT_.out HW_.out (by kernel_rfl)) (fun _ _ _ h => h) (Or.inl ⟨by rfl, ?_⟩) hHeld ?_ ?_
                    rotate_left
                    · rintro w' ⟨s0, s1, s2, s3⟩
                      go_simp
                      with_reducible rfl
                    rotate_left
                    · simp only [Act.put, List.setIfInBounds_toArray, List.set_cons_zero, List.set_cons_succ, i64_w, i32_w]
                      rfl
                    refine take_ (i := 5) (N := some 56) (v := ?_) (a' := ?_) #[true, false, true, true, true, true, false, false, false, true, false, false, false, false, false] rfl rfl (take_ofW HT_.out HW_.out (by kernel_rfl)) (fun _ _ _ h => h) (Or.inl ⟨by rfl, ?_⟩) hHeld ?_ ?_
                    rotate_left
                    · rintro w' ⟨s0, s1, s2, s3⟩
                      go_simp
                      with_reducible rfl
                    rotate_left
                    · simp only [Act.put, List.setIfInBounds_toArray, List.set_cons_zero, List.set_cons_succ, i64_w, i32_w]
                      rfl
                    refine pure_ (i := 6) (N := some 57) (v := ?_) (a' := ?_) #[true, false, true, true, true, true, true, false, false, true, false, false, false, false, false] rfl rfl (any_of HT_.out (by kernel_rfl)) (fun _ _ _ h => h) (Or.inl ⟨by rfl, ?_⟩) ?_ ?_
                    rotate_left
                    · intro w'
                      go_simp
                      with_reducible rfl
                    rotate_left
                    · simp only [Act.put, List.setIfInBounds_toArray, List.set_cons_zero, List.set_cons_succ, i64_w, i32_w]
                      rfl
                    refine pure_ (i := 7) (N := some 58) (v := ?_) (a' := ?_) #[true, false, true, true, true, true, true, true, false, true, false, false, false, false, false] rfl rfl (any_of HT_.out (by kernel_rfl)) (fun _ _ _ h => h) (Or.inl ⟨by rfl, ?_⟩) ?_ ?_
                    rotate_left
                    · intro w'
                      go_simp
                      with_reducible rfl
                    rotate_left
                    · simp only [Act.put, List.setIfInBounds_toArray, List.set_cons_zero, List.set_cons_succ, i64_w, i32_w]
                      rfl
                    refine take_ (i := 10) (N := some 61) (v := ?_) (a' := ?_) #[true, false, true, true, true, true, true, true, false, true, true, false, false, false, false] rfl rfl (take_ofW HT_.out HW_.out (by kernel_rfl)) (fun _ _ _ h => h) (Or.inl ⟨by rfl, ?_⟩) hHeld ?_ ?_
                    rotate_left
                    · rintro w' ⟨s0, s1, s2, s3⟩
                      go_simp
                      with_reducible rfl
                    rotate_left
                    · simp only [Act.put, List.setIfInBounds_toArray, List.set_cons_zero, List.set_cons_succ, i64_w, i32_w]
                      rfl
                    refine one_ (i := 1) (N := some 52) #[true, true, true, true, true, true, true, true, false, true, true, false, false, false, false] rfl rfl (one_of HT_.out (by kernel_rfl)) (by decide) (fun K hK => ?_)
                    refine Kd.R_lit_step Kd.string _ 9 ?hg (N := 52) ?hd (xs := ([] : List ByteArray)) (inner := []) (ok := fun _ => True) (okp := fun _ => True) ?hr ?hp (fun _ hk => hk) trivial (Below.refl _ _) (Nat.le_refl _) (by simp) ?_; (case hd => rfl); (case hg => rfl); (case hr => first | (go_simp; done) | (go_simp; rfl)); (case hp => exact (Reps.none _ _))
                    intro v365 w37 ho38 hb hg_ hnew_
                    clear hg_ hnew_
                    (first | rw [← Ny364.out] at ho38 | (simp only [Int.reduceToNat] at ho38; rw [← Ny364.out] at ho38))
                    have n0_ := Aside0.mk (Kd.S_elder' (by (with_reducible repeat (first | apply Kd.S_alloc | apply Kd.S_drewN | apply Kd.S_drew)); exact HO_6.out) (Kd.R_base ho38) hb)
                    have n1_ := Aside0.mk (Kd.R_lower ho38 (below_size hb_))
                    replace BK351 := bb_ BK351 hb
                    replace BK352 := bb_ BK352 hb
                    replace HB := hs_ HB hb
                    clear HO_6
                    have HO_6 := n0_
                    have HO366 := n1_
                    clear n0_ n1_
                    clear hb ho38
                    refine hK.out _ _ ⟨(blk_cell BK352.out 0).trans rfl, (blk_cell BK352.out 1).trans rfl, (blk_cell BK351.out 0).trans rfl, (blk_cell BK351.out 1).trans rfl⟩ (fun hHeld => ?_)
                    clear hK K
                    refine norm_ (a' := ?_) ?_ ?_
                    rotate_left
                    · show Act.put _ (some 52) _ = _
                      simp only [Act.put, List.setIfInBounds_toArray, List.set_cons_zero, List.set_cons_succ, i64_w, i32_w]
                      rfl
                    refine one_ (i := 8) (N := some 59) #[true, true, true, true, true, true, true, true, true, true, true, false, false, false, false] rfl rfl (one_of HT_.out (by kernel_rfl)) (by decide) (fun K hK => ?_)
                    refine Kd.R_append_rows_step Kd.string (w0 := w) w.heap.size (by rfl) (.tmp 52) (.tmp 58) 22 9 (.string ⟨#[]⟩) 16 rfl Tryd.underlying22 info9 rfl (by decide) (by omega) v365 y364 (l1_0.drop ((l0_0.length : Int) : Int).toNat) _ _ _ (fun _ => True) (fun _ => False) rfl rfl ?aO ?aR (fun _ _ h => h) (fun _ h => h.elim) ?aF ?aB ?aS ?aL ?_
                    (case aR => first | (rw [show (l1_0.length - l0_0.length) = (l1_0.drop ((l0_0.length : Int) : Int).toNat).length from List.length_drop.symm]; repeat (first | exact (Kd.C_below HR367.out HB.out) | (with_reducible refine Kd.C_alloc ?_ _) | (with_reducible refine Kd.C_drewN ?_ _) | (with_reducible refine Kd.C_drew ?_))) | (rw [← show (l1_0.drop ((l0_0.length : Int) : Int).toNat).length = (l1_0.length - (l0_0.length : Int).toNat) from List.length_drop]; repeat (first | exact (Kd.C_below HR367.out HB.out) | (with_reducible refine Kd.C_alloc ?_ _) | (with_reducible refine Kd.C_drewN ?_ _) | (with_reducible refine Kd.C_drew ?_))) | (repeat (first | exact (Kd.C_below HR367.out HB.out) | (with_reducible refine Kd.C_alloc ?_ _) | (with_reducible refine Kd.C_drewN ?_ _) | (with_reducible refine Kd.C_drew ?_))))
                    (case aB => exact hb_)
                    (case aF => exact (fun _ _ => trivial))
                    (case aO => exact (rp_ HO366))
                    (case aS => exact (below_size hb_))
                    (case aL => have := LMc31.out; have hlx_ := (show (l1_0.drop ((l0_0.length : Int) : Int).toNat).length = (l1_0.length - (l0_0.length : Int).toNat) from List.length_drop); omega)
                    intro v369 w39 ho hb hg hat
                    rw [← Ny368.out] at ho
                    have n0_ := Aside0.mk (Kd.S_after (ok := (fun _ => True)) (by (with_reducible repeat (first | apply Kd.S_alloc | apply Kd.S_drewN | apply Kd.S_drew)); exact HO_6.out) hg hat)
                    have n1_ := Aside0.mk (blk_grown (g := gb351) (o := .cells #[.slice A0_0 l0_0.length c0_0, .bool true] 24 (0, 0)) bk_ hg (Kd.R_ne HO366.out BK351.out (by decide)))
                    have n2_ := Aside0.mk (blk_grown (g := gb352) (o := .cells #[.slice A1_0 l1_0.length c1_0, .bool a1_1] 24 (0, 0)) bk_ hg (Kd.R_ne HO366.out BK352.out (by decide)))
                    have n3_ := Aside0.mk (hb)
                    have n4_ := Aside0.mk (ho)
                    clear HO_6 BK351 BK352 HB HO366
                    have HO_6 := n0_
                    have BK351 := n1_
                    have BK352 := n2_
                    have HB := n3_
                    have HO370 := n4_
                    clear n0_ n1_ n2_ n3_ n4_
                    clear ho hb hg hat
                    obtain ⟨Ao40, co40, eo40⟩ := Kd.R_slice HO370.out
                    (first | subst eo40 | (injection eo40 with f1_ f2_ f3_; have f4_ := f1_.symm; have f5_ := f3_.symm; clear f1_ f2_ f3_; subst f4_; subst f5_))
                    refine hK.out _ _ ⟨(blk_cell BK352.out 0).trans rfl, (blk_cell BK352.out 1).trans rfl, (blk_cell BK351.out 0).trans rfl, (blk_cell BK351.out 1).trans rfl⟩ (fun hHeld => ?_)
                    clear hK K
                    refine norm_ (a' := ?_) ?_ ?_
                    rotate_left
                    · show Act.put _ (some 59) _ = _
                      simp only [Act.put, List.setIfInBounds_toArray, List.set_cons_zero, List.set_cons_succ, i64_w, i32_w]
                      rfl
                    refine pure_ (i := 11) (N := some 62) (v := ?_) (a' := ?_) #[true, true, true, true, true, true, true, true, true, true, true, true, false, false, false] rfl rfl (any_of HT_.out (by kernel_rfl)) (fun _ _ _ h => h) (Or.inl ⟨by rfl, ?_⟩) ?_ ?_
                    rotate_left
                    · intro w'
                      go_simp
                      with_reducible rfl
                    rotate_left
                    · simp only [Act.put, List.setIfInBounds_toArray, List.set_cons_zero, List.set_cons_succ, i64_w, i32_w]
                      rfl
                    refine one_ (i := 12) (N := some 63) #[true, true, true, true, true, true, true, true, true, true, true, true, true, false, false] rfl rfl (one_of HT_.out (by kernel_rfl)) (by decide) (fun K hK => ?_)
                    refine value_ (w1 := ?_) (v := ?_) (by rfl) rfl ?_ ?_
                    rotate_left 2
                    · go_simp
                      constructor
                      · rfl
                      · rfl
                    refine hK.out _ _ ⟨(blk_cell (blk_alloc BK352.out _) 0).trans rfl, (blk_cell (blk_alloc BK352.out _) 1).trans rfl, (blk_cell (blk_alloc BK351.out _) 0).trans rfl, (blk_cell (blk_alloc BK351.out _) 1).trans rfl⟩ (fun hHeld => ?_)
                    clear hK K
                    refine norm_ (a' := ?_) ?_ ?_
                    rotate_left
                    · show Act.put _ (some 63) _ = _
                      simp only [Act.put, List.setIfInBounds_toArray, List.set_cons_zero, List.set_cons_succ, i64_w, i32_w]
                      rfl
                    refine one_ (i := 13) (N := some 64) #[true, true, true, true, true, true, true, true, true, true, true, true, true, true, false] rfl rfl (one_of HT_.out (by kernel_rfl)) (by decide) (fun K hK => ?_)
                    refine Kd.S_append_step k28 (w0 := w) w.heap.size (by rfl) (.tmp 51) (.tmp 63) 25 28 (.agg #[(.slice none 0 0), (.bool false)]) 32 rfl Tryd.underlying25 info28 rfl (by decide) (by omega) u6 x6_1 (⟨y368, a1_1⟩ : S28) [.slice Ao40 y368.length co40, .bool a1_1] (fun _ => True) (fun k_ => some k_ = (.slice Ao40 y368.length co40 : Value).ownBlock) rfl rfl ?aP (fun k_ hk_ => ((Kd.R_mono (ok' := fun k_ => ((fun _ => True)) k_ ∧ some k_ ≠ (u6 : Value).ownBlock) (Kd.R_apart' (HO370.out) (Kd.S_typed HO_6.out) (by decide)) (fun k_ hk => ⟨trivial, hk.2⟩))).1 k_ hk_.symm) ?aF ?aO ?aB ?aS ?aL ?_
                    (case aP => exact k28_mkM _ _ _ (⟨y368, a1_1⟩ : S28) (Kd.R_mono (Kd.R_tight rfl (Kd.R_mono (ok' := fun k_ => ((fun _ => True)) k_ ∧ some k_ ≠ (u6 : Value).ownBlock) (Kd.R_apart' (HO370.out) (Kd.S_typed HO_6.out) (by decide)) (fun k_ hk => ⟨trivial, hk.2⟩))) (fun _ h_ => h_)))
                    (case aB => exact hb_)
                    (case aF => exact (fun _ _ => trivial))
                    (case aO => exact (by (with_reducible repeat (first | apply Kd.S_alloc | apply Kd.S_drewN | apply Kd.S_drew)); exact Kd.S_mono HO_6.out (fun k_ hk => ⟨trivial, fun e_ => hk.2 e_⟩)))
                    (case aS => exact (below_size hb_))
                    (case aL => have := LMc32.out; omega)
                    intro v372 w41 ho hb hg hat
                    rw [← Ny371.out] at ho
                    have n0_ := Aside0.mk (blk_grown (g := gb351) (o := .cells #[.slice A0_0 l0_0.length c0_0, .bool true] 24 (0, 0)) bk_ hg (Kd.S_ne HO_6.out BK351.out (by decide)))
                    have n1_ := Aside0.mk (blk_grown (g := gb352) (o := .cells #[.slice A1_0 l1_0.length c1_0, .bool a1_1] 24 (0, 0)) bk_ hg (Kd.S_ne HO_6.out BK352.out (by decide)))
                    have n2_ := Aside0.mk (hb)
                    have n3_ := Aside0.mk (ho)
                    clear BK351 BK352 HB HO_6 HO370
                    have BK351 := n0_
                    have BK352 := n1_
                    have HB := n2_
                    have HO373 := n3_
                    clear n0_ n1_ n2_ n3_
                    clear ho hb hg hat
                    refine hK.out _ _ ⟨(blk_cell BK352.out 0).trans rfl, (blk_cell BK352.out 1).trans rfl, (blk_cell BK351.out 0).trans rfl, (blk_cell BK351.out 1).trans rfl⟩ (fun hHeld => ?_)
                    clear hK K
                    refine norm_ (a' := ?_) ?_ ?_
                    rotate_left
                    · show Act.put _ (some 64) _ = _
                      simp only [Act.put, List.setIfInBounds_toArray, List.set_cons_zero, List.set_cons_succ, i64_w, i32_w]
                      rfl
                    refine pure_ (i := 14) (N := some 6) (v := ?_) (a' := ?_) #[true, true, true, true, true, true, true, true, true, true, true, true, true, true, true] rfl rfl (any_of HT_.out (by kernel_rfl)) (fun _ _ _ h => h) (Or.inl ⟨by rfl, ?_⟩) ?_ ?_
                    rotate_left
                    · intro w'
                      go_simp
                      with_reducible rfl
                    rotate_left
                    · simp only [Act.put, List.setIfInBounds_toArray, List.set_cons_zero, List.set_cons_succ, i64_w, i32_w]
                      rfl
                    refine done_ (done_of HT_.out (by kernel_rfl)) ?_
                    try go_wp2
                    go_ret2
                    exact ⟨_, rt_, by (with_reducible repeat (first | apply Kd.S_alloc | apply Kd.S_drewN | apply Kd.S_drew)); exact HO373.out, hb_⟩
                  · rw [if_neg c32] at H
                    exact absurd H (by simp)
                · rw [if_neg c31] at H
                  exact absurd H (by simp)
              · rw [if_neg c30] at H
                exact absurd H (by simp)
            · rw [if_neg c29] at H
              exact absurd H (by simp)
          · replace c28 := Bool.eq_false_iff.mpr c28
            subst c28
            have H1 : (some (x6_1, true)) = some (r1, r2) := by rw [if_neg (show ¬ (false = true) by decide)] at H; exact H
            clear H
            have H := H1
            clear H1
            simp only [Option.some.injEq, Prod.mk.injEq] at H
            obtain ⟨rfl, rfl⟩ := H
            have hnb42 := NB351_352.out
            have hnc42 := NB352_351.out
            obtain ⟨hcz43_0, hcz43_1, hfz43_0, hfz43_1⟩ := c2_ BK351
            go_wp2
            go_ret2
            exact ⟨_, rt_, by (with_reducible repeat (first | apply Kd.S_alloc | apply Kd.S_drewN | apply Kd.S_drew)); exact HO_6.out, hb_⟩
  · replace c4 := Bool.eq_false_iff.mpr c4
    subst c4
    have H1 : (some (([] : List (S28)), false)) = some (r1, r2) := by rw [if_neg (show ¬ (false = true) by decide)] at H; exact H
    clear H
    have H := H1
    clear H1
    simp only [Option.some.injEq, Prod.mk.injEq] at H
    obtain ⟨rfl, rfl⟩ := H
    go_enter Tryd.func18, Tryd.ntmps18
    go_wp2_with (first | ((with_reducible refine gate_dst (N := 2) rfl ?_); refine box_event ?hg (N := 2) ?hd (cs := #[.slice A0_0 l0_0.length c0_0, .bool a0_1]) (t := 24) ?hr ?_; (case hd => rfl); (case hg => rfl); (case hr => first | (go_simp; done) | (go_simp; rfl)); intro gb351 hg w44 hbox hb; have BK351 := Aside0.mk hbox; have GW351 := gw_ HB hg; have GE351 := gw_ HB hg; replace HB := hs_ HB hb; clear hb hbox hg) | ((with_reducible refine gate_dst (N := 3) rfl ?_); refine box_event ?hg (N := 3) ?hd (cs := #[.slice A1_0 l1_0.length c1_0, .bool a1_1]) (t := 24) ?hr ?_; (case hd => rfl); (case hg => rfl); (case hr => first | (go_simp; done) | (go_simp; rfl)); intro gb352 hg w45 hbox hb; have BK352 := Aside0.mk hbox; have GW352 := gw_ HB hg; have GE352 := gw_ HB hg; have NB351_352 := nl_ BK351 hg; have NB352_351 := nr_ BK351 hg; replace BK351 := bb_ BK351 hb; replace HB := hs_ HB hb; clear hb hbox hg; have hnb46 := NB352_351.out; have hnc46 := NB351_352.out; obtain ⟨hcz47_0, hcz47_1, hfz47_0, hfz47_1⟩ := c2_ BK352; obtain ⟨hcz48_0, hcz48_1, hfz48_0, hfz48_1⟩ := c2_ BK351) | ((with_reducible refine gate_callee (f := 19) rfl ?_); refine goesL_ (some 14) rfl rfl Tryd.func19 (by kernel_rfl) rfl #[.agg #[.slice A1_0 l1_0.length c1_0, .bool a1_1], .agg #[.slice A0_0 l0_0.length c0_0, .bool a0_1]] rfl gl_ ?_; (with_reducible refine (pattern_Within.calls k _ _ l1_0 a1_1 _ _ l0_0 a0_1 false _ ?side1 ?side2 ?side3 ?side4 A3.out).mono ?_); (case side1 => exact sd_); (case side2 => exact HC1_0.out); (case side3 => exact sd_); (case side4 => exact HC0_0.out); rintro e w49 ⟨rfl, hb⟩; refine ⟨_, rfl, ?_⟩; replace BK351 := bb_ BK351 hb; replace BK352 := bb_ BK352 hb; replace HB := hs_ HB hb; (try clear hb); (try clear hb2); (try clear hk); (try clear hi)))
    go_ret2
    exact ⟨_, rt_, by first | exact Kd.S_nil _ _ _ _ _ | exact Kd.N_nil _ _ _ _ _ | exact Kd.V_nil _ _ _ _ _ | exact Kd.Q_nil _ _ _ _ _ | exact Kd.R_nil _ _ _ _ _, hb_⟩

end Go.Proofs.YthclkdplihchjaaDoor.P

-- Written by a program of this session (wip/gen.py) over the kit's print: each Go function as a plain Lean function, and the proof that the Go code comes to it. Nothing here is trusted: Lean checks it.
import Derived.Test.YthclkdplihchjaaDoorWLate
import Derived.Test.YthclkdplihchjaaDoorPx0
import Derived.Test.YthclkdplihchjaaDoorPx2
import Derived.Test.YthclkdplihchjaaDoorPx8
import Derived.Test.YthclkdplihchjaaDoorPx9
import Derived.Test.YthclkdplihchjaaDoorPx21
import Derived.Test.YthclkdplihchjaaDoorSq
namespace Go.Proofs.YthclkdplihchjaaDoor.P
open Go.RowKit Go.Proofs.YthclkdplihchjaaDoorW.PrintWords Go.Proofs.YthclkdplihchjaaDoorW.PrintLast Go.Proofs.YthclkdplihchjaaDoorW.PrintMore
attribute [local go_sem] str_gtr str_leq str_geq max2_int min2_int max_two min_two max_three min_three max_four min_four   -- for this text's walks alone
set_option linter.unusedVariables false
set_option linter.unusedSimpArgs false

/-! ### stockyardlaw03_PatternNarrows: function 4 -/
mutual
def stockyardlaw03_PatternNarrows.j0 : Nat → List (S28) → Bool → List ByteArray → Bool → List ByteArray → Bool → Option (Bool)
  | 0, _, _, _, _, _, _ => none
  | k + 1, x2, x28, x377000, x377001, x378000, x378001 => if x28 = true then ((stockyardlaw03_awake.f k).bind fun t380 => (some t380)) else (stockyardlaw03_PatternNarrows.l0 k x2 x2 (x2.length : Int) 0 x377000 x377001 x378000 x378001)
def stockyardlaw03_PatternNarrows.l0 : Nat → List (S28) → List (S28) → Int → Int → List ByteArray → Bool → List ByteArray → Bool → Option (Bool)
  | 0, _, _, _, _, _, _, _, _ => none
  | k + 1, x2, x30, x31, x32, x377000, x377001, x378000, x378001 => if x32 < x31 then (if 0 ≤ x32 then (if x32 < (x30.length : Int) then ((stockyardlaw03_small.f k ((rd_T28 x30 x32).f0) false).bind fun t383 => (if t383 = true then (stockyardlaw03_PatternNarrows.l0 k x2 x30 x31 (wrap64 (x32 + 1)) x377000 x377001 x378000 x378001) else ((stockyardlaw03_awake.f k).bind fun t384 => (some t384)))) else (none)) else (none)) else ((pattern_Bind.f k x377000 x377001 x378000 x378001).bind fun bt385 => ((pattern_Within.f k x378000 x378001 x377000 x377001).bind fun t389 => (if (bt385.2 != t389) = true then (some false) else (if bt385.2 = true then ((pattern_Substitute.f k x377000 x377001 bt385.1).bind fun bt390 => (if bt390.2.2 = 0 then (if (bt390.2.1 != x378001) = true then (some false) else ((stockyardlaw03_equal.f k bt390.1 x378000).bind fun t396 => (if t396 = true then (stockyardlaw03_PatternNarrows.j2 k x2 x377000 x377001) else (some false)))) else (some false))) else (stockyardlaw03_PatternNarrows.j2 k x2 x377000 x377001)))))
def stockyardlaw03_PatternNarrows.j2 : Nat → List (S28) → List ByteArray → Bool → Option (Bool)
  | 0, _, _, _ => none
  | k + 1, x2, x377000, x377001 => (pattern_Substitute.f k x377000 x377001 x2).bind fun bt397 => (if bt397.2.2 = 0 then ((pattern_Bind.f k x377000 x377001 bt397.1 bt397.2.1).bind fun bt404 => (if bt404.2 = true then (if (bt404.1.length : Int) = (x2.length : Int) then ((pattern_Within.f k bt397.1 bt397.2.1 x377000 x377001).bind fun t408 => (stockyardlaw03_PatternNarrows.j3 k x2 bt404.1 (!t408))) else (stockyardlaw03_PatternNarrows.j3 k x2 bt404.1 true)) else (stockyardlaw03_PatternNarrows.j3 k x2 bt404.1 true))) else ((stockyardlaw03_awake.f k).bind fun t403 => (some t403)))
def stockyardlaw03_PatternNarrows.j3 : Nat → List (S28) → List (S28) → Bool → Option (Bool)
  | 0, _, _, _ => none
  | k + 1, x2, x9, x107 => if x107 = true then (some false) else (stockyardlaw03_PatternNarrows.l1 k x2 x9 (x2.length : Int) 0)
def stockyardlaw03_PatternNarrows.l1 : Nat → List (S28) → List (S28) → Int → Int → Option (Bool)
  | 0, _, _, _, _ => none
  | k + 1, x2, x9, x109, x110 => if x110 < x109 then (if 0 ≤ x110 then (if x110 < (x9.length : Int) then (if x110 < (x2.length : Int) then (if (((rd_T28 x9 x110).f1) != ((rd_T28 x2 x110).f1)) = true then (some false) else ((stockyardlaw03_equal.f k ((rd_T28 x9 x110).f0) ((rd_T28 x2 x110).f0)).bind fun t413 => (if t413 = true then (stockyardlaw03_PatternNarrows.l1 k x2 x9 x109 (wrap64 (x110 + 1))) else (some false)))) else (none)) else (none)) else (none)) else ((stockyardlaw03_awake.f k).bind fun t414 => (some t414))
end
def stockyardlaw03_PatternNarrows.f (k : Nat) (l0_0 : List ByteArray) (a0_1 : Bool) (l1_0 : List ByteArray) (a1_1 : Bool) (l2 : List (S28)) : Option (Bool) := (stockyardlaw03_small.f k l0_0 a0_1).bind fun t378 => (if t378 = true then ((stockyardlaw03_small.f k l1_0 a1_1).bind fun t379 => (if t379 = true then (stockyardlaw03_PatternNarrows.j0 k l2 (decide ((l2.length : Int) > 20)) l0_0 a0_1 l1_0 a1_1) else (stockyardlaw03_PatternNarrows.j0 k l2 true l0_0 a0_1 l1_0 a1_1))) else (stockyardlaw03_PatternNarrows.j0 k l2 true l0_0 a0_1 l1_0 a1_1))
theorem stockyardlaw03_PatternNarrows.mono_l : ∀ k, (∀ y0 y1 y2 y3 y4 y5, LeO (stockyardlaw03_PatternNarrows.j0 k y0 y1 y2 y3 y4 y5) (stockyardlaw03_PatternNarrows.j0 (k + 1) y0 y1 y2 y3 y4 y5)) ∧ (∀ y0 y1 y2 y3 y4 y5 y6 y7, LeO (stockyardlaw03_PatternNarrows.l0 k y0 y1 y2 y3 y4 y5 y6 y7) (stockyardlaw03_PatternNarrows.l0 (k + 1) y0 y1 y2 y3 y4 y5 y6 y7)) ∧ (∀ y0 y1 y2, LeO (stockyardlaw03_PatternNarrows.j2 k y0 y1 y2) (stockyardlaw03_PatternNarrows.j2 (k + 1) y0 y1 y2)) ∧ (∀ y0 y1 y2, LeO (stockyardlaw03_PatternNarrows.j3 k y0 y1 y2) (stockyardlaw03_PatternNarrows.j3 (k + 1) y0 y1 y2)) ∧ (∀ y0 y1 y2 y3, LeO (stockyardlaw03_PatternNarrows.l1 k y0 y1 y2 y3) (stockyardlaw03_PatternNarrows.l1 (k + 1) y0 y1 y2 y3))
  | 0 => ⟨fun _ _ _ _ _ _ r h => by simp [stockyardlaw03_PatternNarrows.j0] at h, fun _ _ _ _ _ _ _ _ r h => by simp [stockyardlaw03_PatternNarrows.l0] at h, fun _ _ _ r h => by simp [stockyardlaw03_PatternNarrows.j2] at h, fun _ _ _ r h => by simp [stockyardlaw03_PatternNarrows.j3] at h, fun _ _ _ _ r h => by simp [stockyardlaw03_PatternNarrows.l1] at h⟩
  | k + 1 => by
    obtain ⟨ih0, ih1, ih2, ih3, ih4⟩ := stockyardlaw03_PatternNarrows.mono_l k
    refine ⟨?_, ?_, ?_, ?_, ?_⟩
    · intro y0 y1 y2 y3 y4 y5
      unfold stockyardlaw03_PatternNarrows.j0
      repeat' first
      | (with_reducible exact ih0 _ _ _ _ _ _)
      | (with_reducible exact ih1 _ _ _ _ _ _ _ _)
      | (with_reducible exact ih2 _ _ _)
      | (with_reducible exact ih3 _ _ _)
      | (with_reducible exact ih4 _ _ _ _)
      | (with_reducible exact pattern_Bind.mono _ _ _ _ _)
      | (with_reducible exact pattern_Substitute.mono _ _ _ _)
      | (with_reducible exact pattern_Within.mono _ _ _ _ _)
      | (with_reducible exact stockyardlaw03_awake.mono _)
      | (with_reducible exact stockyardlaw03_equal.mono _ _ _)
      | (with_reducible exact stockyardlaw03_small.mono _ _ _)
      | (with_reducible exact LeO.refl _)
      | (with_reducible exact LeO.none _)
      | (with_reducible refine LeO.ite ?_ ?_)
      | (with_reducible refine LeO.bind ?_ (fun _ => ?_))
      | exact ih0 _ _ _ _ _ _
      | exact ih1 _ _ _ _ _ _ _ _
      | exact ih2 _ _ _
      | exact ih3 _ _ _
      | exact ih4 _ _ _ _
      | exact pattern_Bind.mono _ _ _ _ _
      | exact pattern_Substitute.mono _ _ _ _
      | exact pattern_Within.mono _ _ _ _ _
      | exact stockyardlaw03_awake.mono _
      | exact stockyardlaw03_equal.mono _ _ _
      | exact stockyardlaw03_small.mono _ _ _
      | exact LeO.none _
      | refine LeO.ite ?_ ?_
      | refine LeO.bind ?_ (fun _ => ?_)
    · intro y0 y1 y2 y3 y4 y5 y6 y7
      unfold stockyardlaw03_PatternNarrows.l0
      repeat' first
      | (with_reducible exact ih0 _ _ _ _ _ _)
      | (with_reducible exact ih1 _ _ _ _ _ _ _ _)
      | (with_reducible exact ih2 _ _ _)
      | (with_reducible exact ih3 _ _ _)
      | (with_reducible exact ih4 _ _ _ _)
      | (with_reducible exact pattern_Bind.mono _ _ _ _ _)
      | (with_reducible exact pattern_Substitute.mono _ _ _ _)
      | (with_reducible exact pattern_Within.mono _ _ _ _ _)
      | (with_reducible exact stockyardlaw03_awake.mono _)
      | (with_reducible exact stockyardlaw03_equal.mono _ _ _)
      | (with_reducible exact stockyardlaw03_small.mono _ _ _)
      | (with_reducible exact LeO.refl _)
      | (with_reducible exact LeO.none _)
      | (with_reducible refine LeO.ite ?_ ?_)
      | (with_reducible refine LeO.bind ?_ (fun _ => ?_))
      | exact ih0 _ _ _ _ _ _
      | exact ih1 _ _ _ _ _ _ _ _
      | exact ih2 _ _ _
      | exact ih3 _ _ _
      | exact ih4 _ _ _ _
      | exact pattern_Bind.mono _ _ _ _ _
      | exact pattern_Substitute.mono _ _ _ _
      | exact pattern_Within.mono _ _ _ _ _
      | exact stockyardlaw03_awake.mono _
      | exact stockyardlaw03_equal.mono _ _ _
      | exact stockyardlaw03_small.mono _ _ _
      | exact LeO.none _
      | refine LeO.ite ?_ ?_
      | refine LeO.bind ?_ (fun _ => ?_)
    · intro y0 y1 y2
      unfold stockyardlaw03_PatternNarrows.j2
      repeat' first
      | (with_reducible exact ih0 _ _ _ _ _ _)
      | (with_reducible exact ih1 _ _ _ _ _ _ _ _)
      | (with_reducible exact ih2 _ _ _)
      | (with_reducible exact ih3 _ _ _)
      | (with_reducible exact ih4 _ _ _ _)
      | (with_reducible exact pattern_Bind.mono _ _ _ _ _)
      | (with_reducible exact pattern_Substitute.mono _ _ _ _)
      | (with_reducible exact pattern_Within.mono _ _ _ _ _)
      | (with_reducible exact stockyardlaw03_awake.mono _)
      | (with_reducible exact stockyardlaw03_equal.mono _ _ _)
      | (with_reducible exact stockyardlaw03_small.mono _ _ _)
      | (with_reducible exact LeO.refl _)
      | (with_reducible exact LeO.none _)
      | (with_reducible refine LeO.ite ?_ ?_)
      | (with_reducible refine LeO.bind ?_ (fun _ => ?_))
      | exact ih0 _ _ _ _ _ _
      | exact ih1 _ _ _ _ _ _ _ _
      | exact ih2 _ _ _
      | exact ih3 _ _ _
      | exact ih4 _ _ _ _
      | exact pattern_Bind.mono _ _ _ _ _
      | exact pattern_Substitute.mono _ _ _ _
      | exact pattern_Within.mono _ _ _ _ _
      | exact stockyardlaw03_awake.mono _
      | exact stockyardlaw03_equal.mono _ _ _
      | exact stockyardlaw03_small.mono _ _ _
      | exact LeO.none _
      | refine LeO.ite ?_ ?_
      | refine LeO.bind ?_ (fun _ => ?_)
    · intro y0 y1 y2
      unfold stockyardlaw03_PatternNarrows.j3
      repeat' first
      | (with_reducible exact ih0 _ _ _ _ _ _)
      | (with_reducible exact ih1 _ _ _ _ _ _ _ _)
      | (with_reducible exact ih2 _ _ _)
      | (with_reducible exact ih3 _ _ _)
      | (with_reducible exact ih4 _ _ _ _)
      | (with_reducible exact pattern_Bind.mono _ _ _ _ _)
      | (with_reducible exact pattern_Substitute.mono _ _ _ _)
      | (with_reducible exact pattern_Within.mono _ _ _ _ _)
      | (with_reducible exact stockyardlaw03_awake.mono _)
      | (with_reducible exact stockyardlaw03_equal.mono _ _ _)
      | (with_reducible exact stockyardlaw03_small.mono _ _ _)
      | (with_reducible exact LeO.refl _)
      | (with_reducible exact LeO.none _)
      | (with_reducible refine LeO.ite ?_ ?_)
      | (with_reducible refine LeO.bind ?_ (fun _ => ?_))
      | exact ih0 _ _ _ _ _ _
      | exact ih1 _ _ _ _ _ _ _ _
      | exact ih2 _ _ _
      | exact ih3 _ _ _
      | exact ih4 _ _ _ _
      | exact pattern_Bind.mono _ _ _ _ _
      | exact pattern_Substitute.mono _ _ _ _
      | exact pattern_Within.mono _ _ _ _ _
      | exact stockyardlaw03_awake.mono _
      | exact stockyardlaw03_equal.mono _ _ _
      | exact stockyardlaw03_small.mono _ _ _
      | exact LeO.none _
      | refine LeO.ite ?_ ?_
      | refine LeO.bind ?_ (fun _ => ?_)
    · intro y0 y1 y2 y3
      unfold stockyardlaw03_PatternNarrows.l1
      repeat' first
      | (with_reducible exact ih0 _ _ _ _ _ _)
      | (with_reducible exact ih1 _ _ _ _ _ _ _ _)
      | (with_reducible exact ih2 _ _ _)
      | (with_reducible exact ih3 _ _ _)
      | (with_reducible exact ih4 _ _ _ _)
      | (with_reducible exact pattern_Bind.mono _ _ _ _ _)
      | (with_reducible exact pattern_Substitute.mono _ _ _ _)
      | (with_reducible exact pattern_Within.mono _ _ _ _ _)
      | (with_reducible exact stockyardlaw03_awake.mono _)
      | (with_reducible exact stockyardlaw03_equal.mono _ _ _)
      | (with_reducible exact stockyardlaw03_small.mono _ _ _)
      | (with_reducible exact LeO.refl _)
      | (with_reducible exact LeO.none _)
      | (with_reducible refine LeO.ite ?_ ?_)
      | (with_reducible refine LeO.bind ?_ (fun _ => ?_))
      | exact ih0 _ _ _ _ _ _
      | exact ih1 _ _ _ _ _ _ _ _
      | exact ih2 _ _ _
      | exact ih3 _ _ _
      | exact ih4 _ _ _ _
      | exact pattern_Bind.mono _ _ _ _ _
      | exact pattern_Substitute.mono _ _ _ _
      | exact pattern_Within.mono _ _ _ _ _
      | exact stockyardlaw03_awake.mono _
      | exact stockyardlaw03_equal.mono _ _ _
      | exact stockyardlaw03_small.mono _ _ _
      | exact LeO.none _
      | refine LeO.ite ?_ ?_
      | refine LeO.bind ?_ (fun _ => ?_)
theorem stockyardlaw03_PatternNarrows.mono : ∀ a0 a1 a2 a3 a4 k, LeO (stockyardlaw03_PatternNarrows.f k a0 a1 a2 a3 a4) (stockyardlaw03_PatternNarrows.f (k + 1) a0 a1 a2 a3 a4) := by
  intro a0 a1 a2 a3 a4 k
  obtain ⟨ih0, ih1, ih2, ih3, ih4⟩ := stockyardlaw03_PatternNarrows.mono_l k
  unfold stockyardlaw03_PatternNarrows.f
  repeat' first
      | (with_reducible exact ih0 _ _ _ _ _ _)
      | (with_reducible exact ih1 _ _ _ _ _ _ _ _)
      | (with_reducible exact ih2 _ _ _)
      | (with_reducible exact ih3 _ _ _)
      | (with_reducible exact ih4 _ _ _ _)
      | (with_reducible exact pattern_Bind.mono _ _ _ _ _)
      | (with_reducible exact pattern_Substitute.mono _ _ _ _)
      | (with_reducible exact pattern_Within.mono _ _ _ _ _)
      | (with_reducible exact stockyardlaw03_awake.mono _)
      | (with_reducible exact stockyardlaw03_equal.mono _ _ _)
      | (with_reducible exact stockyardlaw03_small.mono _ _ _)
      | (with_reducible exact LeO.refl _)
      | (with_reducible exact LeO.none _)
      | (with_reducible refine LeO.ite ?_ ?_)
      | (with_reducible refine LeO.bind ?_ (fun _ => ?_))
      | exact ih0 _ _ _ _ _ _
      | exact ih1 _ _ _ _ _ _ _ _
      | exact ih2 _ _ _
      | exact ih3 _ _ _
      | exact ih4 _ _ _ _
      | exact pattern_Bind.mono _ _ _ _ _
      | exact pattern_Substitute.mono _ _ _ _
      | exact pattern_Within.mono _ _ _ _ _
      | exact stockyardlaw03_awake.mono _
      | exact stockyardlaw03_equal.mono _ _ _
      | exact stockyardlaw03_small.mono _ _ _
      | exact LeO.none _
      | refine LeO.ite ?_ ?_
      | refine LeO.bind ?_ (fun _ => ?_)
set_option maxHeartbeats 8000000 in
set_option maxRecDepth 100000 in
theorem stockyardlaw03_PatternNarrows.calls (k : Nat) (A0_0 : Option Addr) (c0_0 : Nat) (l0_0 : List ByteArray) (a0_1 : Bool) (A1_0 : Option Addr) (c1_0 : Nat) (l1_0 : List ByteArray) (a1_1 : Bool) (A2 : Option Addr) (c2 : Nat) (l2 : List (S28)) (r : Bool) (w : World) (hr0_0 : Kd.C Kd.string w A0_0 l0_0.length l0_0) (hc0_0 : l0_0.length ≤ c0_0) (hr1_0 : Kd.C Kd.string w A1_0 l1_0.length l1_0) (hc1_0 : l1_0.length ≤ c1_0) (hr2 : Kd.C k28 w A2 l2.length l2) (hc2 : l2.length ≤ c2) (h : stockyardlaw03_PatternNarrows.f k l0_0 a0_1 l1_0 a1_1 l2 = some r) :
    Calls Tryd.prog 4 #[.agg #[.slice A0_0 l0_0.length c0_0, .bool a0_1], .agg #[.slice A1_0 l1_0.length c1_0, .bool a1_1], .slice A2 l2.length c2] w fun e w' => e = .returned (.bool r) ∧ Below w.heap.size w w' := by
  have hu24 := Tryd.underlying24
  have hu28 := Tryd.underlying28
  have HR0_0 := Aside0.mk hr0_0
  have HC0_0 := Aside0.mk hc0_0
  clear hr0_0 hc0_0
  have HR1_0 := Aside0.mk hr1_0
  have HC1_0 := Aside0.mk hc1_0
  clear hr1_0 hc1_0
  have HR2 := Aside0.mk hr2
  have HC2 := Aside0.mk hc2
  clear hr2 hc2
  have HB := Aside0.mk (Below.refl w.heap.size w)
  have H : ((stockyardlaw03_small.f k l0_0 a0_1).bind fun t378 => (if t378 = true then ((stockyardlaw03_small.f k l1_0 a1_1).bind fun t379 => (if t379 = true then (stockyardlaw03_PatternNarrows.j0 k l2 (decide ((l2.length : Int) > 20)) l0_0 a0_1 l1_0 a1_1) else (stockyardlaw03_PatternNarrows.j0 k l2 true l0_0 a0_1 l1_0 a1_1))) else (stockyardlaw03_PatternNarrows.j0 k l2 true l0_0 a0_1 l1_0 a1_1))) = some r := h
  clear h
  have HC4 := Aside0.mk H
  clear H
  go_enter Tryd.func4, Tryd.ntmps4
  go_upto_region 1 with (first | ((with_reducible refine gate_dst (N := 3) rfl ?_); (try (refine gate_guard (by rfl) ?_; dsimp only)); refine box_event ?hg (N := 3) ?hd (cs := #[.slice A0_0 l0_0.length c0_0, .bool a0_1]) (t := 24) ?hr ?_; (case hd => rfl); (case hg => rfl); (case hr => first | (go_simp; done) | (go_simp; rfl)); intro gb376 hg w5 hbox hb; have BK376 := Aside0.mk hbox; have GW376 := gw_ HB hg; have GE376 := gw_ HB hg; replace HB := hs_ HB hb; clear hb hbox hg) | ((with_reducible refine gate_dst (N := 4) rfl ?_); (try (refine gate_guard (by rfl) ?_; dsimp only)); refine box_event ?hg (N := 4) ?hd (cs := #[.slice A1_0 l1_0.length c1_0, .bool a1_1]) (t := 24) ?hr ?_; (case hd => rfl); (case hg => rfl); (case hr => first | (go_simp; done) | (go_simp; rfl)); intro gb377 hg w6 hbox hb; have BK377 := Aside0.mk hbox; have GW377 := gw_ HB hg; have GE377 := gw_ HB hg; have NB376_377 := nl_ BK376 hg; have NB377_376 := nr_ BK376 hg; replace BK376 := bb_ BK376 hb; replace HB := hs_ HB hb; clear hb hbox hg))
  repeat (go_quiet (first | ((with_reducible refine gate_dst (N := 3) rfl ?_); (try (refine gate_guard (by rfl) ?_; dsimp only)); refine box_event ?hg (N := 3) ?hd (cs := #[.slice A0_0 l0_0.length c0_0, .bool a0_1]) (t := 24) ?hr ?_; (case hd => rfl); (case hg => rfl); (case hr => first | (go_simp; done) | (go_simp; rfl)); intro gb376 hg w5 hbox hb; have BK376 := Aside0.mk hbox; have GW376 := gw_ HB hg; have GE376 := gw_ HB hg; replace HB := hs_ HB hb; clear hb hbox hg) | ((with_reducible refine gate_dst (N := 4) rfl ?_); (try (refine gate_guard (by rfl) ?_; dsimp only)); refine box_event ?hg (N := 4) ?hd (cs := #[.slice A1_0 l1_0.length c1_0, .bool a1_1]) (t := 24) ?hr ?_; (case hd => rfl); (case hg => rfl); (case hr => first | (go_simp; done) | (go_simp; rfl)); intro gb377 hg w6 hbox hb; have BK377 := Aside0.mk hbox; have GW377 := gw_ HB hg; have GE377 := gw_ HB hg; have NB376_377 := nl_ BK376 hg; have NB377_376 := nr_ BK376 hg; replace BK376 := bb_ BK376 hb; replace HB := hs_ HB hb; clear hb hbox hg)); go_upto_region 1 with (first | ((with_reducible refine gate_dst (N := 3) rfl ?_); (try (refine gate_guard (by rfl) ?_; dsimp only)); refine box_event ?hg (N := 3) ?hd (cs := #[.slice A0_0 l0_0.length c0_0, .bool a0_1]) (t := 24) ?hr ?_; (case hd => rfl); (case hg => rfl); (case hr => first | (go_simp; done) | (go_simp; rfl)); intro gb376 hg w5 hbox hb; have n0_ := Aside0.mk (below_step hb_ hb); have n1_ := Aside0.mk (hbox); have n2_ := Aside0.mk ((by rw [hg]; exact (below_size hb_) : w.heap.size ≤ gb376)); have n3_ := Aside0.mk ((by rw [hg]; exact (below_size hb_) : w.heap.size ≤ gb376)); clear HB; have HB := n0_; have BK376 := n1_; have GW376 := n2_; have GE376 := n3_; clear n0_ n1_ n2_ n3_; clear hb hbox hg) | ((with_reducible refine gate_dst (N := 4) rfl ?_); (try (refine gate_guard (by rfl) ?_; dsimp only)); refine box_event ?hg (N := 4) ?hd (cs := #[.slice A1_0 l1_0.length c1_0, .bool a1_1]) (t := 24) ?hr ?_; (case hd => rfl); (case hg => rfl); (case hr => first | (go_simp; done) | (go_simp; rfl)); intro gb377 hg w6 hbox hb; have n0_ := Aside0.mk (blk_below (g := gb376) (o := .cells #[.slice A0_0 l0_0.length c0_0, .bool a0_1] 24 (0, 0)) bk_ hb); have n1_ := Aside0.mk (below_step hb_ hb); have n2_ := Aside0.mk (hbox); have n3_ := Aside0.mk ((by rw [hg]; exact (below_size hb_) : w.heap.size ≤ gb377)); have n4_ := Aside0.mk ((by rw [hg]; exact (below_size hb_) : w.heap.size ≤ gb377)); have n5_ := Aside0.mk ((by rw [hg]; exact Nat.ne_of_lt (blk_lt (g := gb376) (o := .cells #[.slice A0_0 l0_0.length c0_0, .bool a0_1] 24 (0, 0)) bk_) : gb376 ≠ gb377)); have n6_ := Aside0.mk ((by rw [hg]; exact Nat.ne_of_gt (blk_lt (g := gb376) (o := .cells #[.slice A0_0 l0_0.length c0_0, .bool a0_1] 24 (0, 0)) bk_) : gb377 ≠ gb376)); clear BK376; clear HB; have BK376 := n0_; have HB := n1_; have BK377 := n2_; have GW377 := n3_; have GE377 := n4_; have NB376_377 := n5_; have NB377_376 := n6_; clear n0_ n1_ n2_ n3_ n4_ n5_ n6_; clear hb hbox hg)))
  (try simp only [Act.put, List.setIfInBounds_toArray, List.set_cons_zero, List.set_cons_succ])
  go_cut [28] (fun v28 wc => ∃ (kq : Nat) (x28_3 : Bool), v28 = .bool x28_3 ∧ Aside0 (stockyardlaw03_PatternNarrows.j0 kq l2 x28_3 l0_0 a0_1 l1_0 a1_1 = some r) ∧ Aside0 (kq ≤ k) ∧ Aside0 (wc.heap[gb376]? = some (.cells #[(.slice A0_0 l0_0.length c0_0), .bool a0_1] 24 (0, 0))) ∧ Aside0 (wc.heap[gb377]? = some (.cells #[(.slice A1_0 l1_0.length c1_0), .bool a1_1] 24 (0, 0))) ∧ Aside0 (Below w.heap.size w wc))
  case first =>
    have H := HC4.out
    clear HC4
    replace H := Option.bind_eq_some_iff.mp H
    obtain ⟨t378, A70, H⟩ := H
    replace H : (if t378 = true then ((stockyardlaw03_small.f k l1_0 a1_1).bind fun t379 => (if t379 = true then (stockyardlaw03_PatternNarrows.j0 k l2 (decide ((l2.length : Int) > 20)) l0_0 a0_1 l1_0 a1_1) else (stockyardlaw03_PatternNarrows.j0 k l2 true l0_0 a0_1 l1_0 a1_1))) else (stockyardlaw03_PatternNarrows.j0 k l2 true l0_0 a0_1 l1_0 a1_1)) = some r := H
    have A7 := Aside0.mk A70
    clear A70
    by_cases c8 : t378 = true
    · subst c8
      have H1 : ((stockyardlaw03_small.f k l1_0 a1_1).bind fun t379 => (if t379 = true then (stockyardlaw03_PatternNarrows.j0 k l2 (decide ((l2.length : Int) > 20)) l0_0 a0_1 l1_0 a1_1) else (stockyardlaw03_PatternNarrows.j0 k l2 true l0_0 a0_1 l1_0 a1_1))) = some r := by rw [if_pos rfl] at H; exact H
      clear H
      have H := H1
      clear H1
      replace H := Option.bind_eq_some_iff.mp H
      obtain ⟨t379, A90, H⟩ := H
      replace H : (if t379 = true then (stockyardlaw03_PatternNarrows.j0 k l2 (decide ((l2.length : Int) > 20)) l0_0 a0_1 l1_0 a1_1) else (stockyardlaw03_PatternNarrows.j0 k l2 true l0_0 a0_1 l1_0 a1_1)) = some r := H
      have A9 := Aside0.mk A90
      clear A90
      by_cases c10 : t379 = true
      · subst c10
        have H1 : (stockyardlaw03_PatternNarrows.j0 k l2 (decide ((l2.length : Int) > 20)) l0_0 a0_1 l1_0 a1_1) = some r := by rw [if_pos rfl] at H; exact H
        clear H
        have H := H1
        clear H1
        have H' := Aside0.mk H
        clear H
        have hnb11 := NB376_377.out
        have hnc11 := NB377_376.out
        obtain ⟨hcz12_0, hcz12_1, hfz12_0, hfz12_1⟩ := c2_ BK376
        go_wp2_with (first | (go_at_call 13; (with_reducible refine (stockyardlaw03_small.calls k _ _ l0_0 a0_1 true _ ?side1 ?side2 A7.out).mono ?_); (case side1 => exact sd_); (case side2 => exact HC0_0.out); rintro e w13 ⟨rfl, hb⟩; replace BK376 := bb_ BK376 hb; replace BK377 := bb_ BK377 hb; replace HB := hs_ HB hb; (try clear hb); (try clear hb2); (try clear hk); (try clear hi); obtain ⟨hcz14_0, hcz14_1, hfz14_0, hfz14_1⟩ := c2_ BK377) | (go_at_call 13; (with_reducible refine (stockyardlaw03_small.calls k _ _ l1_0 a1_1 true _ ?side1 ?side2 A9.out).mono ?_); (case side1 => exact sd_); (case side2 => exact HC1_0.out); rintro e w15 ⟨rfl, hb⟩; replace BK376 := bb_ BK376 hb; replace BK377 := bb_ BK377 hb; replace HB := hs_ HB hb; (try clear hb); (try clear hb2); (try clear hk); (try clear hi)))
        repeat (go_quiet (first | (go_at_call 13; (with_reducible refine (stockyardlaw03_small.calls k _ _ l0_0 a0_1 true _ ?side1 ?side2 A7.out).mono ?_); (case side1 => exact sd_); (case side2 => exact HC0_0.out); rintro e w13 ⟨rfl, hb⟩; replace BK376 := bb_ BK376 hb; replace BK377 := bb_ BK377 hb; replace HB := hs_ HB hb; (try clear hb); (try clear hb2); (try clear hk); (try clear hi); obtain ⟨hcz14_0, hcz14_1, hfz14_0, hfz14_1⟩ := c2_ BK377) | (go_at_call 13; (with_reducible refine (stockyardlaw03_small.calls k _ _ l1_0 a1_1 true _ ?side1 ?side2 A9.out).mono ?_); (case side1 => exact sd_); (case side2 => exact HC1_0.out); rintro e w15 ⟨rfl, hb⟩; replace BK376 := bb_ BK376 hb; replace BK377 := bb_ BK377 hb; replace HB := hs_ HB hb; (try clear hb); (try clear hb2); (try clear hk); (try clear hi))); try go_wp2_with (first | (go_at_call 13; (with_reducible refine (stockyardlaw03_small.calls k _ _ l0_0 a0_1 true _ ?side1 ?side2 A7.out).mono ?_); (case side1 => exact sd_); (case side2 => exact HC0_0.out); rintro e w13 ⟨rfl, hb⟩; have n0_ := Aside0.mk (blk_below (g := gb376) (o := .cells #[.slice A0_0 l0_0.length c0_0, .bool a0_1] 24 (0, 0)) bk_ hb); have n1_ := Aside0.mk (blk_below (g := gb377) (o := .cells #[.slice A1_0 l1_0.length c1_0, .bool a1_1] 24 (0, 0)) bk_ hb); have n2_ := Aside0.mk (below_step hb_ hb); clear BK376; clear BK377; clear HB; have BK376 := n0_; have BK377 := n1_; have HB := n2_; clear n0_ n1_ n2_; (try clear hb); (try clear hb2); (try clear hk); (try clear hi); have hcz14_0 : w13.cell? ⟨gb377, 0, none⟩ = some (.slice A1_0 l1_0.length c1_0) := (blk_cell BK377.out 0).trans rfl; have hcz14_1 : w13.cell? ⟨gb377, 1, none⟩ = some (.bool a1_1) := (blk_cell BK377.out 1).trans rfl; have hfz14_0 := blk_frozen BK377.out 0; have hfz14_1 := blk_frozen BK377.out 1) | (go_at_call 13; (with_reducible refine (stockyardlaw03_small.calls k _ _ l1_0 a1_1 true _ ?side1 ?side2 A9.out).mono ?_); (case side1 => exact sd_); (case side2 => exact HC1_0.out); rintro e w15 ⟨rfl, hb⟩; have n0_ := Aside0.mk (blk_below (g := gb376) (o := .cells #[.slice A0_0 l0_0.length c0_0, .bool a0_1] 24 (0, 0)) bk_ hb); have n1_ := Aside0.mk (blk_below (g := gb377) (o := .cells #[.slice A1_0 l1_0.length c1_0, .bool a1_1] 24 (0, 0)) bk_ hb); have n2_ := Aside0.mk (below_step hb_ hb); clear BK376; clear BK377; clear HB; have BK376 := n0_; have BK377 := n1_; have HB := n2_; clear n0_ n1_ n2_; (try clear hb); (try clear hb2); (try clear hk); (try clear hi))))
        go_meet
        case rel => exact ⟨_, (decide ((l2.length : Int) > 20)), (by first | rfl | (simp; done) | (simp [*]; done)), H', ⟨by first | omega | exact Nat.le_refl _⟩, ⟨bk_⟩, ⟨bk_⟩, ⟨hb_⟩⟩
      · replace c10 := Bool.eq_false_iff.mpr c10
        subst c10
        have H1 : (stockyardlaw03_PatternNarrows.j0 k l2 true l0_0 a0_1 l1_0 a1_1) = some r := by rw [if_neg (show ¬ (false = true) by decide)] at H; exact H
        clear H
        have H := H1
        clear H1
        have H' := Aside0.mk H
        clear H
        have hnb16 := NB376_377.out
        have hnc16 := NB377_376.out
        obtain ⟨hcz17_0, hcz17_1, hfz17_0, hfz17_1⟩ := c2_ BK376
        go_wp2_with (first | (go_at_call 13; (with_reducible refine (stockyardlaw03_small.calls k _ _ l0_0 a0_1 true _ ?side1 ?side2 A7.out).mono ?_); (case side1 => exact sd_); (case side2 => exact HC0_0.out); rintro e w18 ⟨rfl, hb⟩; replace BK376 := bb_ BK376 hb; replace BK377 := bb_ BK377 hb; replace HB := hs_ HB hb; (try clear hb); (try clear hb2); (try clear hk); (try clear hi); obtain ⟨hcz19_0, hcz19_1, hfz19_0, hfz19_1⟩ := c2_ BK377) | (go_at_call 13; (with_reducible refine (stockyardlaw03_small.calls k _ _ l1_0 a1_1 false _ ?side1 ?side2 A9.out).mono ?_); (case side1 => exact sd_); (case side2 => exact HC1_0.out); rintro e w20 ⟨rfl, hb⟩; replace BK376 := bb_ BK376 hb; replace BK377 := bb_ BK377 hb; replace HB := hs_ HB hb; (try clear hb); (try clear hb2); (try clear hk); (try clear hi)))
        repeat (go_quiet (first | (go_at_call 13; (with_reducible refine (stockyardlaw03_small.calls k _ _ l0_0 a0_1 true _ ?side1 ?side2 A7.out).mono ?_); (case side1 => exact sd_); (case side2 => exact HC0_0.out); rintro e w18 ⟨rfl, hb⟩; replace BK376 := bb_ BK376 hb; replace BK377 := bb_ BK377 hb; replace HB := hs_ HB hb; (try clear hb); (try clear hb2); (try clear hk); (try clear hi); obtain ⟨hcz19_0, hcz19_1, hfz19_0, hfz19_1⟩ := c2_ BK377) | (go_at_call 13; (with_reducible refine (stockyardlaw03_small.calls k _ _ l1_0 a1_1 false _ ?side1 ?side2 A9.out).mono ?_); (case side1 => exact sd_); (case side2 => exact HC1_0.out); rintro e w20 ⟨rfl, hb⟩; replace BK376 := bb_ BK376 hb; replace BK377 := bb_ BK377 hb; replace HB := hs_ HB hb; (try clear hb); (try clear hb2); (try clear hk); (try clear hi))); try go_wp2_with (first | (go_at_call 13; (with_reducible refine (stockyardlaw03_small.calls k _ _ l0_0 a0_1 true _ ?side1 ?side2 A7.out).mono ?_); (case side1 => exact sd_); (case side2 => exact HC0_0.out); rintro e w18 ⟨rfl, hb⟩; have n0_ := Aside0.mk (blk_below (g := gb376) (o := .cells #[.slice A0_0 l0_0.length c0_0, .bool a0_1] 24 (0, 0)) bk_ hb); have n1_ := Aside0.mk (blk_below (g := gb377) (o := .cells #[.slice A1_0 l1_0.length c1_0, .bool a1_1] 24 (0, 0)) bk_ hb); have n2_ := Aside0.mk (below_step hb_ hb); clear BK376; clear BK377; clear HB; have BK376 := n0_; have BK377 := n1_; have HB := n2_; clear n0_ n1_ n2_; (try clear hb); (try clear hb2); (try clear hk); (try clear hi); have hcz19_0 : w18.cell? ⟨gb377, 0, none⟩ = some (.slice A1_0 l1_0.length c1_0) := (blk_cell BK377.out 0).trans rfl; have hcz19_1 : w18.cell? ⟨gb377, 1, none⟩ = some (.bool a1_1) := (blk_cell BK377.out 1).trans rfl; have hfz19_0 := blk_frozen BK377.out 0; have hfz19_1 := blk_frozen BK377.out 1) | (go_at_call 13; (with_reducible refine (stockyardlaw03_small.calls k _ _ l1_0 a1_1 false _ ?side1 ?side2 A9.out).mono ?_); (case side1 => exact sd_); (case side2 => exact HC1_0.out); rintro e w20 ⟨rfl, hb⟩; have n0_ := Aside0.mk (blk_below (g := gb376) (o := .cells #[.slice A0_0 l0_0.length c0_0, .bool a0_1] 24 (0, 0)) bk_ hb); have n1_ := Aside0.mk (blk_below (g := gb377) (o := .cells #[.slice A1_0 l1_0.length c1_0, .bool a1_1] 24 (0, 0)) bk_ hb); have n2_ := Aside0.mk (below_step hb_ hb); clear BK376; clear BK377; clear HB; have BK376 := n0_; have BK377 := n1_; have HB := n2_; clear n0_ n1_ n2_; (try clear hb); (try clear hb2); (try clear hk); (try clear hi))))
        go_meet
        case rel => exact ⟨_, (true), (by first | rfl | (simp; done) | (simp [*]; done)), H', ⟨by first | omega | exact Nat.le_refl _⟩, ⟨bk_⟩, ⟨bk_⟩, ⟨hb_⟩⟩
    · replace c8 := Bool.eq_false_iff.mpr c8
      subst c8
      have H1 : (stockyardlaw03_PatternNarrows.j0 k l2 true l0_0 a0_1 l1_0 a1_1) = some r := by rw [if_neg (show ¬ (false = true) by decide)] at H; exact H
      clear H
      have H := H1
      clear H1
      have H' := Aside0.mk H
      clear H
      have hnb21 := NB376_377.out
      have hnc21 := NB377_376.out
      obtain ⟨hcz22_0, hcz22_1, hfz22_0, hfz22_1⟩ := c2_ BK376
      go_wp2_with (first | (go_at_call 13; (with_reducible refine (stockyardlaw03_small.calls k _ _ l0_0 a0_1 false _ ?side1 ?side2 A7.out).mono ?_); (case side1 => exact sd_); (case side2 => exact HC0_0.out); rintro e w23 ⟨rfl, hb⟩; replace BK376 := bb_ BK376 hb; replace BK377 := bb_ BK377 hb; replace HB := hs_ HB hb; (try clear hb); (try clear hb2); (try clear hk); (try clear hi)))
      repeat (go_quiet (first | (go_at_call 13; (with_reducible refine (stockyardlaw03_small.calls k _ _ l0_0 a0_1 false _ ?side1 ?side2 A7.out).mono ?_); (case side1 => exact sd_); (case side2 => exact HC0_0.out); rintro e w23 ⟨rfl, hb⟩; replace BK376 := bb_ BK376 hb; replace BK377 := bb_ BK377 hb; replace HB := hs_ HB hb; (try clear hb); (try clear hb2); (try clear hk); (try clear hi))); try go_wp2_with (first | (go_at_call 13; (with_reducible refine (stockyardlaw03_small.calls k _ _ l0_0 a0_1 false _ ?side1 ?side2 A7.out).mono ?_); (case side1 => exact sd_); (case side2 => exact HC0_0.out); rintro e w23 ⟨rfl, hb⟩; have n0_ := Aside0.mk (blk_below (g := gb376) (o := .cells #[.slice A0_0 l0_0.length c0_0, .bool a0_1] 24 (0, 0)) bk_ hb); have n1_ := Aside0.mk (blk_below (g := gb377) (o := .cells #[.slice A1_0 l1_0.length c1_0, .bool a1_1] 24 (0, 0)) bk_ hb); have n2_ := Aside0.mk (below_step hb_ hb); clear BK376; clear BK377; clear HB; have BK376 := n0_; have BK377 := n1_; have HB := n2_; clear n0_ n1_ n2_; (try clear hb); (try clear hb2); (try clear hk); (try clear hi))))
      go_meet
      case rel => exact ⟨_, (true), (by first | rfl | (simp; done) | (simp [*]; done)), H', ⟨by first | omega | exact Nat.le_refl _⟩, ⟨bk_⟩, ⟨bk_⟩, ⟨hb_⟩⟩
  case rest =>
    clear HC4; (try clear c1); (try clear c2); (try clear p2); (try clear c4); (try clear c8); (try clear c10); (try clear c11); (try clear c16); (try clear c21); (try clear hcz12_0); (try clear hcz12_1); (try clear hcz14_0); (try clear hcz14_1); (try clear hcz17_0); (try clear hcz17_1); (try clear hcz19_0); (try clear hcz19_1); (try clear hcz22_0); (try clear hcz22_1); (try clear hfz12_0); (try clear hfz12_1); (try clear hfz14_0); (try clear hfz14_1); (try clear hfz17_0); (try clear hfz17_1); (try clear hfz19_0); (try clear hfz19_1); (try clear hfz22_0); (try clear hfz22_1)
    obtain ⟨kq, x28_3, rfl, HA, HJ3, BK376, BK377, HB⟩ := hcut
    cases kq with
    | zero => exact absurd HA.out (by simp [stockyardlaw03_PatternNarrows.j0])
    | succ kj3 =>
      have H := HA.out
      clear HA
      simp only [stockyardlaw03_PatternNarrows.j0] at H
      by_cases c24 : x28_3 = true
      · subst c24
        have H1 : ((stockyardlaw03_awake.f kj3).bind fun t380 => (some t380)) = some r := by rw [if_pos rfl] at H; exact H
        clear H
        have H := H1
        clear H1
        replace H := Option.bind_eq_some_iff.mp H
        obtain ⟨t380, A250, H⟩ := H
        replace H : (some t380) = some r := H
        have A25 := Aside0.mk A250
        clear A250
        obtain rfl := Option.some.inj H
        go_wp2_with (first | (go_at_call 14; (with_reducible refine (stockyardlaw03_awake.calls kj3  t380 _ A25.out).mono ?_); rintro e w26 ⟨rfl, hb⟩; replace BK376 := bb_ BK376 hb; replace BK377 := bb_ BK377 hb; replace HB := hs_ HB hb; (try clear hb); (try clear hb2); (try clear hk); (try clear hi)))
        repeat (go_quiet (first | (go_at_call 14; (with_reducible refine (stockyardlaw03_awake.calls kj3  t380 _ A25.out).mono ?_); rintro e w26 ⟨rfl, hb⟩; replace BK376 := bb_ BK376 hb; replace BK377 := bb_ BK377 hb; replace HB := hs_ HB hb; (try clear hb); (try clear hb2); (try clear hk); (try clear hi))); try go_wp2_with (first | (go_at_call 14; (with_reducible refine (stockyardlaw03_awake.calls kj3  t380 _ A25.out).mono ?_); rintro e w26 ⟨rfl, hb⟩; have n0_ := Aside0.mk (blk_below (g := gb376) (o := .cells #[.slice A0_0 l0_0.length c0_0, .bool a0_1] 24 (0, 0)) bk_ hb); have n1_ := Aside0.mk (blk_below (g := gb377) (o := .cells #[.slice A1_0 l1_0.length c1_0, .bool a1_1] 24 (0, 0)) bk_ hb); have n2_ := Aside0.mk (below_step hb_ hb); clear BK376; clear BK377; clear HB; have BK376 := n0_; have BK377 := n1_; have HB := n2_; clear n0_ n1_ n2_; (try clear hb); (try clear hb2); (try clear hk); (try clear hi))))
        go_ret
        exact ⟨rt_, hb_⟩
      · replace c24 := Bool.eq_false_iff.mpr c24
        subst c24
        have H1 : (stockyardlaw03_PatternNarrows.l0 kj3 l2 l2 (l2.length : Int) 0 l0_0 a0_1 l1_0 a1_1) = some r := by rw [if_neg (show ¬ (false = true) by decide)] at H; exact H
        clear H
        have H := H1
        clear H1
        have H' := Aside0.mk H
        clear H
        go_wp2
        repeat (go_quiet (fail); try go_wp2)
        go_loopg [32] kj3 (fun kq v32 w' => ∃ (x32_2 : Int), v32 = .int .i64 x32_2 ∧ Aside0 (stockyardlaw03_PatternNarrows.l0 kq l2 l2 (l2.length : Int) x32_2 l0_0 a0_1 l1_0 a1_1 = some r) ∧ Aside0 (kq ≤ kj3) ∧ Aside0 (w'.heap[gb376]? = some (.cells #[(.slice A0_0 l0_0.length c0_0), .bool a0_1] 24 (0, 0))) ∧ Aside0 (w'.heap[gb377]? = some (.cells #[(.slice A1_0 l1_0.length c1_0), .bool a1_1] 24 (0, 0))) ∧ Aside0 (Below w.heap.size w w'))
        case atStart => exact ⟨(0), (by first | rfl | (simp; done) | (simp [*]; done)), H', ⟨Nat.le_refl _⟩, ⟨bk_⟩, ⟨bk_⟩, ⟨hb_⟩⟩
        case round =>
          clear H'
          (try clear c1); (try clear c2); (try clear p2); (try clear c4); (try clear c8); (try clear c10); (try clear c11); (try clear c16); (try clear c21); (try clear c24); (try clear hcz12_0); (try clear hcz12_1); (try clear hcz14_0); (try clear hcz14_1); (try clear hcz17_0); (try clear hcz17_1); (try clear hcz19_0); (try clear hcz19_1); (try clear hcz22_0); (try clear hcz22_1); (try clear hfz12_0); (try clear hfz12_1); (try clear hfz14_0); (try clear hfz14_1); (try clear hfz17_0); (try clear hfz17_1); (try clear hfz19_0); (try clear hfz19_1); (try clear hfz22_0); (try clear hfz22_1); (try clear p2)
          obtain ⟨x32_2, rfl, HA, HK2, BK376, BK377, HB⟩ := hrel
          cases gk with
          | zero => exact absurd HA.out (by simp [stockyardlaw03_PatternNarrows.l0])
          | succ k2 =>
            have H := HA.out
            clear HA
            simp only [stockyardlaw03_PatternNarrows.l0] at H
            by_cases c27 : x32_2 < (l2.length : Int)
            · rw [if_pos c27] at H
              have c27b0 : decide (x32_2 < (l2.length : Int)) = true := decide_eq_true c27
              clear c27
              by_cases c28 : 0 ≤ x32_2
              · rw [if_pos c28] at H
                have c28b0 : decide (0 ≤ x32_2) = true := decide_eq_true c28
                clear c28
                by_cases c29 : x32_2 < (l2.length : Int)
                · rw [if_pos c29] at H
                  have c29b0 : decide (x32_2 < (l2.length : Int)) = true := decide_eq_true c29
                  clear c29
                  replace H := Option.bind_eq_some_iff.mp H
                  obtain ⟨t383, A300, H⟩ := H
                  replace H : (if t383 = true then (stockyardlaw03_PatternNarrows.l0 k2 l2 l2 (l2.length : Int) (wrap64 (x32_2 + 1)) l0_0 a0_1 l1_0 a1_1) else ((stockyardlaw03_awake.f k2).bind fun t384 => (some t384))) = some r := H
                  have A30 := Aside0.mk A300
                  clear A300
                  by_cases c31 : t383 = true
                  · subst c31
                    have H1 : (stockyardlaw03_PatternNarrows.l0 k2 l2 l2 (l2.length : Int) (wrap64 (x32_2 + 1)) l0_0 a0_1 l1_0 a1_1) = some r := by rw [if_pos rfl] at H; exact H
                    clear H
                    have H := H1
                    clear H1
                    have H' := Aside0.mk H
                    clear H
                    have p381 : 0 ≤ (x32_2 : Int) := of_decide_eq_true (by first | (with_reducible assumption) | assumption)
                    have q381 : x32_2 < (l2.length : Int) := of_decide_eq_true (by first | (with_reducible assumption) | assumption)
                    obtain ⟨ad381, A381_0, c381_0, e381, hx381_0, hx381_1, hl381_0, hi381_0⟩ := at_T28 HR2.out x32_2 p381 q381
                    cases e381
                    replace hx381_0 := (HB.out.cell (World.block_lt_of_cell? w _ hx381_0)).trans hx381_0
                    replace hx381_1 := (HB.out.cell (World.block_lt_of_cell? w _ hx381_1)).trans hx381_1
                    have HR381_0 := Aside0.mk hi381_0
                    have HC381_0 := Aside0.mk hl381_0
                    clear hi381_0 hl381_0
                    replace p381 := eq_true p381
                    replace q381 := eq_true q381
                    go_wp2_with (first | ((with_reducible refine gate_dst (N := 8) rfl ?_); (try (refine gate_guard (by rfl) ?_; dsimp only)); refine box_event ?hg (N := 8) ?hd (cs := #[.slice none 0 0, .bool false]) (t := 28) ?hr ?_; (case hd => rfl); (case hg => rfl); (case hr => first | (go_simp; done) | (go_simp; rfl)); intro gb382 hg w32 hbox hb; have BK382 := Aside0.mk hbox; have GW382 := gw_ HB hg; have GE382 := gw_ HB hg; have NB376_382 := nl_ BK376 hg; have NB382_376 := nr_ BK376 hg; have NB377_382 := nl_ BK377 hg; have NB382_377 := nr_ BK377 hg; replace BK376 := bb_ BK376 hb; replace BK377 := bb_ BK377 hb; replace HB := hs_ HB hb; clear hb hbox hg; have hnb33 := NB382_376.out; have hnc33 := NB376_382.out; have hnb34 := NB382_377.out; have hnc34 := NB377_382.out; obtain ⟨hcz35_0, hcz35_1, hfz35_0, hfz35_1⟩ := c2_ BK382) | (go_at_call 13; (with_reducible refine (stockyardlaw03_small.calls k2 _ _ ((rd_T28 l2 x32_2).f0) false true _ ?side1 ?side2 A30.out).mono ?_); (case side1 => exact Kd.C_below HR381_0.out hb_); (case side2 => exact HC381_0.out); rintro e w36 ⟨rfl, hb⟩; have n2_ := Aside0.mk (blk_below (g := gb382) (o := .cells #[.slice A381_0 ((rd_T28 l2 x32_2).f0).length c381_0, .bool ((rd_T28 l2 x32_2).f1)] 28 (0, 0)) bz_ hb); replace BK376 := bb_ BK376 hb; replace BK377 := bb_ BK377 hb; replace HB := hs_ HB hb; clear BK382; have BK382 := n2_; clear n2_; (try clear hb); (try clear hb2); (try clear hk); (try clear hi)))
                    repeat (go_quiet (first | ((with_reducible refine gate_dst (N := 8) rfl ?_); (try (refine gate_guard (by rfl) ?_; dsimp only)); refine box_event ?hg (N := 8) ?hd (cs := #[.slice none 0 0, .bool false]) (t := 28) ?hr ?_; (case hd => rfl); (case hg => rfl); (case hr => first | (go_simp; done) | (go_simp; rfl)); intro gb382 hg w32 hbox hb; have BK382 := Aside0.mk hbox; have GW382 := gw_ HB hg; have GE382 := gw_ HB hg; have NB376_382 := nl_ BK376 hg; have NB382_376 := nr_ BK376 hg; have NB377_382 := nl_ BK377 hg; have NB382_377 := nr_ BK377 hg; replace BK376 := bb_ BK376 hb; replace BK377 := bb_ BK377 hb; replace HB := hs_ HB hb; clear hb hbox hg; have hnb33 := NB382_376.out; have hnc33 := NB376_382.out; have hnb34 := NB382_377.out; have hnc34 := NB377_382.out; obtain ⟨hcz35_0, hcz35_1, hfz35_0, hfz35_1⟩ := c2_ BK382) | (go_at_call 13; (with_reducible refine (stockyardlaw03_small.calls k2 _ _ ((rd_T28 l2 x32_2).f0) false true _ ?side1 ?side2 A30.out).mono ?_); (case side1 => exact Kd.C_below HR381_0.out hb_); (case side2 => exact HC381_0.out); rintro e w36 ⟨rfl, hb⟩; have n2_ := Aside0.mk (blk_below (g := gb382) (o := .cells #[.slice A381_0 ((rd_T28 l2 x32_2).f0).length c381_0, .bool ((rd_T28 l2 x32_2).f1)] 28 (0, 0)) bz_ hb); replace BK376 := bb_ BK376 hb; replace BK377 := bb_ BK377 hb; replace HB := hs_ HB hb; clear BK382; have BK382 := n2_; clear n2_; (try clear hb); (try clear hb2); (try clear hk); (try clear hi))); try go_wp2_with (first | ((with_reducible refine gate_dst (N := 8) rfl ?_); (try (refine gate_guard (by rfl) ?_; dsimp only)); refine box_event ?hg (N := 8) ?hd (cs := #[.slice none 0 0, .bool false]) (t := 28) ?hr ?_; (case hd => rfl); (case hg => rfl); (case hr => first | (go_simp; done) | (go_simp; rfl)); intro gb382 hg w32 hbox hb; have n0_ := Aside0.mk (blk_below (g := gb376) (o := .cells #[.slice A0_0 l0_0.length c0_0, .bool a0_1] 24 (0, 0)) bk_ hb); have n1_ := Aside0.mk (blk_below (g := gb377) (o := .cells #[.slice A1_0 l1_0.length c1_0, .bool a1_1] 24 (0, 0)) bk_ hb); have n2_ := Aside0.mk (below_step hb_ hb); have n3_ := Aside0.mk (hbox); have n4_ := Aside0.mk ((by rw [hg]; exact (below_size hb_) : w.heap.size ≤ gb382)); have n5_ := Aside0.mk ((by rw [hg]; exact (below_size hb_) : w.heap.size ≤ gb382)); have n6_ := Aside0.mk ((by rw [hg]; exact Nat.ne_of_lt (blk_lt (g := gb376) (o := .cells #[.slice A0_0 l0_0.length c0_0, .bool a0_1] 24 (0, 0)) bk_) : gb376 ≠ gb382)); have n7_ := Aside0.mk ((by rw [hg]; exact Nat.ne_of_gt (blk_lt (g := gb376) (o := .cells #[.slice A0_0 l0_0.length c0_0, .bool a0_1] 24 (0, 0)) bk_) : gb382 ≠ gb376)); have n8_ := Aside0.mk ((by rw [hg]; exact Nat.ne_of_lt (blk_lt (g := gb377) (o := .cells #[.slice A1_0 l1_0.length c1_0, .bool a1_1] 24 (0, 0)) bk_) : gb377 ≠ gb382)); have n9_ := Aside0.mk ((by rw [hg]; exact Nat.ne_of_gt (blk_lt (g := gb377) (o := .cells #[.slice A1_0 l1_0.length c1_0, .bool a1_1] 24 (0, 0)) bk_) : gb382 ≠ gb377)); clear BK376; clear BK377; clear HB; have BK376 := n0_; have BK377 := n1_; have HB := n2_; have BK382 := n3_; have GW382 := n4_; have GE382 := n5_; have NB376_382 := n6_; have NB382_376 := n7_; have NB377_382 := n8_; have NB382_377 := n9_; clear n0_ n1_ n2_ n3_ n4_ n5_ n6_ n7_ n8_ n9_; clear hb hbox hg; have hnb33 := NB382_376.out; have hnc33 := NB376_382.out; have hnb34 := NB382_377.out; have hnc34 := NB377_382.out; have hcz35_0 : w32.cell? ⟨gb382, 0, none⟩ = some (.slice none 0 0) := (blk_cell BK382.out 0).trans rfl; have hcz35_1 : w32.cell? ⟨gb382, 1, none⟩ = some (.bool false) := (blk_cell BK382.out 1).trans rfl; have hfz35_0 := blk_frozen BK382.out 0; have hfz35_1 := blk_frozen BK382.out 1) | (go_at_call 13; (with_reducible refine (stockyardlaw03_small.calls k2 _ _ ((rd_T28 l2 x32_2).f0) false true _ ?side1 ?side2 A30.out).mono ?_); (case side1 => exact Kd.C_below HR381_0.out hb_); (case side2 => exact HC381_0.out); rintro e w36 ⟨rfl, hb⟩; have n0_ := Aside0.mk (blk_below (g := gb376) (o := .cells #[.slice A0_0 l0_0.length c0_0, .bool a0_1] 24 (0, 0)) bz_ hb); have n1_ := Aside0.mk (blk_below (g := gb377) (o := .cells #[.slice A1_0 l1_0.length c1_0, .bool a1_1] 24 (0, 0)) bz_ hb); have n2_ := Aside0.mk (blk_below (g := gb382) (o := .cells #[.slice A381_0 ((rd_T28 l2 x32_2).f0).length c381_0, .bool ((rd_T28 l2 x32_2).f1)] 28 (0, 0)) bz_ hb); have n3_ := Aside0.mk (below_step hb_ hb); clear BK376; clear BK377; clear BK382; clear HB; have BK376 := n0_; have BK377 := n1_; have BK382 := n2_; have HB := n3_; clear n0_ n1_ n2_ n3_; (try clear hb); (try clear hb2); (try clear hk); (try clear hi))))
                    go_roundg k2
                    case measure => have := HJ3.out; have := HK2.out; omega
                    case rel => exact ⟨(wrap64 (x32_2 + 1)), (by first | rfl | (simp; done) | (simp [*]; done)), H', ⟨by have := HJ3.out; have := HK2.out; omega⟩, ⟨bk_⟩, ⟨bk_⟩, ⟨hb_⟩⟩
                  · replace c31 := Bool.eq_false_iff.mpr c31
                    subst c31
                    have H1 : ((stockyardlaw03_awake.f k2).bind fun t384 => (some t384)) = some r := by rw [if_neg (show ¬ (false = true) by decide)] at H; exact H
                    clear H
                    have H := H1
                    clear H1
                    replace H := Option.bind_eq_some_iff.mp H
                    obtain ⟨t384, A370, H⟩ := H
                    replace H : (some t384) = some r := H
                    have A37 := Aside0.mk A370
                    clear A370
                    obtain rfl := Option.some.inj H
                    have p381 : 0 ≤ (x32_2 : Int) := of_decide_eq_true (by first | (with_reducible assumption) | assumption)
                    have q381 : x32_2 < (l2.length : Int) := of_decide_eq_true (by first | (with_reducible assumption) | assumption)
                    obtain ⟨ad381, A381_0, c381_0, e381, hx381_0, hx381_1, hl381_0, hi381_0⟩ := at_T28 HR2.out x32_2 p381 q381
                    cases e381
                    replace hx381_0 := (HB.out.cell (World.block_lt_of_cell? w _ hx381_0)).trans hx381_0
                    replace hx381_1 := (HB.out.cell (World.block_lt_of_cell? w _ hx381_1)).trans hx381_1
                    have HR381_0 := Aside0.mk hi381_0
                    have HC381_0 := Aside0.mk hl381_0
                    clear hi381_0 hl381_0
                    replace p381 := eq_true p381
                    replace q381 := eq_true q381
                    go_wp2_with (first | ((with_reducible refine gate_dst (N := 8) rfl ?_); (try (refine gate_guard (by rfl) ?_; dsimp only)); refine box_event ?hg (N := 8) ?hd (cs := #[.slice none 0 0, .bool false]) (t := 28) ?hr ?_; (case hd => rfl); (case hg => rfl); (case hr => first | (go_simp; done) | (go_simp; rfl)); intro gb382 hg w38 hbox hb; have BK382 := Aside0.mk hbox; have GW382 := gw_ HB hg; have GE382 := gw_ HB hg; have NB376_382 := nl_ BK376 hg; have NB382_376 := nr_ BK376 hg; have NB377_382 := nl_ BK377 hg; have NB382_377 := nr_ BK377 hg; replace BK376 := bb_ BK376 hb; replace BK377 := bb_ BK377 hb; replace HB := hs_ HB hb; clear hb hbox hg; have hnb39 := NB382_376.out; have hnc39 := NB376_382.out; have hnb40 := NB382_377.out; have hnc40 := NB377_382.out; obtain ⟨hcz41_0, hcz41_1, hfz41_0, hfz41_1⟩ := c2_ BK382) | (go_at_call 13; (with_reducible refine (stockyardlaw03_small.calls k2 _ _ ((rd_T28 l2 x32_2).f0) false false _ ?side1 ?side2 A30.out).mono ?_); (case side1 => exact Kd.C_below HR381_0.out hb_); (case side2 => exact HC381_0.out); rintro e w42 ⟨rfl, hb⟩; have n2_ := Aside0.mk (blk_below (g := gb382) (o := .cells #[.slice A381_0 ((rd_T28 l2 x32_2).f0).length c381_0, .bool ((rd_T28 l2 x32_2).f1)] 28 (0, 0)) bz_ hb); replace BK376 := bb_ BK376 hb; replace BK377 := bb_ BK377 hb; replace HB := hs_ HB hb; clear BK382; have BK382 := n2_; clear n2_; (try clear hb); (try clear hb2); (try clear hk); (try clear hi)) | (go_at_call 14; (with_reducible refine (stockyardlaw03_awake.calls k2  t384 _ A37.out).mono ?_); rintro e w43 ⟨rfl, hb⟩; replace BK376 := bb_ BK376 hb; replace BK377 := bb_ BK377 hb; replace BK382 := bb_ BK382 hb; replace HB := hs_ HB hb; (try clear hb); (try clear hb2); (try clear hk); (try clear hi)))
                    repeat (go_quiet (first | ((with_reducible refine gate_dst (N := 8) rfl ?_); (try (refine gate_guard (by rfl) ?_; dsimp only)); refine box_event ?hg (N := 8) ?hd (cs := #[.slice none 0 0, .bool false]) (t := 28) ?hr ?_; (case hd => rfl); (case hg => rfl); (case hr => first | (go_simp; done) | (go_simp; rfl)); intro gb382 hg w38 hbox hb; have BK382 := Aside0.mk hbox; have GW382 := gw_ HB hg; have GE382 := gw_ HB hg; have NB376_382 := nl_ BK376 hg; have NB382_376 := nr_ BK376 hg; have NB377_382 := nl_ BK377 hg; have NB382_377 := nr_ BK377 hg; replace BK376 := bb_ BK376 hb; replace BK377 := bb_ BK377 hb; replace HB := hs_ HB hb; clear hb hbox hg; have hnb39 := NB382_376.out; have hnc39 := NB376_382.out; have hnb40 := NB382_377.out; have hnc40 := NB377_382.out; obtain ⟨hcz41_0, hcz41_1, hfz41_0, hfz41_1⟩ := c2_ BK382) | (go_at_call 13; (with_reducible refine (stockyardlaw03_small.calls k2 _ _ ((rd_T28 l2 x32_2).f0) false false _ ?side1 ?side2 A30.out).mono ?_); (case side1 => exact Kd.C_below HR381_0.out hb_); (case side2 => exact HC381_0.out); rintro e w42 ⟨rfl, hb⟩; have n2_ := Aside0.mk (blk_below (g := gb382) (o := .cells #[.slice A381_0 ((rd_T28 l2 x32_2).f0).length c381_0, .bool ((rd_T28 l2 x32_2).f1)] 28 (0, 0)) bz_ hb); replace BK376 := bb_ BK376 hb; replace BK377 := bb_ BK377 hb; replace HB := hs_ HB hb; clear BK382; have BK382 := n2_; clear n2_; (try clear hb); (try clear hb2); (try clear hk); (try clear hi)) | (go_at_call 14; (with_reducible refine (stockyardlaw03_awake.calls k2  t384 _ A37.out).mono ?_); rintro e w43 ⟨rfl, hb⟩; replace BK376 := bb_ BK376 hb; replace BK377 := bb_ BK377 hb; replace BK382 := bb_ BK382 hb; replace HB := hs_ HB hb; (try clear hb); (try clear hb2); (try clear hk); (try clear hi))); try go_wp2_with (first | ((with_reducible refine gate_dst (N := 8) rfl ?_); (try (refine gate_guard (by rfl) ?_; dsimp only)); refine box_event ?hg (N := 8) ?hd (cs := #[.slice none 0 0, .bool false]) (t := 28) ?hr ?_; (case hd => rfl); (case hg => rfl); (case hr => first | (go_simp; done) | (go_simp; rfl)); intro gb382 hg w38 hbox hb; have n0_ := Aside0.mk (blk_below (g := gb376) (o := .cells #[.slice A0_0 l0_0.length c0_0, .bool a0_1] 24 (0, 0)) bk_ hb); have n1_ := Aside0.mk (blk_below (g := gb377) (o := .cells #[.slice A1_0 l1_0.length c1_0, .bool a1_1] 24 (0, 0)) bk_ hb); have n2_ := Aside0.mk (below_step hb_ hb); have n3_ := Aside0.mk (hbox); have n4_ := Aside0.mk ((by rw [hg]; exact (below_size hb_) : w.heap.size ≤ gb382)); have n5_ := Aside0.mk ((by rw [hg]; exact (below_size hb_) : w.heap.size ≤ gb382)); have n6_ := Aside0.mk ((by rw [hg]; exact Nat.ne_of_lt (blk_lt (g := gb376) (o := .cells #[.slice A0_0 l0_0.length c0_0, .bool a0_1] 24 (0, 0)) bk_) : gb376 ≠ gb382)); have n7_ := Aside0.mk ((by rw [hg]; exact Nat.ne_of_gt (blk_lt (g := gb376) (o := .cells #[.slice A0_0 l0_0.length c0_0, .bool a0_1] 24 (0, 0)) bk_) : gb382 ≠ gb376)); have n8_ := Aside0.mk ((by rw [hg]; exact Nat.ne_of_lt (blk_lt (g := gb377) (o := .cells #[.slice A1_0 l1_0.length c1_0, .bool a1_1] 24 (0, 0)) bk_) : gb377 ≠ gb382)); have n9_ := Aside0.mk ((by rw [hg]; exact Nat.ne_of_gt (blk_lt (g := gb377) (o := .cells #[.slice A1_0 l1_0.length c1_0, .bool a1_1] 24 (0, 0)) bk_) : gb382 ≠ gb377)); clear BK376; clear BK377; clear HB; have BK376 := n0_; have BK377 := n1_; have HB := n2_; have BK382 := n3_; have GW382 := n4_; have GE382 := n5_; have NB376_382 := n6_; have NB382_376 := n7_; have NB377_382 := n8_; have NB382_377 := n9_; clear n0_ n1_ n2_ n3_ n4_ n5_ n6_ n7_ n8_ n9_; clear hb hbox hg; have hnb39 := NB382_376.out; have hnc39 := NB376_382.out; have hnb40 := NB382_377.out; have hnc40 := NB377_382.out; have hcz41_0 : w38.cell? ⟨gb382, 0, none⟩ = some (.slice none 0 0) := (blk_cell BK382.out 0).trans rfl; have hcz41_1 : w38.cell? ⟨gb382, 1, none⟩ = some (.bool false) := (blk_cell BK382.out 1).trans rfl; have hfz41_0 := blk_frozen BK382.out 0; have hfz41_1 := blk_frozen BK382.out 1) | (go_at_call 13; (with_reducible refine (stockyardlaw03_small.calls k2 _ _ ((rd_T28 l2 x32_2).f0) false false _ ?side1 ?side2 A30.out).mono ?_); (case side1 => exact Kd.C_below HR381_0.out hb_); (case side2 => exact HC381_0.out); rintro e w42 ⟨rfl, hb⟩; have n0_ := Aside0.mk (blk_below (g := gb376) (o := .cells #[.slice A0_0 l0_0.length c0_0, .bool a0_1] 24 (0, 0)) bz_ hb); have n1_ := Aside0.mk (blk_below (g := gb377) (o := .cells #[.slice A1_0 l1_0.length c1_0, .bool a1_1] 24 (0, 0)) bz_ hb); have n2_ := Aside0.mk (blk_below (g := gb382) (o := .cells #[.slice A381_0 ((rd_T28 l2 x32_2).f0).length c381_0, .bool ((rd_T28 l2 x32_2).f1)] 28 (0, 0)) bz_ hb); have n3_ := Aside0.mk (below_step hb_ hb); clear BK376; clear BK377; clear BK382; clear HB; have BK376 := n0_; have BK377 := n1_; have BK382 := n2_; have HB := n3_; clear n0_ n1_ n2_ n3_; (try clear hb); (try clear hb2); (try clear hk); (try clear hi)) | (go_at_call 14; (with_reducible refine (stockyardlaw03_awake.calls k2  t384 _ A37.out).mono ?_); rintro e w43 ⟨rfl, hb⟩; have n0_ := Aside0.mk (blk_below (g := gb376) (o := .cells #[.slice A0_0 l0_0.length c0_0, .bool a0_1] 24 (0, 0)) bk_ hb); have n1_ := Aside0.mk (blk_below (g := gb377) (o := .cells #[.slice A1_0 l1_0.length c1_0, .bool a1_1] 24 (0, 0)) bk_ hb); have n2_ := Aside0.mk (blk_below (g := gb382) (o := .cells #[.slice A381_0 ((rd_T28 l2 x32_2).f0).length c381_0, .bool ((rd_T28 l2 x32_2).f1)] 28 (0, 0)) bk_ hb); have n3_ := Aside0.mk (below_step hb_ hb); clear BK376; clear BK377; clear BK382; clear HB; have BK376 := n0_; have BK377 := n1_; have BK382 := n2_; have HB := n3_; clear n0_ n1_ n2_ n3_; (try clear hb); (try clear hb2); (try clear hk); (try clear hi))))
                    go_ret
                    exact ⟨rt_, hb_⟩
                · rw [if_neg c29] at H
                  exact absurd H (by simp)
              · rw [if_neg c28] at H
                exact absurd H (by simp)
            · rw [if_neg c27] at H
              have c27b0 : decide (x32_2 < (l2.length : Int)) = false := decide_eq_false c27
              clear c27
              replace H := Option.bind_eq_some_iff.mp H
              obtain ⟨⟨t385, t388⟩, A440, H⟩ := H
              replace H : ((pattern_Within.f k2 l1_0 a1_1 l0_0 a0_1).bind fun t389 => (if (t388 != t389) = true then (some false) else (if t388 = true then ((pattern_Substitute.f k2 l0_0 a0_1 t385).bind fun bt390 => (if bt390.2.2 = 0 then (if (bt390.2.1 != a1_1) = true then (some false) else ((stockyardlaw03_equal.f k2 bt390.1 l1_0).bind fun t396 => (if t396 = true then (stockyardlaw03_PatternNarrows.j2 k2 l2 l0_0 a0_1) else (some false)))) else (some false))) else (stockyardlaw03_PatternNarrows.j2 k2 l2 l0_0 a0_1)))) = some r := H
              have A44 := Aside0.mk A440
              clear A440
              replace H := Option.bind_eq_some_iff.mp H
              obtain ⟨t389, A450, H⟩ := H
              replace H : (if (t388 != t389) = true then (some false) else (if t388 = true then ((pattern_Substitute.f k2 l0_0 a0_1 t385).bind fun bt390 => (if bt390.2.2 = 0 then (if (bt390.2.1 != a1_1) = true then (some false) else ((stockyardlaw03_equal.f k2 bt390.1 l1_0).bind fun t396 => (if t396 = true then (stockyardlaw03_PatternNarrows.j2 k2 l2 l0_0 a0_1) else (some false)))) else (some false))) else (stockyardlaw03_PatternNarrows.j2 k2 l2 l0_0 a0_1))) = some r := H
              have A45 := Aside0.mk A450
              clear A450
              by_cases c46 : (t388 != t389) = true
              · rw [if_pos c46] at H
                have c46b0 : (t388 != t389) = true := c46
                (try (have c46b1 : decide (t388 = t389) = false := by simpa using c46))
                (try (have c46b2 : (t388 == t389) = false := by simpa using c46))
                (try (have c46b3 : ¬ (t388 = t389) := by simpa using c46))
                clear c46
                obtain rfl := Option.some.inj H
                have hnb47 := NB376_377.out
                have hnc47 := NB377_376.out
                obtain ⟨hcz48_0, hcz48_1, hfz48_0, hfz48_1⟩ := c2_ BK376
                obtain ⟨hcz49_0, hcz49_1, hfz49_0, hfz49_1⟩ := c2_ BK377
                go_wp2_with (first | (go_at_call 18; (with_reducible refine (pattern_Bind.calls k2 _ _ l0_0 a0_1 _ _ l1_0 a1_1 t385 t388 _ ?side1 ?side2 ?side3 ?side4 A44.out).mono ?_); (case side1 => exact sd_); (case side2 => exact HC0_0.out); (case side3 => exact sd_); (case side4 => exact HC1_0.out); rintro e w50 ⟨v386, rfl, ho0, hb⟩; have n0_ := Aside0.mk (Kd.S_lower ho0 (below_size hb_)); replace BK376 := bb_ BK376 hb; replace BK377 := bb_ BK377 hb; replace HB := hs_ HB hb; have HO387 := n0_; clear n0_; (try clear hb); (try clear hb2); (try clear hk); (try clear hi); (try clear ho0); obtain ⟨hcz51_0, hcz51_1, hfz51_0, hfz51_1⟩ := c2_ BK377; obtain ⟨hcz52_0, hcz52_1, hfz52_0, hfz52_1⟩ := c2_ BK376) | (go_at_call 19; (with_reducible refine (pattern_Within.calls k2 _ _ l1_0 a1_1 _ _ l0_0 a0_1 t389 _ ?side1 ?side2 ?side3 ?side4 A45.out).mono ?_); (case side1 => exact sd_); (case side2 => exact HC1_0.out); (case side3 => exact sd_); (case side4 => exact HC0_0.out); rintro e w53 ⟨rfl, hb⟩; have n0_ := Aside0.mk (Kd.S_below (by (with_reducible repeat (first | apply Kd.S_alloc | apply Kd.S_drewN | apply Kd.S_drew)); exact HO387.out) hb); replace BK376 := bb_ BK376 hb; replace BK377 := bb_ BK377 hb; replace HB := hs_ HB hb; clear HO387; have HO387 := n0_; clear n0_; (try clear hb); (try clear hb2); (try clear hk); (try clear hi)))
                repeat (go_quiet (first | (go_at_call 18; (with_reducible refine (pattern_Bind.calls k2 _ _ l0_0 a0_1 _ _ l1_0 a1_1 t385 t388 _ ?side1 ?side2 ?side3 ?side4 A44.out).mono ?_); (case side1 => exact sd_); (case side2 => exact HC0_0.out); (case side3 => exact sd_); (case side4 => exact HC1_0.out); rintro e w50 ⟨v386, rfl, ho0, hb⟩; have n0_ := Aside0.mk (Kd.S_lower ho0 (below_size hb_)); replace BK376 := bb_ BK376 hb; replace BK377 := bb_ BK377 hb; replace HB := hs_ HB hb; have HO387 := n0_; clear n0_; (try clear hb); (try clear hb2); (try clear hk); (try clear hi); (try clear ho0); obtain ⟨hcz51_0, hcz51_1, hfz51_0, hfz51_1⟩ := c2_ BK377; obtain ⟨hcz52_0, hcz52_1, hfz52_0, hfz52_1⟩ := c2_ BK376) | (go_at_call 19; (with_reducible refine (pattern_Within.calls k2 _ _ l1_0 a1_1 _ _ l0_0 a0_1 t389 _ ?side1 ?side2 ?side3 ?side4 A45.out).mono ?_); (case side1 => exact sd_); (case side2 => exact HC1_0.out); (case side3 => exact sd_); (case side4 => exact HC0_0.out); rintro e w53 ⟨rfl, hb⟩; have n0_ := Aside0.mk (Kd.S_below (by (with_reducible repeat (first | apply Kd.S_alloc | apply Kd.S_drewN | apply Kd.S_drew)); exact HO387.out) hb); replace BK376 := bb_ BK376 hb; replace BK377 := bb_ BK377 hb; replace HB := hs_ HB hb; clear HO387; have HO387 := n0_; clear n0_; (try clear hb); (try clear hb2); (try clear hk); (try clear hi))); try go_wp2_with (first | (go_at_call 18; (with_reducible refine (pattern_Bind.calls k2 _ _ l0_0 a0_1 _ _ l1_0 a1_1 t385 t388 _ ?side1 ?side2 ?side3 ?side4 A44.out).mono ?_); (case side1 => exact sd_); (case side2 => exact HC0_0.out); (case side3 => exact sd_); (case side4 => exact HC1_0.out); rintro e w50 ⟨v386, rfl, ho0, hb⟩; have n0_ := Aside0.mk (Kd.S_lower ho0 (below_size hb_)); have n1_ := Aside0.mk (blk_below (g := gb376) (o := .cells #[.slice A0_0 l0_0.length c0_0, .bool a0_1] 24 (0, 0)) bk_ hb); have n2_ := Aside0.mk (blk_below (g := gb377) (o := .cells #[.slice A1_0 l1_0.length c1_0, .bool a1_1] 24 (0, 0)) bk_ hb); have n3_ := Aside0.mk (below_step hb_ hb); clear BK376; clear BK377; clear HB; have HO387 := n0_; have BK376 := n1_; have BK377 := n2_; have HB := n3_; clear n0_ n1_ n2_ n3_; (try clear hb); (try clear hb2); (try clear hk); (try clear hi); (try clear ho0); have hcz51_0 : w50.cell? ⟨gb377, 0, none⟩ = some (.slice A1_0 l1_0.length c1_0) := (blk_cell BK377.out 0).trans rfl; have hcz51_1 : w50.cell? ⟨gb377, 1, none⟩ = some (.bool a1_1) := (blk_cell BK377.out 1).trans rfl; have hfz51_0 := blk_frozen BK377.out 0; have hfz51_1 := blk_frozen BK377.out 1; have hcz52_0 : w50.cell? ⟨gb376, 0, none⟩ = some (.slice A0_0 l0_0.length c0_0) := (blk_cell BK376.out 0).trans rfl; have hcz52_1 : w50.cell? ⟨gb376, 1, none⟩ = some (.bool a0_1) := (blk_cell BK376.out 1).trans rfl; have hfz52_0 := blk_frozen BK376.out 0; have hfz52_1 := blk_frozen BK376.out 1) | (go_at_call 19; (with_reducible refine (pattern_Within.calls k2 _ _ l1_0 a1_1 _ _ l0_0 a0_1 t389 _ ?side1 ?side2 ?side3 ?side4 A45.out).mono ?_); (case side1 => exact sd_); (case side2 => exact HC1_0.out); (case side3 => exact sd_); (case side4 => exact HC0_0.out); rintro e w53 ⟨rfl, hb⟩; have n0_ := Aside0.mk (Kd.S_below (by (with_reducible repeat (first | apply Kd.S_alloc | apply Kd.S_drewN | apply Kd.S_drew)); exact HO387.out) hb); have n1_ := Aside0.mk (blk_below (g := gb376) (o := .cells #[.slice A0_0 l0_0.length c0_0, .bool a0_1] 24 (0, 0)) bk_ hb); have n2_ := Aside0.mk (blk_below (g := gb377) (o := .cells #[.slice A1_0 l1_0.length c1_0, .bool a1_1] 24 (0, 0)) bk_ hb); have n3_ := Aside0.mk (below_step hb_ hb); clear HO387; clear BK376; clear BK377; clear HB; have HO387 := n0_; have BK376 := n1_; have BK377 := n2_; have HB := n3_; clear n0_ n1_ n2_ n3_; (try clear hb); (try clear hb2); (try clear hk); (try clear hi))))
                go_ret
                exact ⟨rt_, hb_⟩
              · rw [if_neg c46] at H
                have c46b0 : (t388 != t389) = false := by simpa using c46
                (try (have c46b1 : decide (t388 = t389) = true := by simpa using c46))
                (try (have c46b2 : (t388 == t389) = true := by simpa using c46))
                clear c46
                have HC54 := Aside0.mk H
                clear H
                have hnb55 := NB376_377.out
                have hnc55 := NB377_376.out
                obtain ⟨hcz56_0, hcz56_1, hfz56_0, hfz56_1⟩ := c2_ BK376
                obtain ⟨hcz57_0, hcz57_1, hfz57_0, hfz57_1⟩ := c2_ BK377
                go_upto_if 54 with (first | (go_at_call 18; (with_reducible refine (pattern_Bind.calls k2 _ _ l0_0 a0_1 _ _ l1_0 a1_1 t385 t388 _ ?side1 ?side2 ?side3 ?side4 A44.out).mono ?_); (case side1 => exact sd_); (case side2 => exact HC0_0.out); (case side3 => exact sd_); (case side4 => exact HC1_0.out); rintro e w58 ⟨v386, rfl, ho0, hb⟩; have n0_ := Aside0.mk (Kd.S_lower ho0 (below_size hb_)); replace BK376 := bb_ BK376 hb; replace BK377 := bb_ BK377 hb; replace HB := hs_ HB hb; have HO387 := n0_; clear n0_; (try clear hb); (try clear hb2); (try clear hk); (try clear hi); (try clear ho0); obtain ⟨hcz59_0, hcz59_1, hfz59_0, hfz59_1⟩ := c2_ BK377; obtain ⟨hcz60_0, hcz60_1, hfz60_0, hfz60_1⟩ := c2_ BK376) | (go_at_call 19; (with_reducible refine (pattern_Within.calls k2 _ _ l1_0 a1_1 _ _ l0_0 a0_1 t389 _ ?side1 ?side2 ?side3 ?side4 A45.out).mono ?_); (case side1 => exact sd_); (case side2 => exact HC1_0.out); (case side3 => exact sd_); (case side4 => exact HC0_0.out); rintro e w61 ⟨rfl, hb⟩; have n0_ := Aside0.mk (Kd.S_below (by (with_reducible repeat (first | apply Kd.S_alloc | apply Kd.S_drewN | apply Kd.S_drew)); exact HO387.out) hb); replace BK376 := bb_ BK376 hb; replace BK377 := bb_ BK377 hb; replace HB := hs_ HB hb; clear HO387; have HO387 := n0_; clear n0_; (try clear hb); (try clear hb2); (try clear hk); (try clear hi)))
                repeat (go_quiet (first | (go_at_call 18; (with_reducible refine (pattern_Bind.calls k2 _ _ l0_0 a0_1 _ _ l1_0 a1_1 t385 t388 _ ?side1 ?side2 ?side3 ?side4 A44.out).mono ?_); (case side1 => exact sd_); (case side2 => exact HC0_0.out); (case side3 => exact sd_); (case side4 => exact HC1_0.out); rintro e w58 ⟨v386, rfl, ho0, hb⟩; have n0_ := Aside0.mk (Kd.S_lower ho0 (below_size hb_)); replace BK376 := bb_ BK376 hb; replace BK377 := bb_ BK377 hb; replace HB := hs_ HB hb; have HO387 := n0_; clear n0_; (try clear hb); (try clear hb2); (try clear hk); (try clear hi); (try clear ho0); obtain ⟨hcz59_0, hcz59_1, hfz59_0, hfz59_1⟩ := c2_ BK377; obtain ⟨hcz60_0, hcz60_1, hfz60_0, hfz60_1⟩ := c2_ BK376) | (go_at_call 19; (with_reducible refine (pattern_Within.calls k2 _ _ l1_0 a1_1 _ _ l0_0 a0_1 t389 _ ?side1 ?side2 ?side3 ?side4 A45.out).mono ?_); (case side1 => exact sd_); (case side2 => exact HC1_0.out); (case side3 => exact sd_); (case side4 => exact HC0_0.out); rintro e w61 ⟨rfl, hb⟩; have n0_ := Aside0.mk (Kd.S_below (by (with_reducible repeat (first | apply Kd.S_alloc | apply Kd.S_drewN | apply Kd.S_drew)); exact HO387.out) hb); replace BK376 := bb_ BK376 hb; replace BK377 := bb_ BK377 hb; replace HB := hs_ HB hb; clear HO387; have HO387 := n0_; clear n0_; (try clear hb); (try clear hb2); (try clear hk); (try clear hi))); go_upto_if 54 with (first | (go_at_call 18; (with_reducible refine (pattern_Bind.calls k2 _ _ l0_0 a0_1 _ _ l1_0 a1_1 t385 t388 _ ?side1 ?side2 ?side3 ?side4 A44.out).mono ?_); (case side1 => exact sd_); (case side2 => exact HC0_0.out); (case side3 => exact sd_); (case side4 => exact HC1_0.out); rintro e w58 ⟨v386, rfl, ho0, hb⟩; have n0_ := Aside0.mk (Kd.S_lower ho0 (below_size hb_)); have n1_ := Aside0.mk (blk_below (g := gb376) (o := .cells #[.slice A0_0 l0_0.length c0_0, .bool a0_1] 24 (0, 0)) bk_ hb); have n2_ := Aside0.mk (blk_below (g := gb377) (o := .cells #[.slice A1_0 l1_0.length c1_0, .bool a1_1] 24 (0, 0)) bk_ hb); have n3_ := Aside0.mk (below_step hb_ hb); clear BK376; clear BK377; clear HB; have HO387 := n0_; have BK376 := n1_; have BK377 := n2_; have HB := n3_; clear n0_ n1_ n2_ n3_; (try clear hb); (try clear hb2); (try clear hk); (try clear hi); (try clear ho0); have hcz59_0 : w58.cell? ⟨gb377, 0, none⟩ = some (.slice A1_0 l1_0.length c1_0) := (blk_cell BK377.out 0).trans rfl; have hcz59_1 : w58.cell? ⟨gb377, 1, none⟩ = some (.bool a1_1) := (blk_cell BK377.out 1).trans rfl; have hfz59_0 := blk_frozen BK377.out 0; have hfz59_1 := blk_frozen BK377.out 1; have hcz60_0 : w58.cell? ⟨gb376, 0, none⟩ = some (.slice A0_0 l0_0.length c0_0) := (blk_cell BK376.out 0).trans rfl; have hcz60_1 : w58.cell? ⟨gb376, 1, none⟩ = some (.bool a0_1) := (blk_cell BK376.out 1).trans rfl; have hfz60_0 := blk_frozen BK376.out 0; have hfz60_1 := blk_frozen BK376.out 1) | (go_at_call 19; (with_reducible refine (pattern_Within.calls k2 _ _ l1_0 a1_1 _ _ l0_0 a0_1 t389 _ ?side1 ?side2 ?side3 ?side4 A45.out).mono ?_); (case side1 => exact sd_); (case side2 => exact HC1_0.out); (case side3 => exact sd_); (case side4 => exact HC0_0.out); rintro e w61 ⟨rfl, hb⟩; have n0_ := Aside0.mk (Kd.S_below (by (with_reducible repeat (first | apply Kd.S_alloc | apply Kd.S_drewN | apply Kd.S_drew)); exact HO387.out) hb); have n1_ := Aside0.mk (blk_below (g := gb376) (o := .cells #[.slice A0_0 l0_0.length c0_0, .bool a0_1] 24 (0, 0)) bk_ hb); have n2_ := Aside0.mk (blk_below (g := gb377) (o := .cells #[.slice A1_0 l1_0.length c1_0, .bool a1_1] 24 (0, 0)) bk_ hb); have n3_ := Aside0.mk (below_step hb_ hb); clear HO387; clear BK376; clear BK377; clear HB; have HO387 := n0_; have BK376 := n1_; have BK377 := n2_; have HB := n3_; clear n0_ n1_ n2_ n3_; (try clear hb); (try clear hb2); (try clear hk); (try clear hi))))
                (try simp only [Act.put, List.setIfInBounds_toArray, List.set_cons_zero, List.set_cons_succ])
                go_cut [] (fun wc => ∃ (kq : Nat), Aside0 (stockyardlaw03_PatternNarrows.j2 kq l2 l0_0 a0_1 = some r) ∧ Aside0 (kq ≤ k2) ∧ Aside0 (wc.heap[gb376]? = some (.cells #[(.slice A0_0 l0_0.length c0_0), .bool a0_1] 24 (0, 0))) ∧ Aside0 (wc.heap[gb377]? = some (.cells #[(.slice A1_0 l1_0.length c1_0), .bool a1_1] 24 (0, 0))) ∧ Aside0 (Below w.heap.size w wc))
                case first =>
                  have H := HC54.out
                  clear HC54
                  by_cases c62 : t388 = true
                  · subst c62
                    have H1 : ((pattern_Substitute.f k2 l0_0 a0_1 t385).bind fun bt390 => (if bt390.2.2 = 0 then (if (bt390.2.1 != a1_1) = true then (some false) else ((stockyardlaw03_equal.f k2 bt390.1 l1_0).bind fun t396 => (if t396 = true then (stockyardlaw03_PatternNarrows.j2 k2 l2 l0_0 a0_1) else (some false)))) else (some false))) = some r := by rw [if_pos rfl] at H; exact H
                    clear H
                    have H := H1
                    clear H1
                    replace H := Option.bind_eq_some_iff.mp H
                    obtain ⟨⟨t390, t393, t394⟩, A630, H⟩ := H
                    replace H : (if t394 = 0 then (if (t393 != a1_1) = true then (some false) else ((stockyardlaw03_equal.f k2 t390 l1_0).bind fun t396 => (if t396 = true then (stockyardlaw03_PatternNarrows.j2 k2 l2 l0_0 a0_1) else (some false)))) else (some false)) = some r := H
                    have A63 := Aside0.mk A630
                    clear A630
                    by_cases c64 : t394 = 0
                    · rw [if_pos c64] at H
                      have c64b0 : (t394 == 0) = true := beq_iff_eq.mpr c64
                      have c64b1 : (t394 != 0) = false := bne_eq_false_iff_eq.mpr c64
                      clear c64
                      (first | rw [c64b0] | (simp only [i64_w, i32_w]; rw [c64b0]) | skip)
                      by_cases c65 : (t393 != a1_1) = true
                      · rw [if_pos c65] at H
                        have c65b0 : (t393 != a1_1) = true := c65
                        (try (have c65b1 : decide (t393 = a1_1) = false := by simpa using c65))
                        (try (have c65b2 : (t393 == a1_1) = false := by simpa using c65))
                        (try (have c65b3 : ¬ (t393 = a1_1) := by simpa using c65))
                        clear c65
                        obtain rfl := Option.some.inj H
                        have hnb66 := NB376_377.out
                        have hnc66 := NB377_376.out
                        obtain ⟨hcz67_0, hcz67_1, hfz67_0, hfz67_1⟩ := c2_ BK376
                        obtain ⟨Ao68, co68, eo68⟩ := Kd.S_slice HO387.out
                        subst eo68
                        go_wp2_with (first | (go_at_call 15; (with_reducible refine (pattern_Substitute.calls k2 _ _ l0_0 a0_1 (fun k_ => ((True ∧ k_ ≠ gb376) ∧ k_ ≠ gb377)) _ _ t385 t390 t393 t394 _ ?side1 ?side2 ?side3 A63.out).mono ?_); (case side1 => exact sd_); (case side2 => exact HC0_0.out); (case side3 => exact Kd.S_V (Kd.S_types (Kd.S_types (HO387.out) BK376.out (by decide)) BK377.out (by decide))); rintro e w69 ⟨v391, rfl, ho0, hb⟩; have n0_ := Aside0.mk (Kd.S_elder' (by (with_reducible repeat (first | apply Kd.S_alloc | apply Kd.S_drewN | apply Kd.S_drew)); exact HO387.out) (Kd.R_base ho0) hb); have n1_ := Aside0.mk (Kd.R_lower (Kd.R_mono (ok' := fun k_ => True) ho0 (fun _ hk_ => trivial)) (below_size hb_)); replace BK376 := bb_ BK376 hb; replace BK377 := bb_ BK377 hb; replace HB := hs_ HB hb; clear HO387; have HO387 := n0_; have HO392 := n1_; clear n0_ n1_; (try clear hb); (try clear hb2); (try clear hk); (try clear hi); (try clear ho0)) | ((with_reducible refine gate_dst (N := 11) rfl ?_); (try (refine gate_guard (by rfl) ?_; dsimp only)); refine box_event ?hg (N := 11) ?hd (cs := #[.slice none 0 0, .bool false]) (t := 24) ?hr ?_; (case hd => rfl); (case hg => rfl); (case hr => first | (go_simp; done) | (go_simp; rfl)); intro gb395 hg w70 hbox hb; have n0_ := Aside0.mk (Kd.S_below (by (with_reducible repeat (first | apply Kd.S_alloc | apply Kd.S_drewN | apply Kd.S_drew)); exact HO387.out) hb); have BK395 := Aside0.mk hbox; have GW395 := gw_ HB hg; have GE395 := gw_ HB hg; have NB376_395 := nl_ BK376 hg; have NB395_376 := nr_ BK376 hg; have NB377_395 := nl_ BK377 hg; have NB395_377 := nr_ BK377 hg; replace HO392 := rb_ HO392 hb; replace BK376 := bb_ BK376 hb; replace BK377 := bb_ BK377 hb; replace HB := hs_ HB hb; clear HO387; have HO387 := n0_; clear n0_; clear hb hbox hg; obtain ⟨Ao71, co71, eo71⟩ := Kd.R_slice HO392.out; subst eo71; have hnb72 := NB395_376.out; have hnc72 := NB376_395.out; have hnb73 := NB395_377.out; have hnc73 := NB377_395.out; obtain ⟨hcz74_0, hcz74_1, hfz74_0, hfz74_1⟩ := c2_ BK395; obtain ⟨hcz75_0, hcz75_1, hfz75_0, hfz75_1⟩ := c2_ BK377))
                        repeat (go_quiet (first | (go_at_call 15; (with_reducible refine (pattern_Substitute.calls k2 _ _ l0_0 a0_1 (fun k_ => ((True ∧ k_ ≠ gb376) ∧ k_ ≠ gb377)) _ _ t385 t390 t393 t394 _ ?side1 ?side2 ?side3 A63.out).mono ?_); (case side1 => exact sd_); (case side2 => exact HC0_0.out); (case side3 => exact Kd.S_V (Kd.S_types (Kd.S_types (HO387.out) BK376.out (by decide)) BK377.out (by decide))); rintro e w69 ⟨v391, rfl, ho0, hb⟩; have n0_ := Aside0.mk (Kd.S_elder' (by (with_reducible repeat (first | apply Kd.S_alloc | apply Kd.S_drewN | apply Kd.S_drew)); exact HO387.out) (Kd.R_base ho0) hb); have n1_ := Aside0.mk (Kd.R_lower (Kd.R_mono (ok' := fun k_ => True) ho0 (fun _ hk_ => trivial)) (below_size hb_)); replace BK376 := bb_ BK376 hb; replace BK377 := bb_ BK377 hb; replace HB := hs_ HB hb; clear HO387; have HO387 := n0_; have HO392 := n1_; clear n0_ n1_; (try clear hb); (try clear hb2); (try clear hk); (try clear hi); (try clear ho0)) | ((with_reducible refine gate_dst (N := 11) rfl ?_); (try (refine gate_guard (by rfl) ?_; dsimp only)); refine box_event ?hg (N := 11) ?hd (cs := #[.slice none 0 0, .bool false]) (t := 24) ?hr ?_; (case hd => rfl); (case hg => rfl); (case hr => first | (go_simp; done) | (go_simp; rfl)); intro gb395 hg w70 hbox hb; have n0_ := Aside0.mk (Kd.S_below (by (with_reducible repeat (first | apply Kd.S_alloc | apply Kd.S_drewN | apply Kd.S_drew)); exact HO387.out) hb); have BK395 := Aside0.mk hbox; have GW395 := gw_ HB hg; have GE395 := gw_ HB hg; have NB376_395 := nl_ BK376 hg; have NB395_376 := nr_ BK376 hg; have NB377_395 := nl_ BK377 hg; have NB395_377 := nr_ BK377 hg; replace HO392 := rb_ HO392 hb; replace BK376 := bb_ BK376 hb; replace BK377 := bb_ BK377 hb; replace HB := hs_ HB hb; clear HO387; have HO387 := n0_; clear n0_; clear hb hbox hg; obtain ⟨Ao71, co71, eo71⟩ := Kd.R_slice HO392.out; subst eo71; have hnb72 := NB395_376.out; have hnc72 := NB376_395.out; have hnb73 := NB395_377.out; have hnc73 := NB377_395.out; obtain ⟨hcz74_0, hcz74_1, hfz74_0, hfz74_1⟩ := c2_ BK395; obtain ⟨hcz75_0, hcz75_1, hfz75_0, hfz75_1⟩ := c2_ BK377)); try go_wp2_with (first | (go_at_call 15; (with_reducible refine (pattern_Substitute.calls k2 _ _ l0_0 a0_1 (fun k_ => ((True ∧ k_ ≠ gb376) ∧ k_ ≠ gb377)) _ _ t385 t390 t393 t394 _ ?side1 ?side2 ?side3 A63.out).mono ?_); (case side1 => exact sd_); (case side2 => exact HC0_0.out); (case side3 => exact Kd.S_V (Kd.S_types (Kd.S_types (HO387.out) BK376.out (by decide)) BK377.out (by decide))); rintro e w69 ⟨v391, rfl, ho0, hb⟩; have n0_ := Aside0.mk (Kd.S_elder' (by (with_reducible repeat (first | apply Kd.S_alloc | apply Kd.S_drewN | apply Kd.S_drew)); exact HO387.out) (Kd.R_base ho0) hb); have n1_ := Aside0.mk (Kd.R_lower (Kd.R_mono (ok' := fun k_ => True) ho0 (fun _ hk_ => trivial)) (below_size hb_)); have n2_ := Aside0.mk (blk_below (g := gb376) (o := .cells #[.slice A0_0 l0_0.length c0_0, .bool a0_1] 24 (0, 0)) bk_ hb); have n3_ := Aside0.mk (blk_below (g := gb377) (o := .cells #[.slice A1_0 l1_0.length c1_0, .bool a1_1] 24 (0, 0)) bk_ hb); have n4_ := Aside0.mk (below_step hb_ hb); clear HO387; clear BK376; clear BK377; clear HB; have HO387 := n0_; have HO392 := n1_; have BK376 := n2_; have BK377 := n3_; have HB := n4_; clear n0_ n1_ n2_ n3_ n4_; (try clear hb); (try clear hb2); (try clear hk); (try clear hi); (try clear ho0)) | ((with_reducible refine gate_dst (N := 11) rfl ?_); (try (refine gate_guard (by rfl) ?_; dsimp only)); refine box_event ?hg (N := 11) ?hd (cs := #[.slice none 0 0, .bool false]) (t := 24) ?hr ?_; (case hd => rfl); (case hg => rfl); (case hr => first | (go_simp; done) | (go_simp; rfl)); intro gb395 hg w70 hbox hb; have n0_ := Aside0.mk (Kd.S_below (by (with_reducible repeat (first | apply Kd.S_alloc | apply Kd.S_drewN | apply Kd.S_drew)); exact HO387.out) hb); have n1_ := Aside0.mk (Kd.R_below (rp_ HO392) hb); have n2_ := Aside0.mk (blk_below (g := gb376) (o := .cells #[.slice A0_0 l0_0.length c0_0, .bool a0_1] 24 (0, 0)) bk_ hb); have n3_ := Aside0.mk (blk_below (g := gb377) (o := .cells #[.slice A1_0 l1_0.length c1_0, .bool a1_1] 24 (0, 0)) bk_ hb); have n4_ := Aside0.mk (below_step hb_ hb); have n5_ := Aside0.mk (hbox); have n6_ := Aside0.mk ((by rw [hg]; exact (below_size hb_) : w.heap.size ≤ gb395)); have n7_ := Aside0.mk ((by rw [hg]; exact (below_size hb_) : w.heap.size ≤ gb395)); have n8_ := Aside0.mk ((by rw [hg]; exact Nat.ne_of_lt (blk_lt (g := gb376) (o := .cells #[.slice A0_0 l0_0.length c0_0, .bool a0_1] 24 (0, 0)) bk_) : gb376 ≠ gb395)); have n9_ := Aside0.mk ((by rw [hg]; exact Nat.ne_of_gt (blk_lt (g := gb376) (o := .cells #[.slice A0_0 l0_0.length c0_0, .bool a0_1] 24 (0, 0)) bk_) : gb395 ≠ gb376)); have n10_ := Aside0.mk ((by rw [hg]; exact Nat.ne_of_lt (blk_lt (g := gb377) (o := .cells #[.slice A1_0 l1_0.length c1_0, .bool a1_1] 24 (0, 0)) bk_) : gb377 ≠ gb395)); have n11_ := Aside0.mk ((by rw [hg]; exact Nat.ne_of_gt (blk_lt (g := gb377) (o := .cells #[.slice A1_0 l1_0.length c1_0, .bool a1_1] 24 (0, 0)) bk_) : gb395 ≠ gb377)); clear HO387; clear HO392; clear BK376; clear BK377; clear HB; have HO387 := n0_; have HO392 := n1_; have BK376 := n2_; have BK377 := n3_; have HB := n4_; have BK395 := n5_; have GW395 := n6_; have GE395 := n7_; have NB376_395 := n8_; have NB395_376 := n9_; have NB377_395 := n10_; have NB395_377 := n11_; clear n0_ n1_ n2_ n3_ n4_ n5_ n6_ n7_ n8_ n9_ n10_ n11_; clear hb hbox hg; obtain ⟨Ao71, co71, eo71⟩ := Kd.R_slice HO392.out; subst eo71; have hnb72 := NB395_376.out; have hnc72 := NB376_395.out; have hnb73 := NB395_377.out; have hnc73 := NB377_395.out; have hcz74_0 : w70.cell? ⟨gb395, 0, none⟩ = some (.slice none 0 0) := (blk_cell BK395.out 0).trans rfl; have hcz74_1 : w70.cell? ⟨gb395, 1, none⟩ = some (.bool false) := (blk_cell BK395.out 1).trans rfl; have hfz74_0 := blk_frozen BK395.out 0; have hfz74_1 := blk_frozen BK395.out 1; have hcz75_0 : w70.cell? ⟨gb377, 0, none⟩ = some (.slice A1_0 l1_0.length c1_0) := (blk_cell BK377.out 0).trans rfl; have hcz75_1 : w70.cell? ⟨gb377, 1, none⟩ = some (.bool a1_1) := (blk_cell BK377.out 1).trans rfl; have hfz75_0 := blk_frozen BK377.out 0; have hfz75_1 := blk_frozen BK377.out 1)))
                        go_ret
                        exact ⟨rt_, hb_⟩
                      · rw [if_neg c65] at H
                        have c65b0 : (t393 != a1_1) = false := by simpa using c65
                        (try (have c65b1 : decide (t393 = a1_1) = true := by simpa using c65))
                        (try (have c65b2 : (t393 == a1_1) = true := by simpa using c65))
                        clear c65
                        replace H := Option.bind_eq_some_iff.mp H
                        obtain ⟨t396, A760, H⟩ := H
                        replace H : (if t396 = true then (stockyardlaw03_PatternNarrows.j2 k2 l2 l0_0 a0_1) else (some false)) = some r := H
                        have A76 := Aside0.mk A760
                        clear A760
                        by_cases c77 : t396 = true
                        · subst c77
                          have H1 : (stockyardlaw03_PatternNarrows.j2 k2 l2 l0_0 a0_1) = some r := by rw [if_pos rfl] at H; exact H
                          clear H
                          have H := H1
                          clear H1
                          have H' := Aside0.mk H
                          clear H
                          have hnb78 := NB376_377.out
                          have hnc78 := NB377_376.out
                          obtain ⟨hcz79_0, hcz79_1, hfz79_0, hfz79_1⟩ := c2_ BK376
                          obtain ⟨Ao80, co80, eo80⟩ := Kd.S_slice HO387.out
                          subst eo80
                          go_wp2_with (first | (go_at_call 15; (with_reducible refine (pattern_Substitute.calls k2 _ _ l0_0 a0_1 (fun k_ => ((True ∧ k_ ≠ gb376) ∧ k_ ≠ gb377)) _ _ t385 t390 t393 t394 _ ?side1 ?side2 ?side3 A63.out).mono ?_); (case side1 => exact sd_); (case side2 => exact HC0_0.out); (case side3 => exact Kd.S_V (Kd.S_types (Kd.S_types (HO387.out) BK376.out (by decide)) BK377.out (by decide))); rintro e w81 ⟨v391, rfl, ho0, hb⟩; have n0_ := Aside0.mk (Kd.S_elder' (by (with_reducible repeat (first | apply Kd.S_alloc | apply Kd.S_drewN | apply Kd.S_drew)); exact HO387.out) (Kd.R_base ho0) hb); have n1_ := Aside0.mk (Kd.R_lower (Kd.R_mono (ok' := fun k_ => True) ho0 (fun _ hk_ => trivial)) (below_size hb_)); replace BK376 := bb_ BK376 hb; replace BK377 := bb_ BK377 hb; replace HB := hs_ HB hb; clear HO387; have HO387 := n0_; have HO392 := n1_; clear n0_ n1_; (try clear hb); (try clear hb2); (try clear hk); (try clear hi); (try clear ho0)) | ((with_reducible refine gate_dst (N := 11) rfl ?_); (try (refine gate_guard (by rfl) ?_; dsimp only)); refine box_event ?hg (N := 11) ?hd (cs := #[.slice none 0 0, .bool false]) (t := 24) ?hr ?_; (case hd => rfl); (case hg => rfl); (case hr => first | (go_simp; done) | (go_simp; rfl)); intro gb395 hg w82 hbox hb; have n0_ := Aside0.mk (Kd.S_below (by (with_reducible repeat (first | apply Kd.S_alloc | apply Kd.S_drewN | apply Kd.S_drew)); exact HO387.out) hb); have BK395 := Aside0.mk hbox; have GW395 := gw_ HB hg; have GE395 := gw_ HB hg; have NB376_395 := nl_ BK376 hg; have NB395_376 := nr_ BK376 hg; have NB377_395 := nl_ BK377 hg; have NB395_377 := nr_ BK377 hg; replace HO392 := rb_ HO392 hb; replace BK376 := bb_ BK376 hb; replace BK377 := bb_ BK377 hb; replace HB := hs_ HB hb; clear HO387; have HO387 := n0_; clear n0_; clear hb hbox hg; obtain ⟨Ao83, co83, eo83⟩ := Kd.R_slice HO392.out; subst eo83; have hnb84 := NB395_376.out; have hnc84 := NB376_395.out; have hnb85 := NB395_377.out; have hnc85 := NB377_395.out; obtain ⟨hcz86_0, hcz86_1, hfz86_0, hfz86_1⟩ := c2_ BK395; obtain ⟨hcz87_0, hcz87_1, hfz87_0, hfz87_1⟩ := c2_ BK377) | (go_at_call 20; (with_reducible refine (stockyardlaw03_equal.calls k2 _ _ t390 _ _ l1_0 true _ ?side1 ?side2 ?side3 ?side4 A76.out).mono ?_); (case side1 => refine (Kd.R_reads' (e := 9) (base := w.heap.size) (ok := fun k_ => True) (n := t390.length) (c := co83) ?_).2.2; exact (by (with_reducible repeat (first | apply Kd.R_alloc | apply Kd.R_drewN | apply Kd.R_drew)); exact (Kd.R_mono (Kd.R_far (p := ⟨gb395, 1, none⟩) (Kd.R_far (p := ⟨gb395, 0, none⟩) (Kd.R_types HO392.out BK395.out (by decide)) (fun _ hk => hk.2) (.slice Ao83 t390.length co83)) (fun _ hk => hk.2) (.bool t393)) (fun _ h_ => h_.1)))); (case side2 => exact (Kd.R_reads' HO392.out).2.1); (case side3 => exact Kd.C_below HR1_0.out hb_); (case side4 => exact HC1_0.out); rintro e w' ⟨rfl, ⟨nd, rfl⟩⟩; (try first | exact ⟨rfl, _, World.drewN_drewN _ _ _⟩ | exact ⟨rfl, _, Eq.trans (World.drewN_drewN _ _ _) (congrArg (World.drewN _) (Nat.add_assoc _ _ _))⟩)))
                          repeat (go_quiet (first | (go_at_call 15; (with_reducible refine (pattern_Substitute.calls k2 _ _ l0_0 a0_1 (fun k_ => ((True ∧ k_ ≠ gb376) ∧ k_ ≠ gb377)) _ _ t385 t390 t393 t394 _ ?side1 ?side2 ?side3 A63.out).mono ?_); (case side1 => exact sd_); (case side2 => exact HC0_0.out); (case side3 => exact Kd.S_V (Kd.S_types (Kd.S_types (HO387.out) BK376.out (by decide)) BK377.out (by decide))); rintro e w81 ⟨v391, rfl, ho0, hb⟩; have n0_ := Aside0.mk (Kd.S_elder' (by (with_reducible repeat (first | apply Kd.S_alloc | apply Kd.S_drewN | apply Kd.S_drew)); exact HO387.out) (Kd.R_base ho0) hb); have n1_ := Aside0.mk (Kd.R_lower (Kd.R_mono (ok' := fun k_ => True) ho0 (fun _ hk_ => trivial)) (below_size hb_)); replace BK376 := bb_ BK376 hb; replace BK377 := bb_ BK377 hb; replace HB := hs_ HB hb; clear HO387; have HO387 := n0_; have HO392 := n1_; clear n0_ n1_; (try clear hb); (try clear hb2); (try clear hk); (try clear hi); (try clear ho0)) | ((with_reducible refine gate_dst (N := 11) rfl ?_); (try (refine gate_guard (by rfl) ?_; dsimp only)); refine box_event ?hg (N := 11) ?hd (cs := #[.slice none 0 0, .bool false]) (t := 24) ?hr ?_; (case hd => rfl); (case hg => rfl); (case hr => first | (go_simp; done) | (go_simp; rfl)); intro gb395 hg w82 hbox hb; have n0_ := Aside0.mk (Kd.S_below (by (with_reducible repeat (first | apply Kd.S_alloc | apply Kd.S_drewN | apply Kd.S_drew)); exact HO387.out) hb); have BK395 := Aside0.mk hbox; have GW395 := gw_ HB hg; have GE395 := gw_ HB hg; have NB376_395 := nl_ BK376 hg; have NB395_376 := nr_ BK376 hg; have NB377_395 := nl_ BK377 hg; have NB395_377 := nr_ BK377 hg; replace HO392 := rb_ HO392 hb; replace BK376 := bb_ BK376 hb; replace BK377 := bb_ BK377 hb; replace HB := hs_ HB hb; clear HO387; have HO387 := n0_; clear n0_; clear hb hbox hg; obtain ⟨Ao83, co83, eo83⟩ := Kd.R_slice HO392.out; subst eo83; have hnb84 := NB395_376.out; have hnc84 := NB376_395.out; have hnb85 := NB395_377.out; have hnc85 := NB377_395.out; obtain ⟨hcz86_0, hcz86_1, hfz86_0, hfz86_1⟩ := c2_ BK395; obtain ⟨hcz87_0, hcz87_1, hfz87_0, hfz87_1⟩ := c2_ BK377) | (go_at_call 20; (with_reducible refine (stockyardlaw03_equal.calls k2 _ _ t390 _ _ l1_0 true _ ?side1 ?side2 ?side3 ?side4 A76.out).mono ?_); (case side1 => refine (Kd.R_reads' (e := 9) (base := w.heap.size) (ok := fun k_ => True) (n := t390.length) (c := co83) ?_).2.2; exact (by (with_reducible repeat (first | apply Kd.R_alloc | apply Kd.R_drewN | apply Kd.R_drew)); exact (Kd.R_mono (Kd.R_far (p := ⟨gb395, 1, none⟩) (Kd.R_far (p := ⟨gb395, 0, none⟩) (Kd.R_types HO392.out BK395.out (by decide)) (fun _ hk => hk.2) (.slice Ao83 t390.length co83)) (fun _ hk => hk.2) (.bool t393)) (fun _ h_ => h_.1)))); (case side2 => exact (Kd.R_reads' HO392.out).2.1); (case side3 => exact Kd.C_below HR1_0.out hb_); (case side4 => exact HC1_0.out); rintro e w' ⟨rfl, ⟨nd, rfl⟩⟩; (try first | exact ⟨rfl, _, World.drewN_drewN _ _ _⟩ | exact ⟨rfl, _, Eq.trans (World.drewN_drewN _ _ _) (congrArg (World.drewN _) (Nat.add_assoc _ _ _))⟩))); try go_wp2_with (first | (go_at_call 15; (with_reducible refine (pattern_Substitute.calls k2 _ _ l0_0 a0_1 (fun k_ => ((True ∧ k_ ≠ gb376) ∧ k_ ≠ gb377)) _ _ t385 t390 t393 t394 _ ?side1 ?side2 ?side3 A63.out).mono ?_); (case side1 => exact sd_); (case side2 => exact HC0_0.out); (case side3 => exact Kd.S_V (Kd.S_types (Kd.S_types (HO387.out) BK376.out (by decide)) BK377.out (by decide))); rintro e w81 ⟨v391, rfl, ho0, hb⟩; have n0_ := Aside0.mk (Kd.S_elder' (by (with_reducible repeat (first | apply Kd.S_alloc | apply Kd.S_drewN | apply Kd.S_drew)); exact HO387.out) (Kd.R_base ho0) hb); have n1_ := Aside0.mk (Kd.R_lower (Kd.R_mono (ok' := fun k_ => True) ho0 (fun _ hk_ => trivial)) (below_size hb_)); have n2_ := Aside0.mk (blk_below (g := gb376) (o := .cells #[.slice A0_0 l0_0.length c0_0, .bool a0_1] 24 (0, 0)) bk_ hb); have n3_ := Aside0.mk (blk_below (g := gb377) (o := .cells #[.slice A1_0 l1_0.length c1_0, .bool a1_1] 24 (0, 0)) bk_ hb); have n4_ := Aside0.mk (below_step hb_ hb); clear HO387; clear BK376; clear BK377; clear HB; have HO387 := n0_; have HO392 := n1_; have BK376 := n2_; have BK377 := n3_; have HB := n4_; clear n0_ n1_ n2_ n3_ n4_; (try clear hb); (try clear hb2); (try clear hk); (try clear hi); (try clear ho0)) | ((with_reducible refine gate_dst (N := 11) rfl ?_); (try (refine gate_guard (by rfl) ?_; dsimp only)); refine box_event ?hg (N := 11) ?hd (cs := #[.slice none 0 0, .bool false]) (t := 24) ?hr ?_; (case hd => rfl); (case hg => rfl); (case hr => first | (go_simp; done) | (go_simp; rfl)); intro gb395 hg w82 hbox hb; have n0_ := Aside0.mk (Kd.S_below (by (with_reducible repeat (first | apply Kd.S_alloc | apply Kd.S_drewN | apply Kd.S_drew)); exact HO387.out) hb); have n1_ := Aside0.mk (Kd.R_below (rp_ HO392) hb); have n2_ := Aside0.mk (blk_below (g := gb376) (o := .cells #[.slice A0_0 l0_0.length c0_0, .bool a0_1] 24 (0, 0)) bk_ hb); have n3_ := Aside0.mk (blk_below (g := gb377) (o := .cells #[.slice A1_0 l1_0.length c1_0, .bool a1_1] 24 (0, 0)) bk_ hb); have n4_ := Aside0.mk (below_step hb_ hb); have n5_ := Aside0.mk (hbox); have n6_ := Aside0.mk ((by rw [hg]; exact (below_size hb_) : w.heap.size ≤ gb395)); have n7_ := Aside0.mk ((by rw [hg]; exact (below_size hb_) : w.heap.size ≤ gb395)); have n8_ := Aside0.mk ((by rw [hg]; exact Nat.ne_of_lt (blk_lt (g := gb376) (o := .cells #[.slice A0_0 l0_0.length c0_0, .bool a0_1] 24 (0, 0)) bk_) : gb376 ≠ gb395)); have n9_ := Aside0.mk ((by rw [hg]; exact Nat.ne_of_gt (blk_lt (g := gb376) (o := .cells #[.slice A0_0 l0_0.length c0_0, .bool a0_1] 24 (0, 0)) bk_) : gb395 ≠ gb376)); have n10_ := Aside0.mk ((by rw [hg]; exact Nat.ne_of_lt (blk_lt (g := gb377) (o := .cells #[.slice A1_0 l1_0.length c1_0, .bool a1_1] 24 (0, 0)) bk_) : gb377 ≠ gb395)); have n11_ := Aside0.mk ((by rw [hg]; exact Nat.ne_of_gt (blk_lt (g := gb377) (o := .cells #[.slice A1_0 l1_0.length c1_0, .bool a1_1] 24 (0, 0)) bk_) : gb395 ≠ gb377)); clear HO387; clear HO392; clear BK376; clear BK377; clear HB; have HO387 := n0_; have HO392 := n1_; have BK376 := n2_; have BK377 := n3_; have HB := n4_; have BK395 := n5_; have GW395 := n6_; have GE395 := n7_; have NB376_395 := n8_; have NB395_376 := n9_; have NB377_395 := n10_; have NB395_377 := n11_; clear n0_ n1_ n2_ n3_ n4_ n5_ n6_ n7_ n8_ n9_ n10_ n11_; clear hb hbox hg; obtain ⟨Ao83, co83, eo83⟩ := Kd.R_slice HO392.out; subst eo83; have hnb84 := NB395_376.out; have hnc84 := NB376_395.out; have hnb85 := NB395_377.out; have hnc85 := NB377_395.out; have hcz86_0 : w82.cell? ⟨gb395, 0, none⟩ = some (.slice none 0 0) := (blk_cell BK395.out 0).trans rfl; have hcz86_1 : w82.cell? ⟨gb395, 1, none⟩ = some (.bool false) := (blk_cell BK395.out 1).trans rfl; have hfz86_0 := blk_frozen BK395.out 0; have hfz86_1 := blk_frozen BK395.out 1; have hcz87_0 : w82.cell? ⟨gb377, 0, none⟩ = some (.slice A1_0 l1_0.length c1_0) := (blk_cell BK377.out 0).trans rfl; have hcz87_1 : w82.cell? ⟨gb377, 1, none⟩ = some (.bool a1_1) := (blk_cell BK377.out 1).trans rfl; have hfz87_0 := blk_frozen BK377.out 0; have hfz87_1 := blk_frozen BK377.out 1) | (go_at_call 20; (with_reducible refine (stockyardlaw03_equal.calls k2 _ _ t390 _ _ l1_0 true _ ?side1 ?side2 ?side3 ?side4 A76.out).mono ?_); (case side1 => refine (Kd.R_reads' (e := 9) (base := w.heap.size) (ok := fun k_ => True) (n := t390.length) (c := co83) ?_).2.2; exact (by (with_reducible repeat (first | apply Kd.R_alloc | apply Kd.R_drewN | apply Kd.R_drew)); exact (Kd.R_mono (Kd.R_far (p := ⟨gb395, 1, none⟩) (Kd.R_far (p := ⟨gb395, 0, none⟩) (Kd.R_types HO392.out BK395.out (by decide)) (fun _ hk => hk.2) (.slice Ao83 t390.length co83)) (fun _ hk => hk.2) (.bool t393)) (fun _ h_ => h_.1)))); (case side2 => exact (Kd.R_reads' HO392.out).2.1); (case side3 => exact Kd.C_below HR1_0.out hb_); (case side4 => exact HC1_0.out); rintro e w' ⟨rfl, ⟨nd, rfl⟩⟩; (try first | exact ⟨rfl, _, World.drewN_drewN _ _ _⟩ | exact ⟨rfl, _, Eq.trans (World.drewN_drewN _ _ _) (congrArg (World.drewN _) (Nat.add_assoc _ _ _))⟩))))
                          go_meet
                          case rel => exact ⟨_, H', ⟨by have := HJ3.out; have := HK2.out; first | omega | exact Nat.le_refl _⟩, ⟨by (with_reducible repeat (first | refine blk_drewN ?_ _ | refine blk_drew ?_ | refine blk_alloc ?_ _)); refine blk_far ?_ NB376_395.out _; (with_reducible repeat (first | refine blk_drewN ?_ _ | refine blk_drew ?_ | refine blk_alloc ?_ _)); refine blk_far ?_ NB376_395.out _; (with_reducible repeat (first | refine blk_drewN ?_ _ | refine blk_drew ?_ | refine blk_alloc ?_ _)); exact BK376.out⟩, ⟨by (with_reducible repeat (first | refine blk_drewN ?_ _ | refine blk_drew ?_ | refine blk_alloc ?_ _)); refine blk_far ?_ NB377_395.out _; (with_reducible repeat (first | refine blk_drewN ?_ _ | refine blk_drew ?_ | refine blk_alloc ?_ _)); refine blk_far ?_ NB377_395.out _; (with_reducible repeat (first | refine blk_drewN ?_ _ | refine blk_drew ?_ | refine blk_alloc ?_ _)); exact BK377.out⟩, ⟨hb_⟩⟩
                        · replace c77 := Bool.eq_false_iff.mpr c77
                          subst c77
                          have H1 : (some false) = some r := by rw [if_neg (show ¬ (false = true) by decide)] at H; exact H
                          clear H
                          have H := H1
                          clear H1
                          obtain rfl := Option.some.inj H
                          have hnb88 := NB376_377.out
                          have hnc88 := NB377_376.out
                          obtain ⟨hcz89_0, hcz89_1, hfz89_0, hfz89_1⟩ := c2_ BK376
                          obtain ⟨Ao90, co90, eo90⟩ := Kd.S_slice HO387.out
                          subst eo90
                          go_wp2_with (first | (go_at_call 15; (with_reducible refine (pattern_Substitute.calls k2 _ _ l0_0 a0_1 (fun k_ => ((True ∧ k_ ≠ gb376) ∧ k_ ≠ gb377)) _ _ t385 t390 t393 t394 _ ?side1 ?side2 ?side3 A63.out).mono ?_); (case side1 => exact sd_); (case side2 => exact HC0_0.out); (case side3 => exact Kd.S_V (Kd.S_types (Kd.S_types (HO387.out) BK376.out (by decide)) BK377.out (by decide))); rintro e w91 ⟨v391, rfl, ho0, hb⟩; have n0_ := Aside0.mk (Kd.S_elder' (by (with_reducible repeat (first | apply Kd.S_alloc | apply Kd.S_drewN | apply Kd.S_drew)); exact HO387.out) (Kd.R_base ho0) hb); have n1_ := Aside0.mk (Kd.R_lower (Kd.R_mono (ok' := fun k_ => True) ho0 (fun _ hk_ => trivial)) (below_size hb_)); replace BK376 := bb_ BK376 hb; replace BK377 := bb_ BK377 hb; replace HB := hs_ HB hb; clear HO387; have HO387 := n0_; have HO392 := n1_; clear n0_ n1_; (try clear hb); (try clear hb2); (try clear hk); (try clear hi); (try clear ho0)) | ((with_reducible refine gate_dst (N := 11) rfl ?_); (try (refine gate_guard (by rfl) ?_; dsimp only)); refine box_event ?hg (N := 11) ?hd (cs := #[.slice none 0 0, .bool false]) (t := 24) ?hr ?_; (case hd => rfl); (case hg => rfl); (case hr => first | (go_simp; done) | (go_simp; rfl)); intro gb395 hg w92 hbox hb; have n0_ := Aside0.mk (Kd.S_below (by (with_reducible repeat (first | apply Kd.S_alloc | apply Kd.S_drewN | apply Kd.S_drew)); exact HO387.out) hb); have BK395 := Aside0.mk hbox; have GW395 := gw_ HB hg; have GE395 := gw_ HB hg; have NB376_395 := nl_ BK376 hg; have NB395_376 := nr_ BK376 hg; have NB377_395 := nl_ BK377 hg; have NB395_377 := nr_ BK377 hg; replace HO392 := rb_ HO392 hb; replace BK376 := bb_ BK376 hb; replace BK377 := bb_ BK377 hb; replace HB := hs_ HB hb; clear HO387; have HO387 := n0_; clear n0_; clear hb hbox hg; obtain ⟨Ao93, co93, eo93⟩ := Kd.R_slice HO392.out; subst eo93; have hnb94 := NB395_376.out; have hnc94 := NB376_395.out; have hnb95 := NB395_377.out; have hnc95 := NB377_395.out; obtain ⟨hcz96_0, hcz96_1, hfz96_0, hfz96_1⟩ := c2_ BK395; obtain ⟨hcz97_0, hcz97_1, hfz97_0, hfz97_1⟩ := c2_ BK377) | (go_at_call 20; (with_reducible refine (stockyardlaw03_equal.calls k2 _ _ t390 _ _ l1_0 false _ ?side1 ?side2 ?side3 ?side4 A76.out).mono ?_); (case side1 => refine (Kd.R_reads' (e := 9) (base := w.heap.size) (ok := fun k_ => True) (n := t390.length) (c := co93) ?_).2.2; exact (by (with_reducible repeat (first | apply Kd.R_alloc | apply Kd.R_drewN | apply Kd.R_drew)); exact (Kd.R_mono (Kd.R_far (p := ⟨gb395, 1, none⟩) (Kd.R_far (p := ⟨gb395, 0, none⟩) (Kd.R_types HO392.out BK395.out (by decide)) (fun _ hk => hk.2) (.slice Ao93 t390.length co93)) (fun _ hk => hk.2) (.bool t393)) (fun _ h_ => h_.1)))); (case side2 => exact (Kd.R_reads' HO392.out).2.1); (case side3 => exact Kd.C_below HR1_0.out hb_); (case side4 => exact HC1_0.out); rintro e w' ⟨rfl, ⟨nd, rfl⟩⟩; (try first | exact ⟨rfl, _, World.drewN_drewN _ _ _⟩ | exact ⟨rfl, _, Eq.trans (World.drewN_drewN _ _ _) (congrArg (World.drewN _) (Nat.add_assoc _ _ _))⟩)))
                          repeat (go_quiet (first | (go_at_call 15; (with_reducible refine (pattern_Substitute.calls k2 _ _ l0_0 a0_1 (fun k_ => ((True ∧ k_ ≠ gb376) ∧ k_ ≠ gb377)) _ _ t385 t390 t393 t394 _ ?side1 ?side2 ?side3 A63.out).mono ?_); (case side1 => exact sd_); (case side2 => exact HC0_0.out); (case side3 => exact Kd.S_V (Kd.S_types (Kd.S_types (HO387.out) BK376.out (by decide)) BK377.out (by decide))); rintro e w91 ⟨v391, rfl, ho0, hb⟩; have n0_ := Aside0.mk (Kd.S_elder' (by (with_reducible repeat (first | apply Kd.S_alloc | apply Kd.S_drewN | apply Kd.S_drew)); exact HO387.out) (Kd.R_base ho0) hb); have n1_ := Aside0.mk (Kd.R_lower (Kd.R_mono (ok' := fun k_ => True) ho0 (fun _ hk_ => trivial)) (below_size hb_)); replace BK376 := bb_ BK376 hb; replace BK377 := bb_ BK377 hb; replace HB := hs_ HB hb; clear HO387; have HO387 := n0_; have HO392 := n1_; clear n0_ n1_; (try clear hb); (try clear hb2); (try clear hk); (try clear hi); (try clear ho0)) | ((with_reducible refine gate_dst (N := 11) rfl ?_); (try (refine gate_guard (by rfl) ?_; dsimp only)); refine box_event ?hg (N := 11) ?hd (cs := #[.slice none 0 0, .bool false]) (t := 24) ?hr ?_; (case hd => rfl); (case hg => rfl); (case hr => first | (go_simp; done) | (go_simp; rfl)); intro gb395 hg w92 hbox hb; have n0_ := Aside0.mk (Kd.S_below (by (with_reducible repeat (first | apply Kd.S_alloc | apply Kd.S_drewN | apply Kd.S_drew)); exact HO387.out) hb); have BK395 := Aside0.mk hbox; have GW395 := gw_ HB hg; have GE395 := gw_ HB hg; have NB376_395 := nl_ BK376 hg; have NB395_376 := nr_ BK376 hg; have NB377_395 := nl_ BK377 hg; have NB395_377 := nr_ BK377 hg; replace HO392 := rb_ HO392 hb; replace BK376 := bb_ BK376 hb; replace BK377 := bb_ BK377 hb; replace HB := hs_ HB hb; clear HO387; have HO387 := n0_; clear n0_; clear hb hbox hg; obtain ⟨Ao93, co93, eo93⟩ := Kd.R_slice HO392.out; subst eo93; have hnb94 := NB395_376.out; have hnc94 := NB376_395.out; have hnb95 := NB395_377.out; have hnc95 := NB377_395.out; obtain ⟨hcz96_0, hcz96_1, hfz96_0, hfz96_1⟩ := c2_ BK395; obtain ⟨hcz97_0, hcz97_1, hfz97_0, hfz97_1⟩ := c2_ BK377) | (go_at_call 20; (with_reducible refine (stockyardlaw03_equal.calls k2 _ _ t390 _ _ l1_0 false _ ?side1 ?side2 ?side3 ?side4 A76.out).mono ?_); (case side1 => refine (Kd.R_reads' (e := 9) (base := w.heap.size) (ok := fun k_ => True) (n := t390.length) (c := co93) ?_).2.2; exact (by (with_reducible repeat (first | apply Kd.R_alloc | apply Kd.R_drewN | apply Kd.R_drew)); exact (Kd.R_mono (Kd.R_far (p := ⟨gb395, 1, none⟩) (Kd.R_far (p := ⟨gb395, 0, none⟩) (Kd.R_types HO392.out BK395.out (by decide)) (fun _ hk => hk.2) (.slice Ao93 t390.length co93)) (fun _ hk => hk.2) (.bool t393)) (fun _ h_ => h_.1)))); (case side2 => exact (Kd.R_reads' HO392.out).2.1); (case side3 => exact Kd.C_below HR1_0.out hb_); (case side4 => exact HC1_0.out); rintro e w' ⟨rfl, ⟨nd, rfl⟩⟩; (try first | exact ⟨rfl, _, World.drewN_drewN _ _ _⟩ | exact ⟨rfl, _, Eq.trans (World.drewN_drewN _ _ _) (congrArg (World.drewN _) (Nat.add_assoc _ _ _))⟩))); try go_wp2_with (first | (go_at_call 15; (with_reducible refine (pattern_Substitute.calls k2 _ _ l0_0 a0_1 (fun k_ => ((True ∧ k_ ≠ gb376) ∧ k_ ≠ gb377)) _ _ t385 t390 t393 t394 _ ?side1 ?side2 ?side3 A63.out).mono ?_); (case side1 => exact sd_); (case side2 => exact HC0_0.out); (case side3 => exact Kd.S_V (Kd.S_types (Kd.S_types (HO387.out) BK376.out (by decide)) BK377.out (by decide))); rintro e w91 ⟨v391, rfl, ho0, hb⟩; have n0_ := Aside0.mk (Kd.S_elder' (by (with_reducible repeat (first | apply Kd.S_alloc | apply Kd.S_drewN | apply Kd.S_drew)); exact HO387.out) (Kd.R_base ho0) hb); have n1_ := Aside0.mk (Kd.R_lower (Kd.R_mono (ok' := fun k_ => True) ho0 (fun _ hk_ => trivial)) (below_size hb_)); have n2_ := Aside0.mk (blk_below (g := gb376) (o := .cells #[.slice A0_0 l0_0.length c0_0, .bool a0_1] 24 (0, 0)) bk_ hb); have n3_ := Aside0.mk (blk_below (g := gb377) (o := .cells #[.slice A1_0 l1_0.length c1_0, .bool a1_1] 24 (0, 0)) bk_ hb); have n4_ := Aside0.mk (below_step hb_ hb); clear HO387; clear BK376; clear BK377; clear HB; have HO387 := n0_; have HO392 := n1_; have BK376 := n2_; have BK377 := n3_; have HB := n4_; clear n0_ n1_ n2_ n3_ n4_; (try clear hb); (try clear hb2); (try clear hk); (try clear hi); (try clear ho0)) | ((with_reducible refine gate_dst (N := 11) rfl ?_); (try (refine gate_guard (by rfl) ?_; dsimp only)); refine box_event ?hg (N := 11) ?hd (cs := #[.slice none 0 0, .bool false]) (t := 24) ?hr ?_; (case hd => rfl); (case hg => rfl); (case hr => first | (go_simp; done) | (go_simp; rfl)); intro gb395 hg w92 hbox hb; have n0_ := Aside0.mk (Kd.S_below (by (with_reducible repeat (first | apply Kd.S_alloc | apply Kd.S_drewN | apply Kd.S_drew)); exact HO387.out) hb); have n1_ := Aside0.mk (Kd.R_below (rp_ HO392) hb); have n2_ := Aside0.mk (blk_below (g := gb376) (o := .cells #[.slice A0_0 l0_0.length c0_0, .bool a0_1] 24 (0, 0)) bk_ hb); have n3_ := Aside0.mk (blk_below (g := gb377) (o := .cells #[.slice A1_0 l1_0.length c1_0, .bool a1_1] 24 (0, 0)) bk_ hb); have n4_ := Aside0.mk (below_step hb_ hb); have n5_ := Aside0.mk (hbox); have n6_ := Aside0.mk ((by rw [hg]; exact (below_size hb_) : w.heap.size ≤ gb395)); have n7_ := Aside0.mk ((by rw [hg]; exact (below_size hb_) : w.heap.size ≤ gb395)); have n8_ := Aside0.mk ((by rw [hg]; exact Nat.ne_of_lt (blk_lt (g := gb376) (o := .cells #[.slice A0_0 l0_0.length c0_0, .bool a0_1] 24 (0, 0)) bk_) : gb376 ≠ gb395)); have n9_ := Aside0.mk ((by rw [hg]; exact Nat.ne_of_gt (blk_lt (g := gb376) (o := .cells #[.slice A0_0 l0_0.length c0_0, .bool a0_1] 24 (0, 0)) bk_) : gb395 ≠ gb376)); have n10_ := Aside0.mk ((by rw [hg]; exact Nat.ne_of_lt (blk_lt (g := gb377) (o := .cells #[.slice A1_0 l1_0.length c1_0, .bool a1_1] 24 (0, 0)) bk_) : gb377 ≠ gb395)); have n11_ := Aside0.mk ((by rw [hg]; exact Nat.ne_of_gt (blk_lt (g := gb377) (o := .cells #[.slice A1_0 l1_0.length c1_0, .bool a1_1] 24 (0, 0)) bk_) : gb395 ≠ gb377)); clear HO387; clear HO392; clear BK376; clear BK377; clear HB; have HO387 := n0_; have HO392 := n1_; have BK376 := n2_; have BK377 := n3_; have HB := n4_; have BK395 := n5_; have GW395 := n6_; have GE395 := n7_; have NB376_395 := n8_; have NB395_376 := n9_; have NB377_395 := n10_; have NB395_377 := n11_; clear n0_ n1_ n2_ n3_ n4_ n5_ n6_ n7_ n8_ n9_ n10_ n11_; clear hb hbox hg; obtain ⟨Ao93, co93, eo93⟩ := Kd.R_slice HO392.out; subst eo93; have hnb94 := NB395_376.out; have hnc94 := NB376_395.out; have hnb95 := NB395_377.out; have hnc95 := NB377_395.out; have hcz96_0 : w92.cell? ⟨gb395, 0, none⟩ = some (.slice none 0 0) := (blk_cell BK395.out 0).trans rfl; have hcz96_1 : w92.cell? ⟨gb395, 1, none⟩ = some (.bool false) := (blk_cell BK395.out 1).trans rfl; have hfz96_0 := blk_frozen BK395.out 0; have hfz96_1 := blk_frozen BK395.out 1; have hcz97_0 : w92.cell? ⟨gb377, 0, none⟩ = some (.slice A1_0 l1_0.length c1_0) := (blk_cell BK377.out 0).trans rfl; have hcz97_1 : w92.cell? ⟨gb377, 1, none⟩ = some (.bool a1_1) := (blk_cell BK377.out 1).trans rfl; have hfz97_0 := blk_frozen BK377.out 0; have hfz97_1 := blk_frozen BK377.out 1) | (go_at_call 20; (with_reducible refine (stockyardlaw03_equal.calls k2 _ _ t390 _ _ l1_0 false _ ?side1 ?side2 ?side3 ?side4 A76.out).mono ?_); (case side1 => refine (Kd.R_reads' (e := 9) (base := w.heap.size) (ok := fun k_ => True) (n := t390.length) (c := co93) ?_).2.2; exact (by (with_reducible repeat (first | apply Kd.R_alloc | apply Kd.R_drewN | apply Kd.R_drew)); exact (Kd.R_mono (Kd.R_far (p := ⟨gb395, 1, none⟩) (Kd.R_far (p := ⟨gb395, 0, none⟩) (Kd.R_types HO392.out BK395.out (by decide)) (fun _ hk => hk.2) (.slice Ao93 t390.length co93)) (fun _ hk => hk.2) (.bool t393)) (fun _ h_ => h_.1)))); (case side2 => exact (Kd.R_reads' HO392.out).2.1); (case side3 => exact Kd.C_below HR1_0.out hb_); (case side4 => exact HC1_0.out); rintro e w' ⟨rfl, ⟨nd, rfl⟩⟩; (try first | exact ⟨rfl, _, World.drewN_drewN _ _ _⟩ | exact ⟨rfl, _, Eq.trans (World.drewN_drewN _ _ _) (congrArg (World.drewN _) (Nat.add_assoc _ _ _))⟩))))
                          go_ret
                          exact ⟨rt_, hb_⟩
                    · rw [if_neg c64] at H
                      have c64b0 : (t394 == 0) = false := beq_eq_false_iff_ne.mpr c64
                      have c64b1 : (t394 != 0) = true := bne_iff_ne.mpr c64
                      (first | rw [c64b0] | (simp only [i64_w, i32_w]; rw [c64b0]) | skip)
                      obtain rfl := Option.some.inj H
                      have hnb98 := NB376_377.out
                      have hnc98 := NB377_376.out
                      obtain ⟨hcz99_0, hcz99_1, hfz99_0, hfz99_1⟩ := c2_ BK376
                      obtain ⟨Ao100, co100, eo100⟩ := Kd.S_slice HO387.out
                      subst eo100
                      go_wp2_with (first | (go_at_call 15; (with_reducible refine (pattern_Substitute.calls k2 _ _ l0_0 a0_1 (fun k_ => ((True ∧ k_ ≠ gb376) ∧ k_ ≠ gb377)) _ _ t385 t390 t393 t394 _ ?side1 ?side2 ?side3 A63.out).mono ?_); (case side1 => exact sd_); (case side2 => exact HC0_0.out); (case side3 => exact Kd.S_V (Kd.S_types (Kd.S_types (HO387.out) BK376.out (by decide)) BK377.out (by decide))); rintro e w101 ⟨v391, rfl, ho0, hb⟩; have n0_ := Aside0.mk (Kd.S_elder' (by (with_reducible repeat (first | apply Kd.S_alloc | apply Kd.S_drewN | apply Kd.S_drew)); exact HO387.out) (Kd.R_base ho0) hb); have n1_ := Aside0.mk (Kd.R_lower (Kd.R_mono (ok' := fun k_ => True) ho0 (fun _ hk_ => trivial)) (below_size hb_)); replace BK376 := bb_ BK376 hb; replace BK377 := bb_ BK377 hb; replace HB := hs_ HB hb; clear HO387; have HO387 := n0_; have HO392 := n1_; clear n0_ n1_; (try clear hb); (try clear hb2); (try clear hk); (try clear hi); (try clear ho0)) | ((with_reducible refine gate_dst (N := 11) rfl ?_); (try (refine gate_guard (by rfl) ?_; dsimp only)); refine box_event ?hg (N := 11) ?hd (cs := #[.slice none 0 0, .bool false]) (t := 24) ?hr ?_; (case hd => rfl); (case hg => rfl); (case hr => first | (go_simp; done) | (go_simp; rfl)); intro gb395 hg w102 hbox hb; have n0_ := Aside0.mk (Kd.S_below (by (with_reducible repeat (first | apply Kd.S_alloc | apply Kd.S_drewN | apply Kd.S_drew)); exact HO387.out) hb); have BK395 := Aside0.mk hbox; have GW395 := gw_ HB hg; have GE395 := gw_ HB hg; have NB376_395 := nl_ BK376 hg; have NB395_376 := nr_ BK376 hg; have NB377_395 := nl_ BK377 hg; have NB395_377 := nr_ BK377 hg; replace HO392 := rb_ HO392 hb; replace BK376 := bb_ BK376 hb; replace BK377 := bb_ BK377 hb; replace HB := hs_ HB hb; clear HO387; have HO387 := n0_; clear n0_; clear hb hbox hg; obtain ⟨Ao103, co103, eo103⟩ := Kd.R_slice HO392.out; subst eo103; have hnb104 := NB395_376.out; have hnc104 := NB376_395.out; have hnb105 := NB395_377.out; have hnc105 := NB377_395.out; obtain ⟨hcz106_0, hcz106_1, hfz106_0, hfz106_1⟩ := c2_ BK395))
                      repeat (go_quiet (first | (go_at_call 15; (with_reducible refine (pattern_Substitute.calls k2 _ _ l0_0 a0_1 (fun k_ => ((True ∧ k_ ≠ gb376) ∧ k_ ≠ gb377)) _ _ t385 t390 t393 t394 _ ?side1 ?side2 ?side3 A63.out).mono ?_); (case side1 => exact sd_); (case side2 => exact HC0_0.out); (case side3 => exact Kd.S_V (Kd.S_types (Kd.S_types (HO387.out) BK376.out (by decide)) BK377.out (by decide))); rintro e w101 ⟨v391, rfl, ho0, hb⟩; have n0_ := Aside0.mk (Kd.S_elder' (by (with_reducible repeat (first | apply Kd.S_alloc | apply Kd.S_drewN | apply Kd.S_drew)); exact HO387.out) (Kd.R_base ho0) hb); have n1_ := Aside0.mk (Kd.R_lower (Kd.R_mono (ok' := fun k_ => True) ho0 (fun _ hk_ => trivial)) (below_size hb_)); replace BK376 := bb_ BK376 hb; replace BK377 := bb_ BK377 hb; replace HB := hs_ HB hb; clear HO387; have HO387 := n0_; have HO392 := n1_; clear n0_ n1_; (try clear hb); (try clear hb2); (try clear hk); (try clear hi); (try clear ho0)) | ((with_reducible refine gate_dst (N := 11) rfl ?_); (try (refine gate_guard (by rfl) ?_; dsimp only)); refine box_event ?hg (N := 11) ?hd (cs := #[.slice none 0 0, .bool false]) (t := 24) ?hr ?_; (case hd => rfl); (case hg => rfl); (case hr => first | (go_simp; done) | (go_simp; rfl)); intro gb395 hg w102 hbox hb; have n0_ := Aside0.mk (Kd.S_below (by (with_reducible repeat (first | apply Kd.S_alloc | apply Kd.S_drewN | apply Kd.S_drew)); exact HO387.out) hb); have BK395 := Aside0.mk hbox; have GW395 := gw_ HB hg; have GE395 := gw_ HB hg; have NB376_395 := nl_ BK376 hg; have NB395_376 := nr_ BK376 hg; have NB377_395 := nl_ BK377 hg; have NB395_377 := nr_ BK377 hg; replace HO392 := rb_ HO392 hb; replace BK376 := bb_ BK376 hb; replace BK377 := bb_ BK377 hb; replace HB := hs_ HB hb; clear HO387; have HO387 := n0_; clear n0_; clear hb hbox hg; obtain ⟨Ao103, co103, eo103⟩ := Kd.R_slice HO392.out; subst eo103; have hnb104 := NB395_376.out; have hnc104 := NB376_395.out; have hnb105 := NB395_377.out; have hnc105 := NB377_395.out; obtain ⟨hcz106_0, hcz106_1, hfz106_0, hfz106_1⟩ := c2_ BK395)); try go_wp2_with (first | (go_at_call 15; (with_reducible refine (pattern_Substitute.calls k2 _ _ l0_0 a0_1 (fun k_ => ((True ∧ k_ ≠ gb376) ∧ k_ ≠ gb377)) _ _ t385 t390 t393 t394 _ ?side1 ?side2 ?side3 A63.out).mono ?_); (case side1 => exact sd_); (case side2 => exact HC0_0.out); (case side3 => exact Kd.S_V (Kd.S_types (Kd.S_types (HO387.out) BK376.out (by decide)) BK377.out (by decide))); rintro e w101 ⟨v391, rfl, ho0, hb⟩; have n0_ := Aside0.mk (Kd.S_elder' (by (with_reducible repeat (first | apply Kd.S_alloc | apply Kd.S_drewN | apply Kd.S_drew)); exact HO387.out) (Kd.R_base ho0) hb); have n1_ := Aside0.mk (Kd.R_lower (Kd.R_mono (ok' := fun k_ => True) ho0 (fun _ hk_ => trivial)) (below_size hb_)); have n2_ := Aside0.mk (blk_below (g := gb376) (o := .cells #[.slice A0_0 l0_0.length c0_0, .bool a0_1] 24 (0, 0)) bk_ hb); have n3_ := Aside0.mk (blk_below (g := gb377) (o := .cells #[.slice A1_0 l1_0.length c1_0, .bool a1_1] 24 (0, 0)) bk_ hb); have n4_ := Aside0.mk (below_step hb_ hb); clear HO387; clear BK376; clear BK377; clear HB; have HO387 := n0_; have HO392 := n1_; have BK376 := n2_; have BK377 := n3_; have HB := n4_; clear n0_ n1_ n2_ n3_ n4_; (try clear hb); (try clear hb2); (try clear hk); (try clear hi); (try clear ho0)) | ((with_reducible refine gate_dst (N := 11) rfl ?_); (try (refine gate_guard (by rfl) ?_; dsimp only)); refine box_event ?hg (N := 11) ?hd (cs := #[.slice none 0 0, .bool false]) (t := 24) ?hr ?_; (case hd => rfl); (case hg => rfl); (case hr => first | (go_simp; done) | (go_simp; rfl)); intro gb395 hg w102 hbox hb; have n0_ := Aside0.mk (Kd.S_below (by (with_reducible repeat (first | apply Kd.S_alloc | apply Kd.S_drewN | apply Kd.S_drew)); exact HO387.out) hb); have n1_ := Aside0.mk (Kd.R_below (rp_ HO392) hb); have n2_ := Aside0.mk (blk_below (g := gb376) (o := .cells #[.slice A0_0 l0_0.length c0_0, .bool a0_1] 24 (0, 0)) bk_ hb); have n3_ := Aside0.mk (blk_below (g := gb377) (o := .cells #[.slice A1_0 l1_0.length c1_0, .bool a1_1] 24 (0, 0)) bk_ hb); have n4_ := Aside0.mk (below_step hb_ hb); have n5_ := Aside0.mk (hbox); have n6_ := Aside0.mk ((by rw [hg]; exact (below_size hb_) : w.heap.size ≤ gb395)); have n7_ := Aside0.mk ((by rw [hg]; exact (below_size hb_) : w.heap.size ≤ gb395)); have n8_ := Aside0.mk ((by rw [hg]; exact Nat.ne_of_lt (blk_lt (g := gb376) (o := .cells #[.slice A0_0 l0_0.length c0_0, .bool a0_1] 24 (0, 0)) bk_) : gb376 ≠ gb395)); have n9_ := Aside0.mk ((by rw [hg]; exact Nat.ne_of_gt (blk_lt (g := gb376) (o := .cells #[.slice A0_0 l0_0.length c0_0, .bool a0_1] 24 (0, 0)) bk_) : gb395 ≠ gb376)); have n10_ := Aside0.mk ((by rw [hg]; exact Nat.ne_of_lt (blk_lt (g := gb377) (o := .cells #[.slice A1_0 l1_0.length c1_0, .bool a1_1] 24 (0, 0)) bk_) : gb377 ≠ gb395)); have n11_ := Aside0.mk ((by rw [hg]; exact Nat.ne_of_gt (blk_lt (g := gb377) (o := .cells #[.slice A1_0 l1_0.length c1_0, .bool a1_1] 24 (0, 0)) bk_) : gb395 ≠ gb377)); clear HO387; clear HO392; clear BK376; clear BK377; clear HB; have HO387 := n0_; have HO392 := n1_; have BK376 := n2_; have BK377 := n3_; have HB := n4_; have BK395 := n5_; have GW395 := n6_; have GE395 := n7_; have NB376_395 := n8_; have NB395_376 := n9_; have NB377_395 := n10_; have NB395_377 := n11_; clear n0_ n1_ n2_ n3_ n4_ n5_ n6_ n7_ n8_ n9_ n10_ n11_; clear hb hbox hg; obtain ⟨Ao103, co103, eo103⟩ := Kd.R_slice HO392.out; subst eo103; have hnb104 := NB395_376.out; have hnc104 := NB376_395.out; have hnb105 := NB395_377.out; have hnc105 := NB377_395.out; have hcz106_0 : w102.cell? ⟨gb395, 0, none⟩ = some (.slice none 0 0) := (blk_cell BK395.out 0).trans rfl; have hcz106_1 : w102.cell? ⟨gb395, 1, none⟩ = some (.bool false) := (blk_cell BK395.out 1).trans rfl; have hfz106_0 := blk_frozen BK395.out 0; have hfz106_1 := blk_frozen BK395.out 1)))
                      go_ret
                      exact ⟨rt_, hb_⟩
                  · replace c62 := Bool.eq_false_iff.mpr c62
                    subst c62
                    have H1 : (stockyardlaw03_PatternNarrows.j2 k2 l2 l0_0 a0_1) = some r := by rw [if_neg (show ¬ (false = true) by decide)] at H; exact H
                    clear H
                    have H := H1
                    clear H1
                    have H' := Aside0.mk H
                    clear H
                    go_wp2
                    repeat (go_quiet (fail); try go_wp2)
                    go_meet
                    case rel => exact ⟨_, H', ⟨by have := HJ3.out; have := HK2.out; first | omega | exact Nat.le_refl _⟩, ⟨bk_⟩, ⟨bk_⟩, ⟨hb_⟩⟩
                case rest =>
                  clear HC54; (try clear c1); (try clear c2); (try clear p2); (try clear c3); (try clear p3); (try clear q3); (try clear hx3); (try clear c4); (try clear c5); (try clear c6); (try clear p6); (try clear c7); (try clear c8); (try clear c9); (try clear c10); (try clear c11); (try clear c16); (try clear c21); (try clear c24); (try clear c27); (try clear c27b0); (try clear c28); (try clear c28b0); (try clear c29); (try clear c29b0); (try clear c31); (try clear c33); (try clear c34); (try clear c38); (try clear p38); (try clear q38); (try clear hx38); (try clear c39); (try clear c40); (try clear c46); (try clear c46b0); (try clear c46b1); (try clear c46b2); (try clear c47); (try clear c55); (try clear c62); (try clear c64); (try clear c64b0); (try clear c64b1); (try clear p64); (try clear c65); (try clear c65b0); (try clear c65b1); (try clear c65b2); (try clear c66); (try clear c72); (try clear c73); (try clear c77); (try clear c78); (try clear c84); (try clear c85); (try clear c88); (try clear c94); (try clear c95); (try clear c98); (try clear c104); (try clear c105); (try clear hcz106_0); (try clear hcz106_1); (try clear hcz12_0); (try clear hcz12_1); (try clear hcz14_0); (try clear hcz14_1); (try clear hcz17_0); (try clear hcz17_1); (try clear hcz19_0); (try clear hcz19_1); (try clear hcz22_0); (try clear hcz22_1); (try clear hcz35_0); (try clear hcz35_1); (try clear hcz41_0); (try clear hcz41_1); (try clear hcz48_0); (try clear hcz48_1); (try clear hcz49_0); (try clear hcz49_1); (try clear hcz51_0); (try clear hcz51_1); (try clear hcz52_0); (try clear hcz52_1); (try clear hcz56_0); (try clear hcz56_1); (try clear hcz57_0); (try clear hcz57_1); (try clear hcz59_0); (try clear hcz59_1); (try clear hcz60_0); (try clear hcz60_1); (try clear hcz67_0); (try clear hcz67_1); (try clear hcz74_0); (try clear hcz74_1); (try clear hcz75_0); (try clear hcz75_1); (try clear hcz79_0); (try clear hcz79_1); (try clear hcz86_0); (try clear hcz86_1); (try clear hcz87_0); (try clear hcz87_1); (try clear hcz89_0); (try clear hcz89_1); (try clear hcz96_0); (try clear hcz96_1); (try clear hcz97_0); (try clear hcz97_1); (try clear hcz99_0); (try clear hcz99_1); (try clear hfz106_0); (try clear hfz106_1); (try clear hfz12_0); (try clear hfz12_1); (try clear hfz14_0); (try clear hfz14_1); (try clear hfz17_0); (try clear hfz17_1); (try clear hfz19_0); (try clear hfz19_1); (try clear hfz22_0); (try clear hfz22_1); (try clear hfz35_0); (try clear hfz35_1); (try clear hfz41_0); (try clear hfz41_1); (try clear hfz48_0); (try clear hfz48_1); (try clear hfz49_0); (try clear hfz49_1); (try clear hfz51_0); (try clear hfz51_1); (try clear hfz52_0); (try clear hfz52_1); (try clear hfz56_0); (try clear hfz56_1); (try clear hfz57_0); (try clear hfz57_1); (try clear hfz59_0); (try clear hfz59_1); (try clear hfz60_0); (try clear hfz60_1); (try clear hfz67_0); (try clear hfz67_1); (try clear hfz74_0); (try clear hfz74_1); (try clear hfz75_0); (try clear hfz75_1); (try clear hfz79_0); (try clear hfz79_1); (try clear hfz86_0); (try clear hfz86_1); (try clear hfz87_0); (try clear hfz87_1); (try clear hfz89_0); (try clear hfz89_1); (try clear hfz96_0); (try clear hfz96_1); (try clear hfz97_0); (try clear hfz97_1); (try clear hfz99_0); (try clear hfz99_1); (try clear hx381_0); (try clear hx381_1); (try clear p2); (try clear p381); (try clear q381)
                  obtain ⟨kq, HA, HJ53, BK376, BK377, HB⟩ := hcut
                  cases kq with
                  | zero => exact absurd HA.out (by simp [stockyardlaw03_PatternNarrows.j2])
                  | succ kj53 =>
                    have H := HA.out
                    clear HA
                    simp only [stockyardlaw03_PatternNarrows.j2] at H
                    replace H := Option.bind_eq_some_iff.mp H
                    obtain ⟨⟨t397, t400, t401⟩, A1070, H⟩ := H
                    replace H : (if t401 = 0 then ((pattern_Bind.f kj53 l0_0 a0_1 t397 t400).bind fun bt404 => (if bt404.2 = true then (if (bt404.1.length : Int) = (l2.length : Int) then ((pattern_Within.f kj53 t397 t400 l0_0 a0_1).bind fun t408 => (stockyardlaw03_PatternNarrows.j3 kj53 l2 bt404.1 (!t408))) else (stockyardlaw03_PatternNarrows.j3 kj53 l2 bt404.1 true)) else (stockyardlaw03_PatternNarrows.j3 kj53 l2 bt404.1 true))) else ((stockyardlaw03_awake.f kj53).bind fun t403 => (some t403))) = some r := H
                    have A107 := Aside0.mk A1070
                    clear A1070
                    by_cases c108 : t401 = 0
                    · rw [if_pos c108] at H
                      have c108b0 : (t401 == 0) = true := beq_iff_eq.mpr c108
                      have c108b1 : (t401 != 0) = false := bne_eq_false_iff_eq.mpr c108
                      clear c108
                      replace H := Option.bind_eq_some_iff.mp H
                      obtain ⟨⟨t404, t407⟩, A1090, H⟩ := H
                      replace H : (if t407 = true then (if (t404.length : Int) = (l2.length : Int) then ((pattern_Within.f kj53 t397 t400 l0_0 a0_1).bind fun t408 => (stockyardlaw03_PatternNarrows.j3 kj53 l2 t404 (!t408))) else (stockyardlaw03_PatternNarrows.j3 kj53 l2 t404 true)) else (stockyardlaw03_PatternNarrows.j3 kj53 l2 t404 true)) = some r := H
                      have A109 := Aside0.mk A1090
                      clear A1090
                      have HC110 := Aside0.mk H
                      clear H
                      have hnb111 := NB376_377.out
                      have hnc111 := NB377_376.out
                      obtain ⟨hcz112_0, hcz112_1, hfz112_0, hfz112_1⟩ := c2_ BK376
                      go_upto_region 20 with (first | (go_at_call 15; (with_reducible refine (pattern_Substitute.calls kj53 _ _ l0_0 a0_1 (fun k_ => k_ < w.heap.size) _ _ l2 t397 t400 t401 _ ?side1 ?side2 ?side3 A107.out).mono ?_); (case side1 => exact sd_); (case side2 => exact HC0_0.out); (case side3 => exact Kd.V_mk HC2.out (Kd.F_below (Kd.C_F k28_heap HR2.out) hb_)); rintro e w113 ⟨v398, rfl, ho0, hb⟩; have n0_ := Aside0.mk (Kd.R_lower (Kd.R_mono (ok' := fun k_ => True) ho0 (fun _ hk_ => trivial)) (below_size hb_)); replace BK376 := bb_ BK376 hb; replace BK377 := bb_ BK377 hb; replace HB := hs_ HB hb; have HO399 := n0_; clear n0_; (try clear hb); (try clear hb2); (try clear hk); (try clear hi); (try clear ho0)) | ((with_reducible refine gate_dst (N := 13) rfl ?_); (try (refine gate_guard (by rfl) ?_; dsimp only)); refine box_event ?hg (N := 13) ?hd (cs := #[.slice none 0 0, .bool false]) (t := 24) ?hr ?_; (case hd => rfl); (case hg => rfl); (case hr => first | (go_simp; done) | (go_simp; rfl)); intro gb402 hg w114 hbox hb; have BK402 := Aside0.mk hbox; have GW402 := gw_ HB hg; have GE402 := gw_ HB hg; have NB376_402 := nl_ BK376 hg; have NB402_376 := nr_ BK376 hg; have NB377_402 := nl_ BK377 hg; have NB402_377 := nr_ BK377 hg; replace HO399 := rb_ HO399 hb; replace BK376 := bb_ BK376 hb; replace BK377 := bb_ BK377 hb; replace HB := hs_ HB hb; clear hb hbox hg; obtain ⟨Ao115, co115, eo115⟩ := Kd.R_slice HO399.out; subst eo115; have hnb116 := NB402_376.out; have hnc116 := NB376_402.out; have hnb117 := NB402_377.out; have hnc117 := NB377_402.out; obtain ⟨hcz118_0, hcz118_1, hfz118_0, hfz118_1⟩ := c2_ BK402; obtain ⟨hcz119_0, hcz119_1, hfz119_0, hfz119_1⟩ := c2_ BK376) | (go_at_call 18; (with_reducible refine (pattern_Bind.calls kj53 _ _ l0_0 a0_1 _ _ t397 t400 t404 t407 _ ?side1 ?side2 ?side3 ?side4 A109.out).mono ?_); (case side1 => exact Kd.C_below HR0_0.out hb_); (case side2 => exact HC0_0.out); (case side3 => refine (Kd.R_reads' (e := 9) (base := w.heap.size) (ok := fun k_ => True) (n := t397.length) (c := co115) ?_).2.2; exact (by (with_reducible repeat (first | apply Kd.R_alloc | apply Kd.R_drewN | apply Kd.R_drew)); exact (Kd.R_mono (Kd.R_far (p := ⟨gb402, 1, none⟩) (Kd.R_far (p := ⟨gb402, 0, none⟩) (Kd.R_types HO399.out BK402.out (by decide)) (fun _ hk => hk.2) (.slice Ao115 t397.length co115)) (fun _ hk => hk.2) (.bool t400)) (fun _ h_ => h_.1)))); (case side4 => exact (Kd.R_reads' HO399.out).2.1); rintro e w120 ⟨v405, rfl, ho0, hb⟩; have n0_ := Aside0.mk (Kd.R_below (by (with_reducible repeat (first | apply Kd.R_alloc | apply Kd.R_drewN | apply Kd.R_drew)); exact (Kd.R_mono (Kd.R_far (p := ⟨gb402, 1, none⟩) (Kd.R_far (p := ⟨gb402, 0, none⟩) (Kd.R_types HO399.out BK402.out (by decide)) (fun _ hk => hk.2) (.slice Ao115 t397.length co115)) (fun _ hk => hk.2) (.bool t400)) (fun _ h_ => h_.1))) hb); have n1_ := Aside0.mk (Kd.S_lower (Kd.S_new' ho0 (Kd.R_lt (by (with_reducible repeat (first | apply Kd.R_alloc | apply Kd.R_drewN | apply Kd.R_drew)); exact (Kd.R_mono (Kd.R_far (p := ⟨gb402, 1, none⟩) (Kd.R_far (p := ⟨gb402, 0, none⟩) (Kd.R_types HO399.out BK402.out (by decide)) (fun _ hk => hk.2) (.slice Ao115 t397.length co115)) (fun _ hk => hk.2) (.bool t400)) (fun _ h_ => h_.1))))) (below_size hb_)); have n4_ := Aside0.mk (blk_below (g := gb402) (o := .cells #[.slice Ao115 t397.length co115, .bool t400] 24 (0, 0)) bz_ hb); replace BK376 := bb_ BK376 hb; replace BK377 := bb_ BK377 hb; replace HB := hs_ HB hb; clear HO399 BK402; have HO399 := n0_; have HO406 := n1_; have BK402 := n4_; clear n0_ n1_ n4_; (try clear hb); (try clear hb2); (try clear hk); (try clear hi); (try clear ho0)))
                      repeat (go_quiet (first | (go_at_call 15; (with_reducible refine (pattern_Substitute.calls kj53 _ _ l0_0 a0_1 (fun k_ => k_ < w.heap.size) _ _ l2 t397 t400 t401 _ ?side1 ?side2 ?side3 A107.out).mono ?_); (case side1 => exact sd_); (case side2 => exact HC0_0.out); (case side3 => exact Kd.V_mk HC2.out (Kd.F_below (Kd.C_F k28_heap HR2.out) hb_)); rintro e w113 ⟨v398, rfl, ho0, hb⟩; have n0_ := Aside0.mk (Kd.R_lower (Kd.R_mono (ok' := fun k_ => True) ho0 (fun _ hk_ => trivial)) (below_size hb_)); replace BK376 := bb_ BK376 hb; replace BK377 := bb_ BK377 hb; replace HB := hs_ HB hb; have HO399 := n0_; clear n0_; (try clear hb); (try clear hb2); (try clear hk); (try clear hi); (try clear ho0)) | ((with_reducible refine gate_dst (N := 13) rfl ?_); (try (refine gate_guard (by rfl) ?_; dsimp only)); refine box_event ?hg (N := 13) ?hd (cs := #[.slice none 0 0, .bool false]) (t := 24) ?hr ?_; (case hd => rfl); (case hg => rfl); (case hr => first | (go_simp; done) | (go_simp; rfl)); intro gb402 hg w114 hbox hb; have BK402 := Aside0.mk hbox; have GW402 := gw_ HB hg; have GE402 := gw_ HB hg; have NB376_402 := nl_ BK376 hg; have NB402_376 := nr_ BK376 hg; have NB377_402 := nl_ BK377 hg; have NB402_377 := nr_ BK377 hg; replace HO399 := rb_ HO399 hb; replace BK376 := bb_ BK376 hb; replace BK377 := bb_ BK377 hb; replace HB := hs_ HB hb; clear hb hbox hg; obtain ⟨Ao115, co115, eo115⟩ := Kd.R_slice HO399.out; subst eo115; have hnb116 := NB402_376.out; have hnc116 := NB376_402.out; have hnb117 := NB402_377.out; have hnc117 := NB377_402.out; obtain ⟨hcz118_0, hcz118_1, hfz118_0, hfz118_1⟩ := c2_ BK402; obtain ⟨hcz119_0, hcz119_1, hfz119_0, hfz119_1⟩ := c2_ BK376) | (go_at_call 18; (with_reducible refine (pattern_Bind.calls kj53 _ _ l0_0 a0_1 _ _ t397 t400 t404 t407 _ ?side1 ?side2 ?side3 ?side4 A109.out).mono ?_); (case side1 => exact Kd.C_below HR0_0.out hb_); (case side2 => exact HC0_0.out); (case side3 => refine (Kd.R_reads' (e := 9) (base := w.heap.size) (ok := fun k_ => True) (n := t397.length) (c := co115) ?_).2.2; exact (by (with_reducible repeat (first | apply Kd.R_alloc | apply Kd.R_drewN | apply Kd.R_drew)); exact (Kd.R_mono (Kd.R_far (p := ⟨gb402, 1, none⟩) (Kd.R_far (p := ⟨gb402, 0, none⟩) (Kd.R_types HO399.out BK402.out (by decide)) (fun _ hk => hk.2) (.slice Ao115 t397.length co115)) (fun _ hk => hk.2) (.bool t400)) (fun _ h_ => h_.1)))); (case side4 => exact (Kd.R_reads' HO399.out).2.1); rintro e w120 ⟨v405, rfl, ho0, hb⟩; have n0_ := Aside0.mk (Kd.R_below (by (with_reducible repeat (first | apply Kd.R_alloc | apply Kd.R_drewN | apply Kd.R_drew)); exact (Kd.R_mono (Kd.R_far (p := ⟨gb402, 1, none⟩) (Kd.R_far (p := ⟨gb402, 0, none⟩) (Kd.R_types HO399.out BK402.out (by decide)) (fun _ hk => hk.2) (.slice Ao115 t397.length co115)) (fun _ hk => hk.2) (.bool t400)) (fun _ h_ => h_.1))) hb); have n1_ := Aside0.mk (Kd.S_lower (Kd.S_new' ho0 (Kd.R_lt (by (with_reducible repeat (first | apply Kd.R_alloc | apply Kd.R_drewN | apply Kd.R_drew)); exact (Kd.R_mono (Kd.R_far (p := ⟨gb402, 1, none⟩) (Kd.R_far (p := ⟨gb402, 0, none⟩) (Kd.R_types HO399.out BK402.out (by decide)) (fun _ hk => hk.2) (.slice Ao115 t397.length co115)) (fun _ hk => hk.2) (.bool t400)) (fun _ h_ => h_.1))))) (below_size hb_)); have n4_ := Aside0.mk (blk_below (g := gb402) (o := .cells #[.slice Ao115 t397.length co115, .bool t400] 24 (0, 0)) bz_ hb); replace BK376 := bb_ BK376 hb; replace BK377 := bb_ BK377 hb; replace HB := hs_ HB hb; clear HO399 BK402; have HO399 := n0_; have HO406 := n1_; have BK402 := n4_; clear n0_ n1_ n4_; (try clear hb); (try clear hb2); (try clear hk); (try clear hi); (try clear ho0))); go_upto_region 20 with (first | (go_at_call 15; (with_reducible refine (pattern_Substitute.calls kj53 _ _ l0_0 a0_1 (fun k_ => k_ < w.heap.size) _ _ l2 t397 t400 t401 _ ?side1 ?side2 ?side3 A107.out).mono ?_); (case side1 => exact sd_); (case side2 => exact HC0_0.out); (case side3 => exact Kd.V_mk HC2.out (Kd.F_below (Kd.C_F k28_heap HR2.out) hb_)); rintro e w113 ⟨v398, rfl, ho0, hb⟩; have n0_ := Aside0.mk (Kd.R_lower (Kd.R_mono (ok' := fun k_ => True) ho0 (fun _ hk_ => trivial)) (below_size hb_)); have n1_ := Aside0.mk (blk_below (g := gb376) (o := .cells #[.slice A0_0 l0_0.length c0_0, .bool a0_1] 24 (0, 0)) bk_ hb); have n2_ := Aside0.mk (blk_below (g := gb377) (o := .cells #[.slice A1_0 l1_0.length c1_0, .bool a1_1] 24 (0, 0)) bk_ hb); have n3_ := Aside0.mk (below_step hb_ hb); clear BK376; clear BK377; clear HB; have HO399 := n0_; have BK376 := n1_; have BK377 := n2_; have HB := n3_; clear n0_ n1_ n2_ n3_; (try clear hb); (try clear hb2); (try clear hk); (try clear hi); (try clear ho0)) | ((with_reducible refine gate_dst (N := 13) rfl ?_); (try (refine gate_guard (by rfl) ?_; dsimp only)); refine box_event ?hg (N := 13) ?hd (cs := #[.slice none 0 0, .bool false]) (t := 24) ?hr ?_; (case hd => rfl); (case hg => rfl); (case hr => first | (go_simp; done) | (go_simp; rfl)); intro gb402 hg w114 hbox hb; have n0_ := Aside0.mk (Kd.R_below (rp_ HO399) hb); have n1_ := Aside0.mk (blk_below (g := gb376) (o := .cells #[.slice A0_0 l0_0.length c0_0, .bool a0_1] 24 (0, 0)) bk_ hb); have n2_ := Aside0.mk (blk_below (g := gb377) (o := .cells #[.slice A1_0 l1_0.length c1_0, .bool a1_1] 24 (0, 0)) bk_ hb); have n3_ := Aside0.mk (below_step hb_ hb); have n4_ := Aside0.mk (hbox); have n5_ := Aside0.mk ((by rw [hg]; exact (below_size hb_) : w.heap.size ≤ gb402)); have n6_ := Aside0.mk ((by rw [hg]; exact (below_size hb_) : w.heap.size ≤ gb402)); have n7_ := Aside0.mk ((by rw [hg]; exact Nat.ne_of_lt (blk_lt (g := gb376) (o := .cells #[.slice A0_0 l0_0.length c0_0, .bool a0_1] 24 (0, 0)) bk_) : gb376 ≠ gb402)); have n8_ := Aside0.mk ((by rw [hg]; exact Nat.ne_of_gt (blk_lt (g := gb376) (o := .cells #[.slice A0_0 l0_0.length c0_0, .bool a0_1] 24 (0, 0)) bk_) : gb402 ≠ gb376)); have n9_ := Aside0.mk ((by rw [hg]; exact Nat.ne_of_lt (blk_lt (g := gb377) (o := .cells #[.slice A1_0 l1_0.length c1_0, .bool a1_1] 24 (0, 0)) bk_) : gb377 ≠ gb402)); have n10_ := Aside0.mk ((by rw [hg]; exact Nat.ne_of_gt (blk_lt (g := gb377) (o := .cells #[.slice A1_0 l1_0.length c1_0, .bool a1_1] 24 (0, 0)) bk_) : gb402 ≠ gb377)); clear HO399; clear BK376; clear BK377; clear HB; have HO399 := n0_; have BK376 := n1_; have BK377 := n2_; have HB := n3_; have BK402 := n4_; have GW402 := n5_; have GE402 := n6_; have NB376_402 := n7_; have NB402_376 := n8_; have NB377_402 := n9_; have NB402_377 := n10_; clear n0_ n1_ n2_ n3_ n4_ n5_ n6_ n7_ n8_ n9_ n10_; clear hb hbox hg; obtain ⟨Ao115, co115, eo115⟩ := Kd.R_slice HO399.out; subst eo115; have hnb116 := NB402_376.out; have hnc116 := NB376_402.out; have hnb117 := NB402_377.out; have hnc117 := NB377_402.out; have hcz118_0 : w114.cell? ⟨gb402, 0, none⟩ = some (.slice none 0 0) := (blk_cell BK402.out 0).trans rfl; have hcz118_1 : w114.cell? ⟨gb402, 1, none⟩ = some (.bool false) := (blk_cell BK402.out 1).trans rfl; have hfz118_0 := blk_frozen BK402.out 0; have hfz118_1 := blk_frozen BK402.out 1; have hcz119_0 : w114.cell? ⟨gb376, 0, none⟩ = some (.slice A0_0 l0_0.length c0_0) := (blk_cell BK376.out 0).trans rfl; have hcz119_1 : w114.cell? ⟨gb376, 1, none⟩ = some (.bool a0_1) := (blk_cell BK376.out 1).trans rfl; have hfz119_0 := blk_frozen BK376.out 0; have hfz119_1 := blk_frozen BK376.out 1) | (go_at_call 18; (with_reducible refine (pattern_Bind.calls kj53 _ _ l0_0 a0_1 _ _ t397 t400 t404 t407 _ ?side1 ?side2 ?side3 ?side4 A109.out).mono ?_); (case side1 => exact Kd.C_below HR0_0.out hb_); (case side2 => exact HC0_0.out); (case side3 => refine (Kd.R_reads' (e := 9) (base := w.heap.size) (ok := fun k_ => True) (n := t397.length) (c := co115) ?_).2.2; exact (by (with_reducible repeat (first | apply Kd.R_alloc | apply Kd.R_drewN | apply Kd.R_drew)); exact (Kd.R_mono (Kd.R_far (p := ⟨gb402, 1, none⟩) (Kd.R_far (p := ⟨gb402, 0, none⟩) (Kd.R_types HO399.out BK402.out (by decide)) (fun _ hk => hk.2) (.slice Ao115 t397.length co115)) (fun _ hk => hk.2) (.bool t400)) (fun _ h_ => h_.1)))); (case side4 => exact (Kd.R_reads' HO399.out).2.1); rintro e w120 ⟨v405, rfl, ho0, hb⟩; have n0_ := Aside0.mk (Kd.R_below (by (with_reducible repeat (first | apply Kd.R_alloc | apply Kd.R_drewN | apply Kd.R_drew)); exact (Kd.R_mono (Kd.R_far (p := ⟨gb402, 1, none⟩) (Kd.R_far (p := ⟨gb402, 0, none⟩) (Kd.R_types HO399.out BK402.out (by decide)) (fun _ hk => hk.2) (.slice Ao115 t397.length co115)) (fun _ hk => hk.2) (.bool t400)) (fun _ h_ => h_.1))) hb); have n1_ := Aside0.mk (Kd.S_lower (Kd.S_new' ho0 (Kd.R_lt (by (with_reducible repeat (first | apply Kd.R_alloc | apply Kd.R_drewN | apply Kd.R_drew)); exact (Kd.R_mono (Kd.R_far (p := ⟨gb402, 1, none⟩) (Kd.R_far (p := ⟨gb402, 0, none⟩) (Kd.R_types HO399.out BK402.out (by decide)) (fun _ hk => hk.2) (.slice Ao115 t397.length co115)) (fun _ hk => hk.2) (.bool t400)) (fun _ h_ => h_.1))))) (below_size hb_)); have n2_ := Aside0.mk (blk_below (g := gb376) (o := .cells #[.slice A0_0 l0_0.length c0_0, .bool a0_1] 24 (0, 0)) bz_ hb); have n3_ := Aside0.mk (blk_below (g := gb377) (o := .cells #[.slice A1_0 l1_0.length c1_0, .bool a1_1] 24 (0, 0)) bz_ hb); have n4_ := Aside0.mk (blk_below (g := gb402) (o := .cells #[.slice Ao115 t397.length co115, .bool t400] 24 (0, 0)) bz_ hb); have n5_ := Aside0.mk (below_step hb_ hb); clear HO399; clear BK376; clear BK377; clear BK402; clear HB; have HO399 := n0_; have HO406 := n1_; have BK376 := n2_; have BK377 := n3_; have BK402 := n4_; have HB := n5_; clear n0_ n1_ n2_ n3_ n4_ n5_; (try clear hb); (try clear hb2); (try clear hk); (try clear hi); (try clear ho0))))
                      (try simp only [Act.put, List.setIfInBounds_toArray, List.set_cons_zero, List.set_cons_succ])
                      go_cut [107] (fun v107 wc => ∃ (kq : Nat) (x107_109 : Bool), v107 = .bool x107_109 ∧ Aside0 (stockyardlaw03_PatternNarrows.j3 kq l2 t404 x107_109 = some r) ∧ Aside0 (kq ≤ kj53) ∧ Aside0 (Kd.S k28 28 wc w.heap.size (fun k_ => some k_ ≠ ((.slice Ao115 t397.length co115) : Value).ownBlock) v405 t404) ∧ Aside0 (Kd.R Kd.string 9 wc w.heap.size (fun _ => True) (.slice Ao115 t397.length co115) t397) ∧ Aside0 (wc.heap[gb376]? = some (.cells #[(.slice A0_0 l0_0.length c0_0), .bool a0_1] 24 (0, 0))) ∧ Aside0 (wc.heap[gb377]? = some (.cells #[(.slice A1_0 l1_0.length c1_0), .bool a1_1] 24 (0, 0))) ∧ Aside0 (wc.heap[gb402]? = some (.cells #[(.slice Ao115 t397.length co115), .bool t400] 24 (0, 0))) ∧ Aside0 (Below w.heap.size w wc))
                      case first =>
                        have H := HC110.out
                        clear HC110
                        by_cases c121 : t407 = true
                        · subst c121
                          have H1 : (if (t404.length : Int) = (l2.length : Int) then ((pattern_Within.f kj53 t397 t400 l0_0 a0_1).bind fun t408 => (stockyardlaw03_PatternNarrows.j3 kj53 l2 t404 (!t408))) else (stockyardlaw03_PatternNarrows.j3 kj53 l2 t404 true)) = some r := by rw [if_pos rfl] at H; exact H
                          clear H
                          have H := H1
                          clear H1
                          by_cases c122 : (t404.length : Int) = (l2.length : Int)
                          · rw [if_pos c122] at H
                            have c122b0 : ((t404.length : Int) == (l2.length : Int)) = true := beq_iff_eq.mpr c122
                            have c122b1 : ((t404.length : Int) != (l2.length : Int)) = false := bne_eq_false_iff_eq.mpr c122
                            have c122b2 : (t404.length == l2.length) = true := by first | simpa using c122 | (simp at c122 ⊢; omega)
                            clear c122
                            (first | rw [c122b0] | (simp only [i64_w, i32_w]; rw [c122b0]) | skip)
                            replace H := Option.bind_eq_some_iff.mp H
                            obtain ⟨t408, A1230, H⟩ := H
                            replace H : (stockyardlaw03_PatternNarrows.j3 kj53 l2 t404 (!t408)) = some r := H
                            have A123 := Aside0.mk A1230
                            clear A1230
                            have H' := Aside0.mk H
                            clear H
                            obtain ⟨Ao124, co124, eo124⟩ := Kd.S_slice HO406.out
                            subst eo124
                            have hnb125 := NB402_376.out
                            have hnc125 := NB376_402.out
                            have hnb126 := NB402_377.out
                            have hnc126 := NB377_402.out
                            obtain ⟨hcz127_0, hcz127_1, hfz127_0, hfz127_1⟩ := c2_ BK402
                            have hnb128 := NB376_377.out
                            have hnc128 := NB377_376.out
                            obtain ⟨hcz129_0, hcz129_1, hfz129_0, hfz129_1⟩ := c2_ BK376
                            go_wp2_with (first | (go_at_call 19; (with_reducible refine (pattern_Within.calls kj53 _ _ t397 t400 _ _ l0_0 a0_1 t408 _ ?side1 ?side2 ?side3 ?side4 A123.out).mono ?_); (case side1 => repeat (first | exact (Kd.R_reads' HO399.out).2.2 | (with_reducible refine Kd.C_alloc ?_ _) | (with_reducible refine Kd.C_drewN ?_ _) | (with_reducible refine Kd.C_drew ?_))); (case side2 => exact (Kd.R_reads' HO399.out).2.1); (case side3 => exact sd_); (case side4 => exact HC0_0.out); rintro e w130 ⟨rfl, hb⟩; have n1_ := Aside0.mk (Kd.S_below (by (with_reducible repeat (first | apply Kd.S_alloc | apply Kd.S_drewN | apply Kd.S_drew)); exact HO406.out) hb); replace HO399 := rb_ HO399 hb; replace BK376 := bb_ BK376 hb; replace BK377 := bb_ BK377 hb; replace BK402 := bb_ BK402 hb; replace HB := hs_ HB hb; clear HO406; have HO406 := n1_; clear n1_; (try clear hb); (try clear hb2); (try clear hk); (try clear hi)))
                            repeat (go_quiet (first | (go_at_call 19; (with_reducible refine (pattern_Within.calls kj53 _ _ t397 t400 _ _ l0_0 a0_1 t408 _ ?side1 ?side2 ?side3 ?side4 A123.out).mono ?_); (case side1 => repeat (first | exact (Kd.R_reads' HO399.out).2.2 | (with_reducible refine Kd.C_alloc ?_ _) | (with_reducible refine Kd.C_drewN ?_ _) | (with_reducible refine Kd.C_drew ?_))); (case side2 => exact (Kd.R_reads' HO399.out).2.1); (case side3 => exact sd_); (case side4 => exact HC0_0.out); rintro e w130 ⟨rfl, hb⟩; have n1_ := Aside0.mk (Kd.S_below (by (with_reducible repeat (first | apply Kd.S_alloc | apply Kd.S_drewN | apply Kd.S_drew)); exact HO406.out) hb); replace HO399 := rb_ HO399 hb; replace BK376 := bb_ BK376 hb; replace BK377 := bb_ BK377 hb; replace BK402 := bb_ BK402 hb; replace HB := hs_ HB hb; clear HO406; have HO406 := n1_; clear n1_; (try clear hb); (try clear hb2); (try clear hk); (try clear hi))); try go_wp2_with (first | (go_at_call 19; (with_reducible refine (pattern_Within.calls kj53 _ _ t397 t400 _ _ l0_0 a0_1 t408 _ ?side1 ?side2 ?side3 ?side4 A123.out).mono ?_); (case side1 => repeat (first | exact (Kd.R_reads' HO399.out).2.2 | (with_reducible refine Kd.C_alloc ?_ _) | (with_reducible refine Kd.C_drewN ?_ _) | (with_reducible refine Kd.C_drew ?_))); (case side2 => exact (Kd.R_reads' HO399.out).2.1); (case side3 => exact sd_); (case side4 => exact HC0_0.out); rintro e w130 ⟨rfl, hb⟩; have n0_ := Aside0.mk (Kd.R_below (rp_ HO399) hb); have n1_ := Aside0.mk (Kd.S_below (by (with_reducible repeat (first | apply Kd.S_alloc | apply Kd.S_drewN | apply Kd.S_drew)); exact HO406.out) hb); have n2_ := Aside0.mk (blk_below (g := gb376) (o := .cells #[.slice A0_0 l0_0.length c0_0, .bool a0_1] 24 (0, 0)) bk_ hb); have n3_ := Aside0.mk (blk_below (g := gb377) (o := .cells #[.slice A1_0 l1_0.length c1_0, .bool a1_1] 24 (0, 0)) bk_ hb); have n4_ := Aside0.mk (blk_below (g := gb402) (o := .cells #[.slice Ao115 t397.length co115, .bool t400] 24 (0, 0)) bk_ hb); have n5_ := Aside0.mk (below_step hb_ hb); clear HO399; clear HO406; clear BK376; clear BK377; clear BK402; clear HB; have HO399 := n0_; have HO406 := n1_; have BK376 := n2_; have BK377 := n3_; have BK402 := n4_; have HB := n5_; clear n0_ n1_ n2_ n3_ n4_ n5_; (try clear hb); (try clear hb2); (try clear hk); (try clear hi))))
                            go_meet
                            case rel => exact ⟨_, (!t408), (by first | rfl | (simp; done) | (simp [*]; done)), H', ⟨by have := HJ3.out; have := HK2.out; have := HJ53.out; first | omega | exact Nat.le_refl _⟩, ⟨by (with_reducible repeat (first | apply Kd.S_alloc | apply Kd.S_drewN | apply Kd.S_drew)); exact Kd.S_mono HO406.out (fun _ hk => hk.2)⟩, ⟨by (with_reducible repeat (first | apply Kd.R_alloc | apply Kd.R_drewN | apply Kd.R_drew)); exact HO399.out⟩, ⟨bk_⟩, ⟨bk_⟩, ⟨bk_⟩, ⟨hb_⟩⟩
                          · rw [if_neg c122] at H
                            have c122b0 : ((t404.length : Int) == (l2.length : Int)) = false := beq_eq_false_iff_ne.mpr c122
                            have c122b1 : ((t404.length : Int) != (l2.length : Int)) = true := bne_iff_ne.mpr c122
                            have c122b2 : (t404.length == l2.length) = false := by first | simpa using c122 | (simp at c122 ⊢; omega)
                            (first | rw [c122b0] | (simp only [i64_w, i32_w]; rw [c122b0]) | skip)
                            have H' := Aside0.mk H
                            clear H
                            obtain ⟨Ao131, co131, eo131⟩ := Kd.S_slice HO406.out
                            subst eo131
                            go_wp2
                            repeat (go_quiet (fail); try go_wp2)
                            go_meet
                            case rel => exact ⟨_, (true), (by first | rfl | (simp; done) | (simp [*]; done)), H', ⟨by have := HJ3.out; have := HK2.out; have := HJ53.out; first | omega | exact Nat.le_refl _⟩, ⟨by (with_reducible repeat (first | apply Kd.S_alloc | apply Kd.S_drewN | apply Kd.S_drew)); exact Kd.S_mono HO406.out (fun _ hk => hk.2)⟩, ⟨by (with_reducible repeat (first | apply Kd.R_alloc | apply Kd.R_drewN | apply Kd.R_drew)); exact HO399.out⟩, ⟨bk_⟩, ⟨bk_⟩, ⟨bk_⟩, ⟨hb_⟩⟩
                        · replace c121 := Bool.eq_false_iff.mpr c121
                          subst c121
                          have H1 : (stockyardlaw03_PatternNarrows.j3 kj53 l2 t404 true) = some r := by rw [if_neg (show ¬ (false = true) by decide)] at H; exact H
                          clear H
                          have H := H1
                          clear H1
                          have H' := Aside0.mk H
                          clear H
                          go_wp2
                          repeat (go_quiet (fail); try go_wp2)
                          go_meet
                          case rel => exact ⟨_, (true), (by first | rfl | (simp; done) | (simp [*]; done)), H', ⟨by have := HJ3.out; have := HK2.out; have := HJ53.out; first | omega | exact Nat.le_refl _⟩, ⟨by (with_reducible repeat (first | apply Kd.S_alloc | apply Kd.S_drewN | apply Kd.S_drew)); exact Kd.S_mono HO406.out (fun _ hk => hk.2)⟩, ⟨by (with_reducible repeat (first | apply Kd.R_alloc | apply Kd.R_drewN | apply Kd.R_drew)); exact HO399.out⟩, ⟨bk_⟩, ⟨bk_⟩, ⟨bk_⟩, ⟨hb_⟩⟩
                      case rest =>
                        clear HC110; (try clear c1); (try clear c2); (try clear p2); (try clear c3); (try clear p3); (try clear q3); (try clear hx3); (try clear c4); (try clear c5); (try clear c6); (try clear p6); (try clear c7); (try clear c8); (try clear c9); (try clear c10); (try clear c11); (try clear c12); (try clear c16); (try clear c21); (try clear c24); (try clear c27); (try clear c27b0); (try clear c28); (try clear c28b0); (try clear c29); (try clear c29b0); (try clear c31); (try clear c33); (try clear c34); (try clear c38); (try clear p38); (try clear q38); (try clear hx38); (try clear c39); (try clear c40); (try clear c46); (try clear c46b0); (try clear c46b1); (try clear c46b2); (try clear c47); (try clear c55); (try clear c62); (try clear c64); (try clear c64b0); (try clear c64b1); (try clear p64); (try clear c65); (try clear c65b0); (try clear c65b1); (try clear c65b2); (try clear c66); (try clear c72); (try clear c73); (try clear c77); (try clear c78); (try clear c84); (try clear c85); (try clear c88); (try clear c94); (try clear c95); (try clear c98); (try clear c104); (try clear c105); (try clear c108); (try clear c108b0); (try clear c108b1); (try clear c111); (try clear c116); (try clear c117); (try clear c121); (try clear c122); (try clear c122b0); (try clear c122b1); (try clear c122b2); (try clear c125); (try clear c126); (try clear c128); (try clear hcz106_0); (try clear hcz106_1); (try clear hcz112_0); (try clear hcz112_1); (try clear hcz118_0); (try clear hcz118_1); (try clear hcz119_0); (try clear hcz119_1); (try clear hcz127_0); (try clear hcz127_1); (try clear hcz129_0); (try clear hcz129_1); (try clear hcz12_0); (try clear hcz12_1); (try clear hcz14_0); (try clear hcz14_1); (try clear hcz17_0); (try clear hcz17_1); (try clear hcz19_0); (try clear hcz19_1); (try clear hcz22_0); (try clear hcz22_1); (try clear hcz35_0); (try clear hcz35_1); (try clear hcz41_0); (try clear hcz41_1); (try clear hcz48_0); (try clear hcz48_1); (try clear hcz49_0); (try clear hcz49_1); (try clear hcz51_0); (try clear hcz51_1); (try clear hcz52_0); (try clear hcz52_1); (try clear hcz56_0); (try clear hcz56_1); (try clear hcz57_0); (try clear hcz57_1); (try clear hcz59_0); (try clear hcz59_1); (try clear hcz60_0); (try clear hcz60_1); (try clear hcz67_0); (try clear hcz67_1); (try clear hcz74_0); (try clear hcz74_1); (try clear hcz75_0); (try clear hcz75_1); (try clear hcz79_0); (try clear hcz79_1); (try clear hcz86_0); (try clear hcz86_1); (try clear hcz87_0); (try clear hcz87_1); (try clear hcz89_0); (try clear hcz89_1); (try clear hcz96_0); (try clear hcz96_1); (try clear hcz97_0); (try clear hcz97_1); (try clear hcz99_0); (try clear hcz99_1); (try clear hfz106_0); (try clear hfz106_1); (try clear hfz112_0); (try clear hfz112_1); (try clear hfz118_0); (try clear hfz118_1); (try clear hfz119_0); (try clear hfz119_1); (try clear hfz127_0); (try clear hfz127_1); (try clear hfz129_0); (try clear hfz129_1); (try clear hfz12_0); (try clear hfz12_1); (try clear hfz14_0); (try clear hfz14_1); (try clear hfz17_0); (try clear hfz17_1); (try clear hfz19_0); (try clear hfz19_1); (try clear hfz22_0); (try clear hfz22_1); (try clear hfz35_0); (try clear hfz35_1); (try clear hfz41_0); (try clear hfz41_1); (try clear hfz48_0); (try clear hfz48_1); (try clear hfz49_0); (try clear hfz49_1); (try clear hfz51_0); (try clear hfz51_1); (try clear hfz52_0); (try clear hfz52_1); (try clear hfz56_0); (try clear hfz56_1); (try clear hfz57_0); (try clear hfz57_1); (try clear hfz59_0); (try clear hfz59_1); (try clear hfz60_0); (try clear hfz60_1); (try clear hfz67_0); (try clear hfz67_1); (try clear hfz74_0); (try clear hfz74_1); (try clear hfz75_0); (try clear hfz75_1); (try clear hfz79_0); (try clear hfz79_1); (try clear hfz86_0); (try clear hfz86_1); (try clear hfz87_0); (try clear hfz87_1); (try clear hfz89_0); (try clear hfz89_1); (try clear hfz96_0); (try clear hfz96_1); (try clear hfz97_0); (try clear hfz97_1); (try clear hfz99_0); (try clear hfz99_1); (try clear hx381_0); (try clear hx381_1); (try clear p2); (try clear p3); (try clear p38); (try clear p381); (try clear p6); (try clear p64); (try clear q3); (try clear q38); (try clear q381)
                        obtain ⟨kq, x107_109, rfl, HA, HJ109, HO_9, HO_403000, BK376, BK377, BK402, HB⟩ := hcut
                        cases kq with
                        | zero => exact absurd HA.out (by simp [stockyardlaw03_PatternNarrows.j3])
                        | succ kj109 =>
                          have H := HA.out
                          clear HA
                          simp only [stockyardlaw03_PatternNarrows.j3] at H
                          by_cases c132 : x107_109 = true
                          · subst c132
                            have H1 : (some false) = some r := by rw [if_pos rfl] at H; exact H
                            clear H
                            have H := H1
                            clear H1
                            obtain rfl := Option.some.inj H
                            go_wp2
                            repeat (go_quiet (fail); try go_wp2)
                            go_ret
                            exact ⟨rt_, hb_⟩
                          · replace c132 := Bool.eq_false_iff.mpr c132
                            subst c132
                            have H1 : (stockyardlaw03_PatternNarrows.l1 kj109 l2 t404 (l2.length : Int) 0) = some r := by rw [if_neg (show ¬ (false = true) by decide)] at H; exact H
                            clear H
                            have H := H1
                            clear H1
                            have H' := Aside0.mk H
                            clear H
                            go_wp2
                            repeat (go_quiet (fail); try go_wp2)
                            go_loopg [110] kj109 (fun kq v110 w' => ∃ (x110_5 : Int), v110 = .int .i64 x110_5 ∧ Aside0 (stockyardlaw03_PatternNarrows.l1 kq l2 t404 (l2.length : Int) x110_5 = some r) ∧ Aside0 (kq ≤ kj109) ∧ Aside0 (Kd.S k28 28 w' w.heap.size (fun k_ => some k_ ≠ ((.slice Ao115 t397.length co115) : Value).ownBlock) v405 t404) ∧ Aside0 (Kd.R Kd.string 9 w' w.heap.size (fun _ => True) (.slice Ao115 t397.length co115) t397) ∧ Aside0 (w'.heap[gb376]? = some (.cells #[(.slice A0_0 l0_0.length c0_0), .bool a0_1] 24 (0, 0))) ∧ Aside0 (w'.heap[gb377]? = some (.cells #[(.slice A1_0 l1_0.length c1_0), .bool a1_1] 24 (0, 0))) ∧ Aside0 (w'.heap[gb402]? = some (.cells #[(.slice Ao115 t397.length co115), .bool t400] 24 (0, 0))) ∧ Aside0 (Below w.heap.size w w'))
                            case atStart => exact ⟨(0), (by first | rfl | (simp; done) | (simp [*]; done)), H', ⟨Nat.le_refl _⟩, ⟨by (with_reducible repeat (first | apply Kd.S_alloc | apply Kd.S_drewN | apply Kd.S_drew)); exact HO_9.out⟩, ⟨by (with_reducible repeat (first | apply Kd.R_alloc | apply Kd.R_drewN | apply Kd.R_drew)); exact HO_403000.out⟩, ⟨bk_⟩, ⟨bk_⟩, ⟨bk_⟩, ⟨hb_⟩⟩
                            case round =>
                              clear H'
                              (try clear c1); (try clear c2); (try clear p2); (try clear c3); (try clear p3); (try clear q3); (try clear hx3); (try clear c4); (try clear c5); (try clear c6); (try clear p6); (try clear c7); (try clear c8); (try clear c9); (try clear c10); (try clear c11); (try clear c12); (try clear c13); (try clear c16); (try clear c21); (try clear c24); (try clear c27); (try clear c27b0); (try clear c28); (try clear c28b0); (try clear c29); (try clear c29b0); (try clear c31); (try clear c33); (try clear c34); (try clear c38); (try clear p38); (try clear q38); (try clear hx38); (try clear c39); (try clear c40); (try clear c46); (try clear c46b0); (try clear c46b1); (try clear c46b2); (try clear c47); (try clear c55); (try clear c62); (try clear c64); (try clear c64b0); (try clear c64b1); (try clear p64); (try clear c65); (try clear c65b0); (try clear c65b1); (try clear c65b2); (try clear c66); (try clear c72); (try clear c73); (try clear c77); (try clear c78); (try clear c84); (try clear c85); (try clear c88); (try clear c94); (try clear c95); (try clear c98); (try clear c104); (try clear c105); (try clear c108); (try clear c108b0); (try clear c108b1); (try clear c111); (try clear c116); (try clear c117); (try clear c121); (try clear c122); (try clear c122b0); (try clear c122b1); (try clear c122b2); (try clear c125); (try clear c126); (try clear c128); (try clear c132); (try clear hcz106_0); (try clear hcz106_1); (try clear hcz112_0); (try clear hcz112_1); (try clear hcz118_0); (try clear hcz118_1); (try clear hcz119_0); (try clear hcz119_1); (try clear hcz127_0); (try clear hcz127_1); (try clear hcz129_0); (try clear hcz129_1); (try clear hcz12_0); (try clear hcz12_1); (try clear hcz14_0); (try clear hcz14_1); (try clear hcz17_0); (try clear hcz17_1); (try clear hcz19_0); (try clear hcz19_1); (try clear hcz22_0); (try clear hcz22_1); (try clear hcz35_0); (try clear hcz35_1); (try clear hcz41_0); (try clear hcz41_1); (try clear hcz48_0); (try clear hcz48_1); (try clear hcz49_0); (try clear hcz49_1); (try clear hcz51_0); (try clear hcz51_1); (try clear hcz52_0); (try clear hcz52_1); (try clear hcz56_0); (try clear hcz56_1); (try clear hcz57_0); (try clear hcz57_1); (try clear hcz59_0); (try clear hcz59_1); (try clear hcz60_0); (try clear hcz60_1); (try clear hcz67_0); (try clear hcz67_1); (try clear hcz74_0); (try clear hcz74_1); (try clear hcz75_0); (try clear hcz75_1); (try clear hcz79_0); (try clear hcz79_1); (try clear hcz86_0); (try clear hcz86_1); (try clear hcz87_0); (try clear hcz87_1); (try clear hcz89_0); (try clear hcz89_1); (try clear hcz96_0); (try clear hcz96_1); (try clear hcz97_0); (try clear hcz97_1); (try clear hcz99_0); (try clear hcz99_1); (try clear hfz106_0); (try clear hfz106_1); (try clear hfz112_0); (try clear hfz112_1); (try clear hfz118_0); (try clear hfz118_1); (try clear hfz119_0); (try clear hfz119_1); (try clear hfz127_0); (try clear hfz127_1); (try clear hfz129_0); (try clear hfz129_1); (try clear hfz12_0); (try clear hfz12_1); (try clear hfz14_0); (try clear hfz14_1); (try clear hfz17_0); (try clear hfz17_1); (try clear hfz19_0); (try clear hfz19_1); (try clear hfz22_0); (try clear hfz22_1); (try clear hfz35_0); (try clear hfz35_1); (try clear hfz41_0); (try clear hfz41_1); (try clear hfz48_0); (try clear hfz48_1); (try clear hfz49_0); (try clear hfz49_1); (try clear hfz51_0); (try clear hfz51_1); (try clear hfz52_0); (try clear hfz52_1); (try clear hfz56_0); (try clear hfz56_1); (try clear hfz57_0); (try clear hfz57_1); (try clear hfz59_0); (try clear hfz59_1); (try clear hfz60_0); (try clear hfz60_1); (try clear hfz67_0); (try clear hfz67_1); (try clear hfz74_0); (try clear hfz74_1); (try clear hfz75_0); (try clear hfz75_1); (try clear hfz79_0); (try clear hfz79_1); (try clear hfz86_0); (try clear hfz86_1); (try clear hfz87_0); (try clear hfz87_1); (try clear hfz89_0); (try clear hfz89_1); (try clear hfz96_0); (try clear hfz96_1); (try clear hfz97_0); (try clear hfz97_1); (try clear hfz99_0); (try clear hfz99_1); (try clear hx381_0); (try clear hx381_1); (try clear p2); (try clear p3); (try clear p38); (try clear p381); (try clear p6); (try clear p64); (try clear q3); (try clear q38); (try clear q381)
                              obtain ⟨x110_5, rfl, HA, HK5, HO_9, HO_403000, BK376, BK377, BK402, HB⟩ := hrel
                              cases gk with
                              | zero => exact absurd HA.out (by simp [stockyardlaw03_PatternNarrows.l1])
                              | succ k5 =>
                                have H := HA.out
                                clear HA
                                simp only [stockyardlaw03_PatternNarrows.l1] at H
                                by_cases c133 : x110_5 < (l2.length : Int)
                                · rw [if_pos c133] at H
                                  have c133b0 : decide (x110_5 < (l2.length : Int)) = true := decide_eq_true c133
                                  clear c133
                                  by_cases c134 : 0 ≤ x110_5
                                  · rw [if_pos c134] at H
                                    have c134b0 : decide (0 ≤ x110_5) = true := decide_eq_true c134
                                    clear c134
                                    by_cases c135 : x110_5 < (t404.length : Int)
                                    · rw [if_pos c135] at H
                                      have c135b0 : decide (x110_5 < (t404.length : Int)) = true := decide_eq_true c135
                                      clear c135
                                      by_cases c136 : x110_5 < (l2.length : Int)
                                      · rw [if_pos c136] at H
                                        have c136b0 : decide (x110_5 < (l2.length : Int)) = true := decide_eq_true c136
                                        clear c136
                                        by_cases c137 : (((rd_T28 t404 x110_5).f1) != ((rd_T28 l2 x110_5).f1)) = true
                                        · rw [if_pos c137] at H
                                          have c137b0 : (((rd_T28 t404 x110_5).f1) != ((rd_T28 l2 x110_5).f1)) = true := c137
                                          (try (have c137b1 : decide (((rd_T28 t404 x110_5).f1) = ((rd_T28 l2 x110_5).f1)) = false := by simpa using c137))
                                          (try (have c137b2 : (((rd_T28 t404 x110_5).f1) == ((rd_T28 l2 x110_5).f1)) = false := by simpa using c137))
                                          (try (have c137b3 : ¬ (((rd_T28 t404 x110_5).f1) = ((rd_T28 l2 x110_5).f1)) := by simpa using c137))
                                          clear c137
                                          obtain rfl := Option.some.inj H
                                          obtain ⟨Ao138, co138, eo138⟩ := Kd.S_slice HO_9.out
                                          subst eo138
                                          have p409 : 0 ≤ (x110_5 : Int) := of_decide_eq_true (by first | (with_reducible assumption) | assumption)
                                          have q409 : x110_5 < (t404.length : Int) := of_decide_eq_true (by first | (with_reducible assumption) | assumption)
                                          obtain ⟨ad409, A409_0, c409_0, e409, hx409_0, hx409_1, hl409_0, hi409_0⟩ := at_T28 (Kd.S_reads' HO_9.out).2.2 x110_5 p409 q409
                                          cases e409
                                          obtain ⟨ce409, hce409, hMe409, hcc409⟩ := Kd.S_get HO_9.out z28 x110_5 p409 (by first | exact q409 | exact of_decide_eq_true (by first | (with_reducible assumption) | assumption) | (have e_ := (Kd.S_reads' HO_9.out).1; omega))
                                          obtain ⟨ve409_0, rfl, ge409_0⟩ := k28_openM hMe409
                                          have hv409_0 := hcc409 0 _ rfl
                                          rw [Nat.add_zero] at hv409_0
                                          replace hv409_0 := Option.some.inj (hv409_0.symm.trans hx409_0)
                                          rw [hv409_0] at ge409_0
                                          have HL409_0 := Aside0.mk (show Kd.R Kd.string 9 _ _ _ _ ((rd_T28 t404 x110_5).f0) from ge409_0)
                                          clear hv409_0 ge409_0
                                          clear hcc409 hce409
                                          have HR409_0 := Aside0.mk hi409_0
                                          have HC409_0 := Aside0.mk hl409_0
                                          clear hi409_0 hl409_0
                                          replace p409 := eq_true p409
                                          replace q409 := eq_true q409
                                          have p410 : 0 ≤ (x110_5 : Int) := of_decide_eq_true (by first | (with_reducible assumption) | assumption)
                                          have q410 : x110_5 < (l2.length : Int) := of_decide_eq_true (by first | (with_reducible assumption) | assumption)
                                          obtain ⟨ad410, A410_0, c410_0, e410, hx410_0, hx410_1, hl410_0, hi410_0⟩ := at_T28 HR2.out x110_5 p410 q410
                                          cases e410
                                          replace hx410_0 := (HB.out.cell (World.block_lt_of_cell? w _ hx410_0)).trans hx410_0
                                          replace hx410_1 := (HB.out.cell (World.block_lt_of_cell? w _ hx410_1)).trans hx410_1
                                          have HR410_0 := Aside0.mk hi410_0
                                          have HC410_0 := Aside0.mk hl410_0
                                          clear hi410_0 hl410_0
                                          replace p410 := eq_true p410
                                          replace q410 := eq_true q410
                                          go_wp2
                                          repeat (go_quiet (fail); try go_wp2)
                                          go_ret
                                          exact ⟨rt_, hb_⟩
                                        · rw [if_neg c137] at H
                                          have c137b0 : (((rd_T28 t404 x110_5).f1) != ((rd_T28 l2 x110_5).f1)) = false := by simpa using c137
                                          (try (have c137b1 : decide (((rd_T28 t404 x110_5).f1) = ((rd_T28 l2 x110_5).f1)) = true := by simpa using c137))
                                          (try (have c137b2 : (((rd_T28 t404 x110_5).f1) == ((rd_T28 l2 x110_5).f1)) = true := by simpa using c137))
                                          clear c137
                                          replace H := Option.bind_eq_some_iff.mp H
                                          obtain ⟨t413, A1390, H⟩ := H
                                          replace H : (if t413 = true then (stockyardlaw03_PatternNarrows.l1 k5 l2 t404 (l2.length : Int) (wrap64 (x110_5 + 1))) else (some false)) = some r := H
                                          have A139 := Aside0.mk A1390
                                          clear A1390
                                          by_cases c140 : t413 = true
                                          · subst c140
                                            have H1 : (stockyardlaw03_PatternNarrows.l1 k5 l2 t404 (l2.length : Int) (wrap64 (x110_5 + 1))) = some r := by rw [if_pos rfl] at H; exact H
                                            clear H
                                            have H := H1
                                            clear H1
                                            have H' := Aside0.mk H
                                            clear H
                                            obtain ⟨Ao141, co141, eo141⟩ := Kd.S_slice HO_9.out
                                            subst eo141
                                            have p409 : 0 ≤ (x110_5 : Int) := of_decide_eq_true (by first | (with_reducible assumption) | assumption)
                                            have q409 : x110_5 < (t404.length : Int) := of_decide_eq_true (by first | (with_reducible assumption) | assumption)
                                            obtain ⟨ad409, A409_0, c409_0, e409, hx409_0, hx409_1, hl409_0, hi409_0⟩ := at_T28 (Kd.S_reads' HO_9.out).2.2 x110_5 p409 q409
                                            cases e409
                                            obtain ⟨ce409, hce409, hMe409, hcc409⟩ := Kd.S_get HO_9.out z28 x110_5 p409 (by first | exact q409 | exact of_decide_eq_true (by first | (with_reducible assumption) | assumption) | (have e_ := (Kd.S_reads' HO_9.out).1; omega))
                                            obtain ⟨ve409_0, rfl, ge409_0⟩ := k28_openM hMe409
                                            have hv409_0 := hcc409 0 _ rfl
                                            rw [Nat.add_zero] at hv409_0
                                            replace hv409_0 := Option.some.inj (hv409_0.symm.trans hx409_0)
                                            rw [hv409_0] at ge409_0
                                            have HL409_0 := Aside0.mk (show Kd.R Kd.string 9 _ _ _ _ ((rd_T28 t404 x110_5).f0) from ge409_0)
                                            clear hv409_0 ge409_0
                                            clear hcc409 hce409
                                            have HR409_0 := Aside0.mk hi409_0
                                            have HC409_0 := Aside0.mk hl409_0
                                            clear hi409_0 hl409_0
                                            replace p409 := eq_true p409
                                            replace q409 := eq_true q409
                                            have p410 : 0 ≤ (x110_5 : Int) := of_decide_eq_true (by first | (with_reducible assumption) | assumption)
                                            have q410 : x110_5 < (l2.length : Int) := of_decide_eq_true (by first | (with_reducible assumption) | assumption)
                                            obtain ⟨ad410, A410_0, c410_0, e410, hx410_0, hx410_1, hl410_0, hi410_0⟩ := at_T28 HR2.out x110_5 p410 q410
                                            cases e410
                                            replace hx410_0 := (HB.out.cell (World.block_lt_of_cell? w _ hx410_0)).trans hx410_0
                                            replace hx410_1 := (HB.out.cell (World.block_lt_of_cell? w _ hx410_1)).trans hx410_1
                                            have HR410_0 := Aside0.mk hi410_0
                                            have HC410_0 := Aside0.mk hl410_0
                                            clear hi410_0 hl410_0
                                            replace p410 := eq_true p410
                                            replace q410 := eq_true q410
                                            have p411 : 0 ≤ (x110_5 : Int) := of_decide_eq_true (by first | (with_reducible assumption) | assumption)
                                            have q411 : x110_5 < (t404.length : Int) := of_decide_eq_true (by first | (with_reducible assumption) | assumption)
                                            obtain ⟨ad411, A411_0, c411_0, e411, hx411_0, hx411_1, hl411_0, hi411_0⟩ := at_T28 (Kd.S_reads' HO_9.out).2.2 x110_5 p411 q411
                                            obtain rfl : ad409 = ad411 := (by injection e411)
                                            obtain ⟨ce411, hce411, hMe411, hcc411⟩ := Kd.S_get HO_9.out z28 x110_5 p411 (by first | exact q411 | exact of_decide_eq_true (by first | (with_reducible assumption) | assumption) | (have e_ := (Kd.S_reads' HO_9.out).1; omega))
                                            obtain ⟨ve411_0, rfl, ge411_0⟩ := k28_openM hMe411
                                            have hv411_0 := hcc411 0 _ rfl
                                            rw [Nat.add_zero] at hv411_0
                                            replace hv411_0 := Option.some.inj (hv411_0.symm.trans hx411_0)
                                            rw [hv411_0] at ge411_0
                                            have HL411_0 := Aside0.mk (show Kd.R Kd.string 9 _ _ _ _ ((rd_T28 t404 x110_5).f0) from ge411_0)
                                            clear hv411_0 ge411_0
                                            clear hcc411 hce411
                                            have HR411_0 := Aside0.mk hi411_0
                                            have HC411_0 := Aside0.mk hl411_0
                                            clear hi411_0 hl411_0
                                            replace p411 := eq_true p411
                                            replace q411 := eq_true q411
                                            have ea_ := Option.some.inj (hx409_0.symm.trans hx411_0)
                                            injection ea_ with ea_ en_ ec_
                                            subst ea_
                                            subst ec_
                                            clear en_
                                            have p412 : 0 ≤ (x110_5 : Int) := of_decide_eq_true (by first | (with_reducible assumption) | assumption)
                                            have q412 : x110_5 < (l2.length : Int) := of_decide_eq_true (by first | (with_reducible assumption) | assumption)
                                            obtain ⟨ad412, A412_0, c412_0, e412, hx412_0, hx412_1, hl412_0, hi412_0⟩ := at_T28 HR2.out x110_5 p412 q412
                                            obtain rfl : ad410 = ad412 := (by injection e412)
                                            replace hx412_0 := (HB.out.cell (World.block_lt_of_cell? w _ hx412_0)).trans hx412_0
                                            replace hx412_1 := (HB.out.cell (World.block_lt_of_cell? w _ hx412_1)).trans hx412_1
                                            have HR412_0 := Aside0.mk hi412_0
                                            have HC412_0 := Aside0.mk hl412_0
                                            clear hi412_0 hl412_0
                                            replace p412 := eq_true p412
                                            replace q412 := eq_true q412
                                            have ea_ := Option.some.inj (hx410_0.symm.trans hx412_0)
                                            injection ea_ with ea_ en_ ec_
                                            subst ea_
                                            subst ec_
                                            clear en_
                                            go_wp2_with (first | (go_at_call 20; (with_reducible refine (stockyardlaw03_equal.calls k5 _ _ ((rd_T28 t404 x110_5).f0) _ _ ((rd_T28 l2 x110_5).f0) true _ ?side1 ?side2 ?side3 ?side4 A139.out).mono ?_); (case side1 => repeat (first | exact (by repeat (first | (with_reducible exact HR411_0.out) | (with_reducible refine Kd.C_alloc ?_ _) | (with_reducible refine Kd.C_drewN ?_ _) | (with_reducible refine Kd.C_drew ?_) | exact HR411_0.out)) | (with_reducible refine Kd.C_alloc ?_ _) | (with_reducible refine Kd.C_drewN ?_ _) | (with_reducible refine Kd.C_drew ?_))); (case side2 => exact HC411_0.out); (case side3 => exact sd_); (case side4 => exact HC412_0.out); rintro e w' ⟨rfl, ⟨nd, rfl⟩⟩; (try first | exact ⟨rfl, _, World.drewN_drewN _ _ _⟩ | exact ⟨rfl, _, Eq.trans (World.drewN_drewN _ _ _) (congrArg (World.drewN _) (Nat.add_assoc _ _ _))⟩)))
                                            repeat (go_quiet (first | (go_at_call 20; (with_reducible refine (stockyardlaw03_equal.calls k5 _ _ ((rd_T28 t404 x110_5).f0) _ _ ((rd_T28 l2 x110_5).f0) true _ ?side1 ?side2 ?side3 ?side4 A139.out).mono ?_); (case side1 => repeat (first | exact (by repeat (first | (with_reducible exact HR411_0.out) | (with_reducible refine Kd.C_alloc ?_ _) | (with_reducible refine Kd.C_drewN ?_ _) | (with_reducible refine Kd.C_drew ?_) | exact HR411_0.out)) | (with_reducible refine Kd.C_alloc ?_ _) | (with_reducible refine Kd.C_drewN ?_ _) | (with_reducible refine Kd.C_drew ?_))); (case side2 => exact HC411_0.out); (case side3 => exact sd_); (case side4 => exact HC412_0.out); rintro e w' ⟨rfl, ⟨nd, rfl⟩⟩; (try first | exact ⟨rfl, _, World.drewN_drewN _ _ _⟩ | exact ⟨rfl, _, Eq.trans (World.drewN_drewN _ _ _) (congrArg (World.drewN _) (Nat.add_assoc _ _ _))⟩))); try go_wp2_with (first | (go_at_call 20; (with_reducible refine (stockyardlaw03_equal.calls k5 _ _ ((rd_T28 t404 x110_5).f0) _ _ ((rd_T28 l2 x110_5).f0) true _ ?side1 ?side2 ?side3 ?side4 A139.out).mono ?_); (case side1 => repeat (first | exact (by repeat (first | (with_reducible exact HR411_0.out) | (with_reducible refine Kd.C_alloc ?_ _) | (with_reducible refine Kd.C_drewN ?_ _) | (with_reducible refine Kd.C_drew ?_) | exact HR411_0.out)) | (with_reducible refine Kd.C_alloc ?_ _) | (with_reducible refine Kd.C_drewN ?_ _) | (with_reducible refine Kd.C_drew ?_))); (case side2 => exact HC411_0.out); (case side3 => exact sd_); (case side4 => exact HC412_0.out); rintro e w' ⟨rfl, ⟨nd, rfl⟩⟩; (try first | exact ⟨rfl, _, World.drewN_drewN _ _ _⟩ | exact ⟨rfl, _, Eq.trans (World.drewN_drewN _ _ _) (congrArg (World.drewN _) (Nat.add_assoc _ _ _))⟩))))
                                            go_roundg k5
                                            case measure => have := HJ3.out; have := HK2.out; have := HJ53.out; have := HJ109.out; have := HK5.out; omega
                                            case rel => exact ⟨(wrap64 (x110_5 + 1)), (by first | rfl | (simp; done) | (simp [*]; done)), H', ⟨by have := HJ3.out; have := HK2.out; have := HJ53.out; have := HJ109.out; have := HK5.out; omega⟩, ⟨by (with_reducible repeat (first | apply Kd.S_alloc | apply Kd.S_drewN | apply Kd.S_drew)); exact HO_9.out⟩, ⟨by (with_reducible repeat (first | apply Kd.R_alloc | apply Kd.R_drewN | apply Kd.R_drew)); exact HO_403000.out⟩, ⟨bk_⟩, ⟨bk_⟩, ⟨bk_⟩, ⟨hb_⟩⟩
                                          · replace c140 := Bool.eq_false_iff.mpr c140
                                            subst c140
                                            have H1 : (some false) = some r := by rw [if_neg (show ¬ (false = true) by decide)] at H; exact H
                                            clear H
                                            have H := H1
                                            clear H1
                                            obtain rfl := Option.some.inj H
                                            obtain ⟨Ao142, co142, eo142⟩ := Kd.S_slice HO_9.out
                                            subst eo142
                                            have p409 : 0 ≤ (x110_5 : Int) := of_decide_eq_true (by first | (with_reducible assumption) | assumption)
                                            have q409 : x110_5 < (t404.length : Int) := of_decide_eq_true (by first | (with_reducible assumption) | assumption)
                                            obtain ⟨ad409, A409_0, c409_0, e409, hx409_0, hx409_1, hl409_0, hi409_0⟩ := at_T28 (Kd.S_reads' HO_9.out).2.2 x110_5 p409 q409
                                            cases e409
                                            obtain ⟨ce409, hce409, hMe409, hcc409⟩ := Kd.S_get HO_9.out z28 x110_5 p409 (by first | exact q409 | exact of_decide_eq_true (by first | (with_reducible assumption) | assumption) | (have e_ := (Kd.S_reads' HO_9.out).1; omega))
                                            obtain ⟨ve409_0, rfl, ge409_0⟩ := k28_openM hMe409
                                            have hv409_0 := hcc409 0 _ rfl
                                            rw [Nat.add_zero] at hv409_0
                                            replace hv409_0 := Option.some.inj (hv409_0.symm.trans hx409_0)
                                            rw [hv409_0] at ge409_0
                                            have HL409_0 := Aside0.mk (show Kd.R Kd.string 9 _ _ _ _ ((rd_T28 t404 x110_5).f0) from ge409_0)
                                            clear hv409_0 ge409_0
                                            clear hcc409 hce409
                                            have HR409_0 := Aside0.mk hi409_0
                                            have HC409_0 := Aside0.mk hl409_0
                                            clear hi409_0 hl409_0
                                            replace p409 := eq_true p409
                                            replace q409 := eq_true q409
                                            have p410 : 0 ≤ (x110_5 : Int) := of_decide_eq_true (by first | (with_reducible assumption) | assumption)
                                            have q410 : x110_5 < (l2.length : Int) := of_decide_eq_true (by first | (with_reducible assumption) | assumption)
                                            obtain ⟨ad410, A410_0, c410_0, e410, hx410_0, hx410_1, hl410_0, hi410_0⟩ := at_T28 HR2.out x110_5 p410 q410
                                            cases e410
                                            replace hx410_0 := (HB.out.cell (World.block_lt_of_cell? w _ hx410_0)).trans hx410_0
                                            replace hx410_1 := (HB.out.cell (World.block_lt_of_cell? w _ hx410_1)).trans hx410_1
                                            have HR410_0 := Aside0.mk hi410_0
                                            have HC410_0 := Aside0.mk hl410_0
                                            clear hi410_0 hl410_0
                                            replace p410 := eq_true p410
                                            replace q410 := eq_true q410
                                            have p411 : 0 ≤ (x110_5 : Int) := of_decide_eq_true (by first | (with_reducible assumption) | assumption)
                                            have q411 : x110_5 < (t404.length : Int) := of_decide_eq_true (by first | (with_reducible assumption) | assumption)
                                            obtain ⟨ad411, A411_0, c411_0, e411, hx411_0, hx411_1, hl411_0, hi411_0⟩ := at_T28 (Kd.S_reads' HO_9.out).2.2 x110_5 p411 q411
                                            obtain rfl : ad409 = ad411 := (by injection e411)
                                            obtain ⟨ce411, hce411, hMe411, hcc411⟩ := Kd.S_get HO_9.out z28 x110_5 p411 (by first | exact q411 | exact of_decide_eq_true (by first | (with_reducible assumption) | assumption) | (have e_ := (Kd.S_reads' HO_9.out).1; omega))
                                            obtain ⟨ve411_0, rfl, ge411_0⟩ := k28_openM hMe411
                                            have hv411_0 := hcc411 0 _ rfl
                                            rw [Nat.add_zero] at hv411_0
                                            replace hv411_0 := Option.some.inj (hv411_0.symm.trans hx411_0)
                                            rw [hv411_0] at ge411_0
                                            have HL411_0 := Aside0.mk (show Kd.R Kd.string 9 _ _ _ _ ((rd_T28 t404 x110_5).f0) from ge411_0)
                                            clear hv411_0 ge411_0
                                            clear hcc411 hce411
                                            have HR411_0 := Aside0.mk hi411_0
                                            have HC411_0 := Aside0.mk hl411_0
                                            clear hi411_0 hl411_0
                                            replace p411 := eq_true p411
                                            replace q411 := eq_true q411
                                            have ea_ := Option.some.inj (hx409_0.symm.trans hx411_0)
                                            injection ea_ with ea_ en_ ec_
                                            subst ea_
                                            subst ec_
                                            clear en_
                                            have p412 : 0 ≤ (x110_5 : Int) := of_decide_eq_true (by first | (with_reducible assumption) | assumption)
                                            have q412 : x110_5 < (l2.length : Int) := of_decide_eq_true (by first | (with_reducible assumption) | assumption)
                                            obtain ⟨ad412, A412_0, c412_0, e412, hx412_0, hx412_1, hl412_0, hi412_0⟩ := at_T28 HR2.out x110_5 p412 q412
                                            obtain rfl : ad410 = ad412 := (by injection e412)
                                            replace hx412_0 := (HB.out.cell (World.block_lt_of_cell? w _ hx412_0)).trans hx412_0
                                            replace hx412_1 := (HB.out.cell (World.block_lt_of_cell? w _ hx412_1)).trans hx412_1
                                            have HR412_0 := Aside0.mk hi412_0
                                            have HC412_0 := Aside0.mk hl412_0
                                            clear hi412_0 hl412_0
                                            replace p412 := eq_true p412
                                            replace q412 := eq_true q412
                                            have ea_ := Option.some.inj (hx410_0.symm.trans hx412_0)
                                            injection ea_ with ea_ en_ ec_
                                            subst ea_
                                            subst ec_
                                            clear en_
                                            go_wp2_with (first | (go_at_call 20; (with_reducible refine (stockyardlaw03_equal.calls k5 _ _ ((rd_T28 t404 x110_5).f0) _ _ ((rd_T28 l2 x110_5).f0) false _ ?side1 ?side2 ?side3 ?side4 A139.out).mono ?_); (case side1 => repeat (first | exact (by repeat (first | (with_reducible exact HR411_0.out) | (with_reducible refine Kd.C_alloc ?_ _) | (with_reducible refine Kd.C_drewN ?_ _) | (with_reducible refine Kd.C_drew ?_) | exact HR411_0.out)) | (with_reducible refine Kd.C_alloc ?_ _) | (with_reducible refine Kd.C_drewN ?_ _) | (with_reducible refine Kd.C_drew ?_))); (case side2 => exact HC411_0.out); (case side3 => exact sd_); (case side4 => exact HC412_0.out); rintro e w' ⟨rfl, ⟨nd, rfl⟩⟩; (try first | exact ⟨rfl, _, World.drewN_drewN _ _ _⟩ | exact ⟨rfl, _, Eq.trans (World.drewN_drewN _ _ _) (congrArg (World.drewN _) (Nat.add_assoc _ _ _))⟩)))
                                            repeat (go_quiet (first | (go_at_call 20; (with_reducible refine (stockyardlaw03_equal.calls k5 _ _ ((rd_T28 t404 x110_5).f0) _ _ ((rd_T28 l2 x110_5).f0) false _ ?side1 ?side2 ?side3 ?side4 A139.out).mono ?_); (case side1 => repeat (first | exact (by repeat (first | (with_reducible exact HR411_0.out) | (with_reducible refine Kd.C_alloc ?_ _) | (with_reducible refine Kd.C_drewN ?_ _) | (with_reducible refine Kd.C_drew ?_) | exact HR411_0.out)) | (with_reducible refine Kd.C_alloc ?_ _) | (with_reducible refine Kd.C_drewN ?_ _) | (with_reducible refine Kd.C_drew ?_))); (case side2 => exact HC411_0.out); (case side3 => exact sd_); (case side4 => exact HC412_0.out); rintro e w' ⟨rfl, ⟨nd, rfl⟩⟩; (try first | exact ⟨rfl, _, World.drewN_drewN _ _ _⟩ | exact ⟨rfl, _, Eq.trans (World.drewN_drewN _ _ _) (congrArg (World.drewN _) (Nat.add_assoc _ _ _))⟩))); try go_wp2_with (first | (go_at_call 20; (with_reducible refine (stockyardlaw03_equal.calls k5 _ _ ((rd_T28 t404 x110_5).f0) _ _ ((rd_T28 l2 x110_5).f0) false _ ?side1 ?side2 ?side3 ?side4 A139.out).mono ?_); (case side1 => repeat (first | exact (by repeat (first | (with_reducible exact HR411_0.out) | (with_reducible refine Kd.C_alloc ?_ _) | (with_reducible refine Kd.C_drewN ?_ _) | (with_reducible refine Kd.C_drew ?_) | exact HR411_0.out)) | (with_reducible refine Kd.C_alloc ?_ _) | (with_reducible refine Kd.C_drewN ?_ _) | (with_reducible refine Kd.C_drew ?_))); (case side2 => exact HC411_0.out); (case side3 => exact sd_); (case side4 => exact HC412_0.out); rintro e w' ⟨rfl, ⟨nd, rfl⟩⟩; (try first | exact ⟨rfl, _, World.drewN_drewN _ _ _⟩ | exact ⟨rfl, _, Eq.trans (World.drewN_drewN _ _ _) (congrArg (World.drewN _) (Nat.add_assoc _ _ _))⟩))))
                                            go_ret
                                            exact ⟨rt_, hb_⟩
                                      · rw [if_neg c136] at H
                                        exact absurd H (by simp)
                                    · rw [if_neg c135] at H
                                      exact absurd H (by simp)
                                  · rw [if_neg c134] at H
                                    exact absurd H (by simp)
                                · rw [if_neg c133] at H
                                  have c133b0 : decide (x110_5 < (l2.length : Int)) = false := decide_eq_false c133
                                  clear c133
                                  replace H := Option.bind_eq_some_iff.mp H
                                  obtain ⟨t414, A1430, H⟩ := H
                                  replace H : (some t414) = some r := H
                                  have A143 := Aside0.mk A1430
                                  clear A1430
                                  obtain rfl := Option.some.inj H
                                  go_wp2_with (first | (go_at_call 14; (with_reducible refine (stockyardlaw03_awake.calls k5  t414 _ A143.out).mono ?_); rintro e w144 ⟨rfl, hb⟩; have n0_ := Aside0.mk (Kd.S_below (by (with_reducible repeat (first | apply Kd.S_alloc | apply Kd.S_drewN | apply Kd.S_drew)); exact HO_9.out) hb); replace HO_403000 := rb_ HO_403000 hb; replace BK376 := bb_ BK376 hb; replace BK377 := bb_ BK377 hb; replace BK402 := bb_ BK402 hb; replace HB := hs_ HB hb; clear HO_9; have HO_9 := n0_; clear n0_; (try clear hb); (try clear hb2); (try clear hk); (try clear hi)))
                                  repeat (go_quiet (first | (go_at_call 14; (with_reducible refine (stockyardlaw03_awake.calls k5  t414 _ A143.out).mono ?_); rintro e w144 ⟨rfl, hb⟩; have n0_ := Aside0.mk (Kd.S_below (by (with_reducible repeat (first | apply Kd.S_alloc | apply Kd.S_drewN | apply Kd.S_drew)); exact HO_9.out) hb); replace HO_403000 := rb_ HO_403000 hb; replace BK376 := bb_ BK376 hb; replace BK377 := bb_ BK377 hb; replace BK402 := bb_ BK402 hb; replace HB := hs_ HB hb; clear HO_9; have HO_9 := n0_; clear n0_; (try clear hb); (try clear hb2); (try clear hk); (try clear hi))); try go_wp2_with (first | (go_at_call 14; (with_reducible refine (stockyardlaw03_awake.calls k5  t414 _ A143.out).mono ?_); rintro e w144 ⟨rfl, hb⟩; have n0_ := Aside0.mk (Kd.S_below (by (with_reducible repeat (first | apply Kd.S_alloc | apply Kd.S_drewN | apply Kd.S_drew)); exact HO_9.out) hb); have n1_ := Aside0.mk (Kd.R_below (rp_ HO_403000) hb); have n2_ := Aside0.mk (blk_below (g := gb376) (o := .cells #[.slice A0_0 l0_0.length c0_0, .bool a0_1] 24 (0, 0)) bk_ hb); have n3_ := Aside0.mk (blk_below (g := gb377) (o := .cells #[.slice A1_0 l1_0.length c1_0, .bool a1_1] 24 (0, 0)) bk_ hb); have n4_ := Aside0.mk (blk_below (g := gb402) (o := .cells #[.slice Ao115 t397.length co115, .bool t400] 24 (0, 0)) bk_ hb); have n5_ := Aside0.mk (below_step hb_ hb); clear HO_9; clear HO_403000; clear BK376; clear BK377; clear BK402; clear HB; have HO_9 := n0_; have HO_403000 := n1_; have BK376 := n2_; have BK377 := n3_; have BK402 := n4_; have HB := n5_; clear n0_ n1_ n2_ n3_ n4_ n5_; (try clear hb); (try clear hb2); (try clear hk); (try clear hi))))
                                  go_ret
                                  exact ⟨rt_, hb_⟩
                    · rw [if_neg c108] at H
                      have c108b0 : (t401 == 0) = false := beq_eq_false_iff_ne.mpr c108
                      have c108b1 : (t401 != 0) = true := bne_iff_ne.mpr c108
                      replace H := Option.bind_eq_some_iff.mp H
                      obtain ⟨t403, A1450, H⟩ := H
                      replace H : (some t403) = some r := H
                      have A145 := Aside0.mk A1450
                      clear A1450
                      obtain rfl := Option.some.inj H
                      have hnb146 := NB376_377.out
                      have hnc146 := NB377_376.out
                      obtain ⟨hcz147_0, hcz147_1, hfz147_0, hfz147_1⟩ := c2_ BK376
                      go_wp2_with (first | (go_at_call 15; (with_reducible refine (pattern_Substitute.calls kj53 _ _ l0_0 a0_1 (fun k_ => k_ < w.heap.size) _ _ l2 t397 t400 t401 _ ?side1 ?side2 ?side3 A107.out).mono ?_); (case side1 => exact sd_); (case side2 => exact HC0_0.out); (case side3 => exact Kd.V_mk HC2.out (Kd.F_below (Kd.C_F k28_heap HR2.out) hb_)); rintro e w148 ⟨v398, rfl, ho0, hb⟩; have n0_ := Aside0.mk (Kd.R_lower (Kd.R_mono (ok' := fun k_ => True) ho0 (fun _ hk_ => trivial)) (below_size hb_)); replace BK376 := bb_ BK376 hb; replace BK377 := bb_ BK377 hb; replace HB := hs_ HB hb; have HO399 := n0_; clear n0_; (try clear hb); (try clear hb2); (try clear hk); (try clear hi); (try clear ho0)) | ((with_reducible refine gate_dst (N := 13) rfl ?_); (try (refine gate_guard (by rfl) ?_; dsimp only)); refine box_event ?hg (N := 13) ?hd (cs := #[.slice none 0 0, .bool false]) (t := 24) ?hr ?_; (case hd => rfl); (case hg => rfl); (case hr => first | (go_simp; done) | (go_simp; rfl)); intro gb402 hg w149 hbox hb; have BK402 := Aside0.mk hbox; have GW402 := gw_ HB hg; have GE402 := gw_ HB hg; have NB376_402 := nl_ BK376 hg; have NB402_376 := nr_ BK376 hg; have NB377_402 := nl_ BK377 hg; have NB402_377 := nr_ BK377 hg; replace HO399 := rb_ HO399 hb; replace BK376 := bb_ BK376 hb; replace BK377 := bb_ BK377 hb; replace HB := hs_ HB hb; clear hb hbox hg; obtain ⟨Ao150, co150, eo150⟩ := Kd.R_slice HO399.out; subst eo150; have hnb151 := NB402_376.out; have hnc151 := NB376_402.out; have hnb152 := NB402_377.out; have hnc152 := NB377_402.out; obtain ⟨hcz153_0, hcz153_1, hfz153_0, hfz153_1⟩ := c2_ BK402) | (go_at_call 14; (with_reducible refine (stockyardlaw03_awake.calls kj53  t403 _ A145.out).mono ?_); rintro e w154 ⟨rfl, hb⟩; have n0_ := Aside0.mk (Kd.R_below (by (with_reducible repeat (first | apply Kd.R_alloc | apply Kd.R_drewN | apply Kd.R_drew)); exact (Kd.R_mono (Kd.R_far (p := ⟨gb402, 1, none⟩) (Kd.R_far (p := ⟨gb402, 0, none⟩) (Kd.R_types HO399.out BK402.out (by decide)) (fun _ hk => hk.2) (.slice Ao150 t397.length co150)) (fun _ hk => hk.2) (.bool t400)) (fun _ h_ => h_.1))) hb); have n3_ := Aside0.mk (blk_below (g := gb402) (o := .cells #[.slice Ao150 t397.length co150, .bool t400] 24 (0, 0)) bz_ hb); replace BK376 := bb_ BK376 hb; replace BK377 := bb_ BK377 hb; replace HB := hs_ HB hb; clear HO399 BK402; have HO399 := n0_; have BK402 := n3_; clear n0_ n3_; (try clear hb); (try clear hb2); (try clear hk); (try clear hi)))
                      repeat (go_quiet (first | (go_at_call 15; (with_reducible refine (pattern_Substitute.calls kj53 _ _ l0_0 a0_1 (fun k_ => k_ < w.heap.size) _ _ l2 t397 t400 t401 _ ?side1 ?side2 ?side3 A107.out).mono ?_); (case side1 => exact sd_); (case side2 => exact HC0_0.out); (case side3 => exact Kd.V_mk HC2.out (Kd.F_below (Kd.C_F k28_heap HR2.out) hb_)); rintro e w148 ⟨v398, rfl, ho0, hb⟩; have n0_ := Aside0.mk (Kd.R_lower (Kd.R_mono (ok' := fun k_ => True) ho0 (fun _ hk_ => trivial)) (below_size hb_)); replace BK376 := bb_ BK376 hb; replace BK377 := bb_ BK377 hb; replace HB := hs_ HB hb; have HO399 := n0_; clear n0_; (try clear hb); (try clear hb2); (try clear hk); (try clear hi); (try clear ho0)) | ((with_reducible refine gate_dst (N := 13) rfl ?_); (try (refine gate_guard (by rfl) ?_; dsimp only)); refine box_event ?hg (N := 13) ?hd (cs := #[.slice none 0 0, .bool false]) (t := 24) ?hr ?_; (case hd => rfl); (case hg => rfl); (case hr => first | (go_simp; done) | (go_simp; rfl)); intro gb402 hg w149 hbox hb; have BK402 := Aside0.mk hbox; have GW402 := gw_ HB hg; have GE402 := gw_ HB hg; have NB376_402 := nl_ BK376 hg; have NB402_376 := nr_ BK376 hg; have NB377_402 := nl_ BK377 hg; have NB402_377 := nr_ BK377 hg; replace HO399 := rb_ HO399 hb; replace BK376 := bb_ BK376 hb; replace BK377 := bb_ BK377 hb; replace HB := hs_ HB hb; clear hb hbox hg; obtain ⟨Ao150, co150, eo150⟩ := Kd.R_slice HO399.out; subst eo150; have hnb151 := NB402_376.out; have hnc151 := NB376_402.out; have hnb152 := NB402_377.out; have hnc152 := NB377_402.out; obtain ⟨hcz153_0, hcz153_1, hfz153_0, hfz153_1⟩ := c2_ BK402) | (go_at_call 14; (with_reducible refine (stockyardlaw03_awake.calls kj53  t403 _ A145.out).mono ?_); rintro e w154 ⟨rfl, hb⟩; have n0_ := Aside0.mk (Kd.R_below (by (with_reducible repeat (first | apply Kd.R_alloc | apply Kd.R_drewN | apply Kd.R_drew)); exact (Kd.R_mono (Kd.R_far (p := ⟨gb402, 1, none⟩) (Kd.R_far (p := ⟨gb402, 0, none⟩) (Kd.R_types HO399.out BK402.out (by decide)) (fun _ hk => hk.2) (.slice Ao150 t397.length co150)) (fun _ hk => hk.2) (.bool t400)) (fun _ h_ => h_.1))) hb); have n3_ := Aside0.mk (blk_below (g := gb402) (o := .cells #[.slice Ao150 t397.length co150, .bool t400] 24 (0, 0)) bz_ hb); replace BK376 := bb_ BK376 hb; replace BK377 := bb_ BK377 hb; replace HB := hs_ HB hb; clear HO399 BK402; have HO399 := n0_; have BK402 := n3_; clear n0_ n3_; (try clear hb); (try clear hb2); (try clear hk); (try clear hi))); try go_wp2_with (first | (go_at_call 15; (with_reducible refine (pattern_Substitute.calls kj53 _ _ l0_0 a0_1 (fun k_ => k_ < w.heap.size) _ _ l2 t397 t400 t401 _ ?side1 ?side2 ?side3 A107.out).mono ?_); (case side1 => exact sd_); (case side2 => exact HC0_0.out); (case side3 => exact Kd.V_mk HC2.out (Kd.F_below (Kd.C_F k28_heap HR2.out) hb_)); rintro e w148 ⟨v398, rfl, ho0, hb⟩; have n0_ := Aside0.mk (Kd.R_lower (Kd.R_mono (ok' := fun k_ => True) ho0 (fun _ hk_ => trivial)) (below_size hb_)); have n1_ := Aside0.mk (blk_below (g := gb376) (o := .cells #[.slice A0_0 l0_0.length c0_0, .bool a0_1] 24 (0, 0)) bk_ hb); have n2_ := Aside0.mk (blk_below (g := gb377) (o := .cells #[.slice A1_0 l1_0.length c1_0, .bool a1_1] 24 (0, 0)) bk_ hb); have n3_ := Aside0.mk (below_step hb_ hb); clear BK376; clear BK377; clear HB; have HO399 := n0_; have BK376 := n1_; have BK377 := n2_; have HB := n3_; clear n0_ n1_ n2_ n3_; (try clear hb); (try clear hb2); (try clear hk); (try clear hi); (try clear ho0)) | ((with_reducible refine gate_dst (N := 13) rfl ?_); (try (refine gate_guard (by rfl) ?_; dsimp only)); refine box_event ?hg (N := 13) ?hd (cs := #[.slice none 0 0, .bool false]) (t := 24) ?hr ?_; (case hd => rfl); (case hg => rfl); (case hr => first | (go_simp; done) | (go_simp; rfl)); intro gb402 hg w149 hbox hb; have n0_ := Aside0.mk (Kd.R_below (rp_ HO399) hb); have n1_ := Aside0.mk (blk_below (g := gb376) (o := .cells #[.slice A0_0 l0_0.length c0_0, .bool a0_1] 24 (0, 0)) bk_ hb); have n2_ := Aside0.mk (blk_below (g := gb377) (o := .cells #[.slice A1_0 l1_0.length c1_0, .bool a1_1] 24 (0, 0)) bk_ hb); have n3_ := Aside0.mk (below_step hb_ hb); have n4_ := Aside0.mk (hbox); have n5_ := Aside0.mk ((by rw [hg]; exact (below_size hb_) : w.heap.size ≤ gb402)); have n6_ := Aside0.mk ((by rw [hg]; exact (below_size hb_) : w.heap.size ≤ gb402)); have n7_ := Aside0.mk ((by rw [hg]; exact Nat.ne_of_lt (blk_lt (g := gb376) (o := .cells #[.slice A0_0 l0_0.length c0_0, .bool a0_1] 24 (0, 0)) bk_) : gb376 ≠ gb402)); have n8_ := Aside0.mk ((by rw [hg]; exact Nat.ne_of_gt (blk_lt (g := gb376) (o := .cells #[.slice A0_0 l0_0.length c0_0, .bool a0_1] 24 (0, 0)) bk_) : gb402 ≠ gb376)); have n9_ := Aside0.mk ((by rw [hg]; exact Nat.ne_of_lt (blk_lt (g := gb377) (o := .cells #[.slice A1_0 l1_0.length c1_0, .bool a1_1] 24 (0, 0)) bk_) : gb377 ≠ gb402)); have n10_ := Aside0.mk ((by rw [hg]; exact Nat.ne_of_gt (blk_lt (g := gb377) (o := .cells #[.slice A1_0 l1_0.length c1_0, .bool a1_1] 24 (0, 0)) bk_) : gb402 ≠ gb377)); clear HO399; clear BK376; clear BK377; clear HB; have HO399 := n0_; have BK376 := n1_; have BK377 := n2_; have HB := n3_; have BK402 := n4_; have GW402 := n5_; have GE402 := n6_; have NB376_402 := n7_; have NB402_376 := n8_; have NB377_402 := n9_; have NB402_377 := n10_; clear n0_ n1_ n2_ n3_ n4_ n5_ n6_ n7_ n8_ n9_ n10_; clear hb hbox hg; obtain ⟨Ao150, co150, eo150⟩ := Kd.R_slice HO399.out; subst eo150; have hnb151 := NB402_376.out; have hnc151 := NB376_402.out; have hnb152 := NB402_377.out; have hnc152 := NB377_402.out; have hcz153_0 : w149.cell? ⟨gb402, 0, none⟩ = some (.slice none 0 0) := (blk_cell BK402.out 0).trans rfl; have hcz153_1 : w149.cell? ⟨gb402, 1, none⟩ = some (.bool false) := (blk_cell BK402.out 1).trans rfl; have hfz153_0 := blk_frozen BK402.out 0; have hfz153_1 := blk_frozen BK402.out 1) | (go_at_call 14; (with_reducible refine (stockyardlaw03_awake.calls kj53  t403 _ A145.out).mono ?_); rintro e w154 ⟨rfl, hb⟩; have n0_ := Aside0.mk (Kd.R_below (by (with_reducible repeat (first | apply Kd.R_alloc | apply Kd.R_drewN | apply Kd.R_drew)); exact (Kd.R_mono (Kd.R_far (p := ⟨gb402, 1, none⟩) (Kd.R_far (p := ⟨gb402, 0, none⟩) (Kd.R_types HO399.out BK402.out (by decide)) (fun _ hk => hk.2) (.slice Ao150 t397.length co150)) (fun _ hk => hk.2) (.bool t400)) (fun _ h_ => h_.1))) hb); have n1_ := Aside0.mk (blk_below (g := gb376) (o := .cells #[.slice A0_0 l0_0.length c0_0, .bool a0_1] 24 (0, 0)) bz_ hb); have n2_ := Aside0.mk (blk_below (g := gb377) (o := .cells #[.slice A1_0 l1_0.length c1_0, .bool a1_1] 24 (0, 0)) bz_ hb); have n3_ := Aside0.mk (blk_below (g := gb402) (o := .cells #[.slice Ao150 t397.length co150, .bool t400] 24 (0, 0)) bz_ hb); have n4_ := Aside0.mk (below_step hb_ hb); clear HO399; clear BK376; clear BK377; clear BK402; clear HB; have HO399 := n0_; have BK376 := n1_; have BK377 := n2_; have BK402 := n3_; have HB := n4_; clear n0_ n1_ n2_ n3_ n4_; (try clear hb); (try clear hb2); (try clear hk); (try clear hi))))
                      go_ret
                      exact ⟨rt_, hb_⟩

end Go.Proofs.YthclkdplihchjaaDoor.P

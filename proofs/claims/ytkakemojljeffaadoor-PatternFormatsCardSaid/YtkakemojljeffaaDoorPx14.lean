-- Written by a program of this session (wip/gen.py) over the kit's print: each Go function as a plain Lean function, and the proof that the Go code comes to it. Nothing here is trusted: Lean checks it.
import Derived.Test.YtkakemojljeffaaDoorPx0
import Derived.Test.YtkakemojljeffaaDoorPx2
import Derived.Test.YtkakemojljeffaaDoorPx3
import Derived.Test.YtkakemojljeffaaDoorPx5
import Derived.Test.YtkakemojljeffaaDoorPx6
import Derived.Test.YtkakemojljeffaaDoorPx12
namespace Go.Proofs.YtkakemojljeffaaDoor.P
open Go.RowKit Go.Proofs.YtkakemojljeffaaDoorW.PrintWords Go.Proofs.YtkakemojljeffaaDoorW.PrintLast Go.Proofs.YtkakemojljeffaaDoorW.PrintMore
attribute [local go_sem] str_gtr str_leq str_geq max2_int min2_int max_two min_two max_three min_three max_four min_four   -- for this text's walks alone
set_option linter.unusedVariables false
set_option linter.unusedSimpArgs false

/-! ### stockyardlaw03_copied: function 27 -/
def stockyardlaw03_copied.f (l0_0 : List ByteArray) (a0_1 : Bool) : Option (List ByteArray × Bool) := if ([] : List ByteArray).length + l0_0.length < 8796093022208 then (some ((([] : List ByteArray) ++ l0_0), a0_1)) else (none)
set_option maxHeartbeats 8000000 in
set_option maxRecDepth 100000 in
theorem stockyardlaw03_copied.calls (A0_0 : Option Addr) (c0_0 : Nat) (l0_0 : List ByteArray) (a0_1 : Bool) (r1 : List ByteArray) (r2 : Bool) (w : World) (hr0_0 : Kd.C Kd.string w A0_0 l0_0.length l0_0) (hc0_0 : l0_0.length ≤ c0_0) (h : stockyardlaw03_copied.f l0_0 a0_1 = some (r1, r2)) :
    Calls Tryd.prog 27 #[.agg #[.slice A0_0 l0_0.length c0_0, .bool a0_1]] w fun e w' => ∃ v0_ : Value, e = .returned (.agg #[v0_, .bool r2]) ∧ Kd.R Kd.string 9 w' w.heap.size (fun _ => True) v0_ r1 ∧ Below w.heap.size w w' := by
  have hu25 := Tryd.underlying25
  have HR0_0 := Aside0.mk hr0_0
  have HC0_0 := Aside0.mk hc0_0
  clear hr0_0 hc0_0
  have HB := Aside0.mk (Below.refl w.heap.size w)
  have H : (if ([] : List ByteArray).length + l0_0.length < 8796093022208 then (some ((([] : List ByteArray) ++ l0_0), a0_1)) else (none)) = some (r1, r2) := h
  clear h
  by_cases c2 : ([] : List ByteArray).length + l0_0.length < 8796093022208
  · rw [if_pos c2] at H
    have LMc2 := Aside0.mk c2
    clear c2
    obtain ⟨y306, hy306⟩ : ∃ y_ : List ByteArray, y_ = (([] : List ByteArray) ++ l0_0) := ⟨_, rfl⟩
    replace H : (some (y306, a0_1)) = some (r1, r2) := by first | (rw [hy306]; with_reducible exact H) | (have H2_ := (Option.bind_some _ _).symm.trans H; rw [hy306]; with_reducible exact H2_) | (have H2_ := (Option.bind_some _ _).symm.trans H; with_reducible exact H2_) | with_reducible exact H | (rw [hy306]; exact H) | exact H
    have Ny306 := Aside0.mk hy306
    clear hy306
    simp only [Option.some.injEq, Prod.mk.injEq] at H
    obtain ⟨rfl, rfl⟩ := H
    go_enter Tryd.func27, Tryd.ntmps27
    try go_wp2_with (first | ((with_reducible refine gate_dst (N := 1) rfl ?_); refine box_event ?hg (N := 1) ?hd (cs := #[.slice A0_0 l0_0.length c0_0, .bool a0_1]) (t := 25) ?hr ?_; (case hd => rfl); (case hg => rfl); (case hr => first | (go_simp; done) | (go_simp; rfl)); intro gb304 hg w3 hbox hb; have n0_ := Aside0.mk (below_step (by repeat (first | (with_reducible first | exact HB.out | apply below_alloc | apply pw_below_drewN | apply below_drew1) | exact HB.out)) hb); have n1_ := Aside0.mk (hbox); have n2_ := Aside0.mk ((by rw [hg]; exact (below_size (by repeat (first | (with_reducible first | exact HB.out | apply below_alloc | apply pw_below_drewN | apply below_drew1) | exact HB.out))) : w.heap.size ≤ gb304)); have n3_ := Aside0.mk ((by rw [hg]; exact (below_size (by repeat (first | (with_reducible first | exact HB.out | apply below_alloc | apply pw_below_drewN | apply below_drew1) | exact HB.out))) : w.heap.size ≤ gb304)); clear HB; have HB := n0_; have BK304 := n1_; have GW304 := n2_; have GE304 := n3_; clear n0_ n1_ n2_ n3_; clear hb hbox hg) | ((with_reducible refine gate_dst (N := 2) rfl ?_); refine box_event ?hg (N := 2) ?hd (cs := #[.slice none 0 0, .bool false]) (t := 25) ?hr ?_; (case hd => rfl); (case hg => rfl); (case hr => first | (go_simp; done) | (go_simp; rfl)); intro gb305 hg w4 hbox hb; have n0_ := Aside0.mk (blk_below (g := gb304) (o := .cells #[.slice A0_0 l0_0.length c0_0, .bool a0_1] 25 (0, 0)) (by (with_reducible repeat (first | refine blk_drewN ?_ _ | refine blk_drew ?_ | refine blk_alloc ?_ _)); exact BK304.out) hb); have n1_ := Aside0.mk (below_step (by repeat (first | (with_reducible first | exact HB.out | apply below_alloc | apply pw_below_drewN | apply below_drew1 | refine below_set ?_ GE304.out) | exact HB.out)) hb); have n2_ := Aside0.mk (hbox); have n3_ := Aside0.mk ((by rw [hg]; exact (below_size (by repeat (first | (with_reducible first | exact HB.out | apply below_alloc | apply pw_below_drewN | apply below_drew1 | refine below_set ?_ GE304.out) | exact HB.out))) : w.heap.size ≤ gb305)); have n4_ := Aside0.mk ((by rw [hg]; exact (below_size (by repeat (first | (with_reducible first | exact HB.out | apply below_alloc | apply pw_below_drewN | apply below_drew1 | refine below_set ?_ GE304.out) | exact HB.out))) : w.heap.size ≤ gb305)); have n5_ := Aside0.mk ((by rw [hg]; exact Nat.ne_of_lt (blk_lt (g := gb304) (o := .cells #[.slice A0_0 l0_0.length c0_0, .bool a0_1] 25 (0, 0)) (by (with_reducible repeat (first | refine blk_drewN ?_ _ | refine blk_drew ?_ | refine blk_alloc ?_ _)); exact BK304.out)) : gb304 ≠ gb305)); have n6_ := Aside0.mk ((by rw [hg]; exact Nat.ne_of_gt (blk_lt (g := gb304) (o := .cells #[.slice A0_0 l0_0.length c0_0, .bool a0_1] 25 (0, 0)) (by (with_reducible repeat (first | refine blk_drewN ?_ _ | refine blk_drew ?_ | refine blk_alloc ?_ _)); exact BK304.out)) : gb305 ≠ gb304)); clear BK304; clear HB; have BK304 := n0_; have HB := n1_; have BK305 := n2_; have GW305 := n3_; have GE305 := n4_; have NB304_305 := n5_; have NB305_304 := n6_; clear n0_ n1_ n2_ n3_ n4_ n5_ n6_; clear hb hbox hg))
    have n0_ := Aside0.mk (blk_drew BK304.out)
    have n1_ := Aside0.mk (blk_drew BK305.out)
    have n2_ := Aside0.mk (below_drew1 HB.out)
    clear BK304
    clear BK305
    clear HB
    have BK304 := n0_
    have BK305 := n1_
    have HB := n2_
    clear n0_ n1_ n2_
    refine start_ (n := 7) (S := fun w' => w'.cell? ⟨gb304, 0, none⟩ = some (.slice A0_0 l0_0.length c0_0) ∧ w'.cell? ⟨gb304, 1, none⟩ = some (.bool a0_1)) (ds := []) #[false, false, false, false, false, false, false] (by kernel_rfl) rfl rfl ⟨(blk_cell BK304.out 0).trans rfl, (blk_cell BK304.out 1).trans rfl⟩ (fun hHeld => ?_)
    generalize w4.drew = w5 at BK304 BK305 HB hHeld ⊢
    refine pure_ (i := 0) (N := some 3) (v := ?_) (a' := ?_) #[true, false, false, false, false, false, false] rfl rfl (by kernel_rfl) (fun _ _ _ h => h) (Or.inl ⟨by rfl, ?_⟩) ?_ ?_
    rotate_left
    · intro w'
      go_simp
      with_reducible rfl
    rotate_left
    · simp only [Act.put, List.setIfInBounds_toArray, List.set_cons_zero, List.set_cons_succ, i64_w, i32_w]
      rfl
    refine pure_ (i := 3) (N := some 6) (v := ?_) (a' := ?_) #[true, false, false, true, false, false, false] rfl rfl (by kernel_rfl) (fun _ _ _ h => h) (Or.inl ⟨by rfl, ?_⟩) ?_ ?_
    rotate_left
    · intro w'
      go_simp
      with_reducible rfl
    rotate_left
    · simp only [Act.put, List.setIfInBounds_toArray, List.set_cons_zero, List.set_cons_succ, i64_w, i32_w]
      rfl
    refine take_ (i := 1) (N := some 4) (v := ?_) (a' := ?_) #[true, true, false, true, false, false, false] rfl rfl (by kernel_rfl) (fun _ _ _ h => h) (Or.inl ⟨by rfl, ?_⟩) hHeld ?_ ?_
    rotate_left
    · rintro w' ⟨s0, s1⟩
      go_simp
      with_reducible rfl
    rotate_left
    · simp only [Act.put, List.setIfInBounds_toArray, List.set_cons_zero, List.set_cons_succ, i64_w, i32_w]
      rfl
    refine take_ (i := 4) (N := some 7) (v := ?_) (a' := ?_) #[true, true, false, true, true, false, false] rfl rfl (by kernel_rfl) (fun _ _ _ h => h) (Or.inl ⟨by rfl, ?_⟩) hHeld ?_ ?_
    rotate_left
    · rintro w' ⟨s0, s1⟩
      go_simp
      with_reducible rfl
    rotate_left
    · simp only [Act.put, List.setIfInBounds_toArray, List.set_cons_zero, List.set_cons_succ, i64_w, i32_w]
      rfl
    refine one_ (i := 2) (N := some 5) #[true, true, true, true, true, false, false] rfl rfl (by kernel_rfl) (by decide) (fun K hK => ?_)
    refine Kd.R_append_rows_step Kd.string (w0 := w) w.heap.size (by rfl) (.const (.slice none 0 0)) (.tmp 4) 23 9 (.string ⟨#[]⟩) 16 rfl Tryd.underlying23 info9 rfl (by decide) (by omega) (.slice none 0 0) ([] : List ByteArray) l0_0 _ _ _ (fun _ => True) (fun _ => False) rfl rfl ?aO ?aR (fun _ _ h => h) (fun _ h => h.elim) ?aF ?aB ?aS ?aL ?_
    (case aR => repeat (first | exact (Kd.C_below HR0_0.out HB.out) | (with_reducible refine Kd.C_alloc ?_ _) | (with_reducible refine Kd.C_drewN ?_ _) | (with_reducible refine Kd.C_drew ?_)))
    (case aB => exact (by repeat (first | (with_reducible first | exact HB.out | apply below_alloc | apply pw_below_drewN | apply below_drew1 | refine below_set ?_ GE304.out | refine below_set ?_ GE305.out) | exact HB.out)))
    (case aF => exact (fun _ _ => trivial))
    (case aO => exact ((Kd.R_nil _ _ _ _ (fun _ => True))))
    (case aS => exact (below_size (by repeat (first | (with_reducible first | exact HB.out | apply below_alloc | apply pw_below_drewN | apply below_drew1 | refine below_set ?_ GE304.out | refine below_set ?_ GE305.out) | exact HB.out))))
    (case aL => have := LMc2.out; omega)
    intro v307 w6 ho hb hg hat
    rw [← Ny306.out] at ho
    have n0_ := Aside0.mk (blk_grown (g := gb304) (o := .cells #[.slice A0_0 l0_0.length c0_0, .bool a0_1] 25 (0, 0)) (by (with_reducible repeat (first | refine blk_drewN ?_ _ | refine blk_drew ?_ | refine blk_alloc ?_ _)); exact BK304.out) hg (by simp [Value.ownBlock]))
    have n1_ := Aside0.mk (blk_grown (g := gb305) (o := .cells #[.slice none 0 0, .bool false] 25 (0, 0)) (by (with_reducible repeat (first | refine blk_drewN ?_ _ | refine blk_drew ?_ | refine blk_alloc ?_ _)); exact BK305.out) hg (by simp [Value.ownBlock]))
    have n2_ := Aside0.mk (hb)
    have n3_ := Aside0.mk (ho)
    clear BK304
    clear BK305
    clear HB
    have BK304 := n0_
    have BK305 := n1_
    have HB := n2_
    have HO308 := n3_
    clear n0_ n1_ n2_ n3_
    clear ho hb hg hat
    obtain ⟨Ao7, co7, eo7⟩ := Kd.R_slice HO308.out
    (first | subst eo7 | (injection eo7 with f1_ f2_ f3_; have f4_ := f1_.symm; have f5_ := f3_.symm; clear f1_ f2_ f3_; subst f4_; subst f5_))
    refine hK.out _ _ ⟨(blk_cell BK304.out 0).trans rfl, (blk_cell BK304.out 1).trans rfl⟩ (fun hHeld => ?_)
    clear hK K
    refine norm_ (a' := ?_) ?_ ?_
    rotate_left
    · show Act.put _ (some 5) _ = _
      simp only [Act.put, List.setIfInBounds_toArray, List.set_cons_zero, List.set_cons_succ, i64_w, i32_w]
      rfl
    refine pure_ (i := 5) (N := some 8) (v := ?_) (a' := ?_) #[true, true, true, true, true, true, false] rfl rfl (by kernel_rfl) (fun _ _ _ h => h) (Or.inl ⟨by rfl, ?_⟩) ?_ ?_
    rotate_left
    · intro w'
      go_simp
      with_reducible rfl
    rotate_left
    · simp only [Act.put, List.setIfInBounds_toArray, List.set_cons_zero, List.set_cons_succ, i64_w, i32_w]
      rfl
    refine one_ (i := 6) (N := none) #[true, true, true, true, true, true, true] rfl rfl (by kernel_rfl) (by decide) (fun K hK => ?_)
    have hs8 : w6.cell? ⟨gb305, 0, none⟩ = some (.slice none 0 0) := (blk_cell BK305.out 0).trans rfl
    have hfs8 := blk_frozen BK305.out 0
    have hns8_0 := NB304_305.out
    have hms8_0 := NB305_304.out
    have hs9 : w6.cell? ⟨gb305, 1, none⟩ = some (.bool false) := (blk_cell BK305.out 1).trans rfl
    have hfs9 := blk_frozen BK305.out 1
    have hns9_0 := NB304_305.out
    have hms9_0 := NB305_304.out
    refine skip_ (w1 := ?_) (by rfl) rfl ?_ ?_
    rotate_left
    · go_simp
      rfl
    refine hK.out _ _ ⟨((cell_far (p := ⟨gb305, _, none⟩) NB304_305.out _).trans (((cell_far (p := ⟨gb305, _, none⟩) NB304_305.out _).trans (hHeld.1)))), ((cell_far (p := ⟨gb305, _, none⟩) NB304_305.out _).trans (((cell_far (p := ⟨gb305, _, none⟩) NB304_305.out _).trans (hHeld.2))))⟩ (fun hHeld => ?_)
    clear hK K
    refine done_ (by kernel_rfl) ?_
    try go_wp2
    refine bodyPost_ret (results_cell_row rfl _ _ gb305 25 #[.slice Ao7 y306.length co7, .bool a0_1] (0, 0) _ rfl (by (with_reducible repeat (first | refine blk_drewN ?_ _ | refine blk_drew ?_ | refine blk_alloc ?_ _)); refine blk_put (cs := #[.slice Ao7 y306.length co7, .bool false]) ?_ 1 _ rfl; (with_reducible repeat (first | refine blk_drewN ?_ _ | refine blk_drew ?_ | refine blk_alloc ?_ _)); refine blk_put (cs := #[.slice none 0 0, .bool false]) ?_ 0 _ rfl; (with_reducible repeat (first | refine blk_drewN ?_ _ | refine blk_drew ?_ | refine blk_alloc ?_ _)); exact BK305.out) Tryd.underlying25 rfl (by kernel_rfl)) rfl ?_
    exact ⟨_, by first | rfl | (simp [errW_none, errW_some] <;> rfl) | (simp [*, errW_none, errW_some] <;> rfl), by (with_reducible repeat (first | apply Kd.R_alloc | apply Kd.R_drewN | apply Kd.R_drew)); exact Kd.R_mono (Kd.R_far (p := ⟨gb305, 1, none⟩) (Kd.R_far (p := ⟨gb305, 0, none⟩) (Kd.R_types HO308.out BK305.out (by decide)) (fun _ hk => hk.2) (.slice Ao7 y306.length co7)) (fun _ hk => hk.2) (.bool a0_1)) (fun _ hk => trivial), by repeat (first | (with_reducible first | exact HB.out | apply below_alloc | apply pw_below_drewN | apply below_drew1 | refine below_set ?_ GE304.out | refine below_set ?_ GE305.out) | exact HB.out)⟩
  · rw [if_neg c2] at H
    exact absurd H (by simp)

/-! ### stockyardlaw03_PatternFormats: function 6 -/
def stockyardlaw03_PatternFormats.j0 : Nat → ByteArray → Int → Bool → List ByteArray → Bool → Option (Bool)
  | 0, _, _, _, _, _ => none
  | k + 1, x4, x6, x34, x312000, x312001 => if x34 = true then (some false) else (if x6 = 0 then ((stockyardref03_Text.f x312000 x312001).bind fun t324 => (if x4.toList = t324.toList then ((stockyardlaw03_awake.f k).bind fun t325 => (some t325)) else (some false))) else (if x4.toList = ([] : List UInt8) then ((stockyardlaw03_awake.f k).bind fun t326 => (some t326)) else (some false)))
def stockyardlaw03_PatternFormats.f (k : Nat) (l0_0 : List ByteArray) (a0_1 : Bool) : Option (Bool) := (stockyardlaw03_small.f k l0_0 a0_1).bind fun t312 => (if t312 = true then ((stockyardlaw03_copied.f l0_0 a0_1).bind fun bt314 => ((pattern_Format.f k l0_0 a0_1).bind fun bt319 => ((stockyardref03_Check.f k l0_0 a0_1).bind fun t321 => ((stockyardref03_Same.f k l0_0 a0_1 bt314.1 bt314.2).bind fun t322 => (if t322 = true then (if bt319.2 = t321 then ((pattern_Check.f k l0_0 a0_1).bind fun t323 => (stockyardlaw03_PatternFormats.j0 k bt319.1 t321 (t323 != t321) l0_0 a0_1)) else (stockyardlaw03_PatternFormats.j0 k bt319.1 t321 true l0_0 a0_1)) else (stockyardlaw03_PatternFormats.j0 k bt319.1 t321 true l0_0 a0_1)))))) else ((stockyardlaw03_awake.f k).bind fun t313 => (some t313)))
theorem stockyardlaw03_PatternFormats.mono_l : ∀ k, (∀ y0 y1 y2 y3 y4, LeO (stockyardlaw03_PatternFormats.j0 k y0 y1 y2 y3 y4) (stockyardlaw03_PatternFormats.j0 (k + 1) y0 y1 y2 y3 y4))
  | 0 => fun _ _ _ _ _ r h => by simp [stockyardlaw03_PatternFormats.j0] at h
  | k + 1 => by
    have ih0 := stockyardlaw03_PatternFormats.mono_l k
    · intro y0 y1 y2 y3 y4
      unfold stockyardlaw03_PatternFormats.j0
      repeat' first
      | (with_reducible exact ih0 _ _ _ _ _)
      | (with_reducible exact pattern_Check.mono _ _ _)
      | (with_reducible exact pattern_Format.mono _ _ _)
      | (with_reducible exact stockyardlaw03_awake.mono _)
      | (with_reducible exact stockyardlaw03_small.mono _ _ _)
      | (with_reducible exact stockyardref03_Check.mono _ _ _)
      | (with_reducible exact stockyardref03_Same.mono _ _ _ _ _)
      | (with_reducible exact LeO.refl _)
      | (with_reducible exact LeO.none _)
      | (with_reducible refine LeO.ite ?_ ?_)
      | (with_reducible refine LeO.bind ?_ (fun _ => ?_))
      | exact ih0 _ _ _ _ _
      | exact pattern_Check.mono _ _ _
      | exact pattern_Format.mono _ _ _
      | exact stockyardlaw03_awake.mono _
      | exact stockyardlaw03_small.mono _ _ _
      | exact stockyardref03_Check.mono _ _ _
      | exact stockyardref03_Same.mono _ _ _ _ _
      | exact LeO.none _
      | refine LeO.ite ?_ ?_
      | refine LeO.bind ?_ (fun _ => ?_)
theorem stockyardlaw03_PatternFormats.mono : ∀ a0 a1 k, LeO (stockyardlaw03_PatternFormats.f k a0 a1) (stockyardlaw03_PatternFormats.f (k + 1) a0 a1) := by
  intro a0 a1 k
  have ih0 := stockyardlaw03_PatternFormats.mono_l k
  unfold stockyardlaw03_PatternFormats.f
  repeat' first
      | (with_reducible exact ih0 _ _ _ _ _)
      | (with_reducible exact pattern_Check.mono _ _ _)
      | (with_reducible exact pattern_Format.mono _ _ _)
      | (with_reducible exact stockyardlaw03_awake.mono _)
      | (with_reducible exact stockyardlaw03_small.mono _ _ _)
      | (with_reducible exact stockyardref03_Check.mono _ _ _)
      | (with_reducible exact stockyardref03_Same.mono _ _ _ _ _)
      | (with_reducible exact LeO.refl _)
      | (with_reducible exact LeO.none _)
      | (with_reducible refine LeO.ite ?_ ?_)
      | (with_reducible refine LeO.bind ?_ (fun _ => ?_))
      | exact ih0 _ _ _ _ _
      | exact pattern_Check.mono _ _ _
      | exact pattern_Format.mono _ _ _
      | exact stockyardlaw03_awake.mono _
      | exact stockyardlaw03_small.mono _ _ _
      | exact stockyardref03_Check.mono _ _ _
      | exact stockyardref03_Same.mono _ _ _ _ _
      | exact LeO.none _
      | refine LeO.ite ?_ ?_
      | refine LeO.bind ?_ (fun _ => ?_)
set_option maxHeartbeats 8000000 in
set_option maxRecDepth 100000 in
theorem stockyardlaw03_PatternFormats.calls (k : Nat) (A0_0 : Option Addr) (c0_0 : Nat) (l0_0 : List ByteArray) (a0_1 : Bool) (r : Bool) (w : World) (hr0_0 : Kd.C Kd.string w A0_0 l0_0.length l0_0) (hc0_0 : l0_0.length ≤ c0_0) (h : stockyardlaw03_PatternFormats.f k l0_0 a0_1 = some r) :
    Calls Tryd.prog 6 #[.agg #[.slice A0_0 l0_0.length c0_0, .bool a0_1]] w fun e w' => e = .returned (.bool r) ∧ Below w.heap.size w w' := by
  have hu25 := Tryd.underlying25
  have HR0_0 := Aside0.mk hr0_0
  have HC0_0 := Aside0.mk hc0_0
  clear hr0_0 hc0_0
  have HB := Aside0.mk (Below.refl w.heap.size w)
  have H : ((stockyardlaw03_small.f k l0_0 a0_1).bind fun t312 => (if t312 = true then ((stockyardlaw03_copied.f l0_0 a0_1).bind fun bt314 => ((pattern_Format.f k l0_0 a0_1).bind fun bt319 => ((stockyardref03_Check.f k l0_0 a0_1).bind fun t321 => ((stockyardref03_Same.f k l0_0 a0_1 bt314.1 bt314.2).bind fun t322 => (if t322 = true then (if bt319.2 = t321 then ((pattern_Check.f k l0_0 a0_1).bind fun t323 => (stockyardlaw03_PatternFormats.j0 k bt319.1 t321 (t323 != t321) l0_0 a0_1)) else (stockyardlaw03_PatternFormats.j0 k bt319.1 t321 true l0_0 a0_1)) else (stockyardlaw03_PatternFormats.j0 k bt319.1 t321 true l0_0 a0_1)))))) else ((stockyardlaw03_awake.f k).bind fun t313 => (some t313)))) = some r := h
  clear h
  replace H := Option.bind_eq_some_iff.mp H
  obtain ⟨t312, A20, H⟩ := H
  replace H : (if t312 = true then ((stockyardlaw03_copied.f l0_0 a0_1).bind fun bt314 => ((pattern_Format.f k l0_0 a0_1).bind fun bt319 => ((stockyardref03_Check.f k l0_0 a0_1).bind fun t321 => ((stockyardref03_Same.f k l0_0 a0_1 bt314.1 bt314.2).bind fun t322 => (if t322 = true then (if bt319.2 = t321 then ((pattern_Check.f k l0_0 a0_1).bind fun t323 => (stockyardlaw03_PatternFormats.j0 k bt319.1 t321 (t323 != t321) l0_0 a0_1)) else (stockyardlaw03_PatternFormats.j0 k bt319.1 t321 true l0_0 a0_1)) else (stockyardlaw03_PatternFormats.j0 k bt319.1 t321 true l0_0 a0_1)))))) else ((stockyardlaw03_awake.f k).bind fun t313 => (some t313))) = some r := H
  have A2 := Aside0.mk A20
  clear A20
  by_cases c3 : t312 = true
  · subst c3
    have H1 : ((stockyardlaw03_copied.f l0_0 a0_1).bind fun bt314 => ((pattern_Format.f k l0_0 a0_1).bind fun bt319 => ((stockyardref03_Check.f k l0_0 a0_1).bind fun t321 => ((stockyardref03_Same.f k l0_0 a0_1 bt314.1 bt314.2).bind fun t322 => (if t322 = true then (if bt319.2 = t321 then ((pattern_Check.f k l0_0 a0_1).bind fun t323 => (stockyardlaw03_PatternFormats.j0 k bt319.1 t321 (t323 != t321) l0_0 a0_1)) else (stockyardlaw03_PatternFormats.j0 k bt319.1 t321 true l0_0 a0_1)) else (stockyardlaw03_PatternFormats.j0 k bt319.1 t321 true l0_0 a0_1)))))) = some r := by rw [if_pos rfl] at H; exact H
    clear H
    have H := H1
    clear H1
    replace H := Option.bind_eq_some_iff.mp H
    obtain ⟨⟨t314, t317⟩, A40, H⟩ := H
    replace H : ((pattern_Format.f k l0_0 a0_1).bind fun bt319 => ((stockyardref03_Check.f k l0_0 a0_1).bind fun t321 => ((stockyardref03_Same.f k l0_0 a0_1 t314 t317).bind fun t322 => (if t322 = true then (if bt319.2 = t321 then ((pattern_Check.f k l0_0 a0_1).bind fun t323 => (stockyardlaw03_PatternFormats.j0 k bt319.1 t321 (t323 != t321) l0_0 a0_1)) else (stockyardlaw03_PatternFormats.j0 k bt319.1 t321 true l0_0 a0_1)) else (stockyardlaw03_PatternFormats.j0 k bt319.1 t321 true l0_0 a0_1))))) = some r := H
    have A4 := Aside0.mk A40
    clear A40
    replace H := Option.bind_eq_some_iff.mp H
    obtain ⟨⟨t319, t320⟩, A50, H⟩ := H
    replace H : ((stockyardref03_Check.f k l0_0 a0_1).bind fun t321 => ((stockyardref03_Same.f k l0_0 a0_1 t314 t317).bind fun t322 => (if t322 = true then (if t320 = t321 then ((pattern_Check.f k l0_0 a0_1).bind fun t323 => (stockyardlaw03_PatternFormats.j0 k t319 t321 (t323 != t321) l0_0 a0_1)) else (stockyardlaw03_PatternFormats.j0 k t319 t321 true l0_0 a0_1)) else (stockyardlaw03_PatternFormats.j0 k t319 t321 true l0_0 a0_1)))) = some r := H
    have A5 := Aside0.mk A50
    clear A50
    replace H := Option.bind_eq_some_iff.mp H
    obtain ⟨t321, A60, H⟩ := H
    replace H : ((stockyardref03_Same.f k l0_0 a0_1 t314 t317).bind fun t322 => (if t322 = true then (if t320 = t321 then ((pattern_Check.f k l0_0 a0_1).bind fun t323 => (stockyardlaw03_PatternFormats.j0 k t319 t321 (t323 != t321) l0_0 a0_1)) else (stockyardlaw03_PatternFormats.j0 k t319 t321 true l0_0 a0_1)) else (stockyardlaw03_PatternFormats.j0 k t319 t321 true l0_0 a0_1))) = some r := H
    have A6 := Aside0.mk A60
    clear A60
    have HC7 := Aside0.mk H
    clear H
    go_enter Tryd.func6, Tryd.ntmps6
    go_upto_region 6 with (first | ((with_reducible refine gate_dst (N := 1) rfl ?_); refine box_event ?hg (N := 1) ?hd (cs := #[.slice A0_0 l0_0.length c0_0, .bool a0_1]) (t := 25) ?hr ?_; (case hd => rfl); (case hg => rfl); (case hr => first | (go_simp; done) | (go_simp; rfl)); intro gb311 hg w8 hbox hb; have n0_ := Aside0.mk (below_step (by repeat (first | (with_reducible first | exact HB.out | apply below_alloc | apply pw_below_drewN | apply below_drew1) | exact HB.out)) hb); have n1_ := Aside0.mk (hbox); have n2_ := Aside0.mk ((by rw [hg]; exact (below_size (by repeat (first | (with_reducible first | exact HB.out | apply below_alloc | apply pw_below_drewN | apply below_drew1) | exact HB.out))) : w.heap.size ≤ gb311)); have n3_ := Aside0.mk ((by rw [hg]; exact (below_size (by repeat (first | (with_reducible first | exact HB.out | apply below_alloc | apply pw_below_drewN | apply below_drew1) | exact HB.out))) : w.heap.size ≤ gb311)); clear HB; have HB := n0_; have BK311 := n1_; have GW311 := n2_; have GE311 := n3_; clear n0_ n1_ n2_ n3_; clear hb hbox hg; have hcz9_0 : w8.cell? ⟨gb311, 0, none⟩ = some (.slice A0_0 l0_0.length c0_0) := (blk_cell BK311.out 0).trans rfl; have hcz9_1 : w8.cell? ⟨gb311, 1, none⟩ = some (.bool a0_1) := (blk_cell BK311.out 1).trans rfl; have hfz9_0 := blk_frozen BK311.out 0; have hfz9_1 := blk_frozen BK311.out 1) | ((with_reducible refine gate_callee (f := 22) rfl ?_); refine goesL_ (some 8) rfl rfl Tryd.func22 (by kernel_rfl) rfl #[.agg #[.slice A0_0 l0_0.length c0_0, .bool a0_1]] rfl (by (try simp only [List.map_toArray, List.map_cons, List.map_nil]); first | done | rfl | (simp only [List.length_drop, List.length_take]; rfl)) ?_; (with_reducible refine (stockyardlaw03_small.calls k _ _ l0_0 a0_1 true _ ?side1 ?side2 A2.out).mono ?_); (case side1 => repeat (first | exact (Kd.C_below HR0_0.out HB.out) | (with_reducible refine Kd.C_alloc ?_ _) | (with_reducible refine Kd.C_drewN ?_ _) | (with_reducible refine Kd.C_drew ?_))); (case side2 => exact HC0_0.out); rintro e w10 ⟨rfl, hb⟩; refine ⟨_, rfl, ?_⟩; have n0_ := Aside0.mk (blk_below (g := gb311) (o := .cells #[.slice A0_0 l0_0.length c0_0, .bool a0_1] 25 (0, 0)) (by (with_reducible repeat (first | refine blk_drewN ?_ _ | refine blk_drew ?_ | refine blk_alloc ?_ _)); exact BK311.out) hb); have n1_ := Aside0.mk (below_step (by repeat (first | (with_reducible first | exact HB.out | apply below_alloc | apply pw_below_drewN | apply below_drew1 | refine below_set ?_ GE311.out) | exact HB.out)) hb); clear BK311; clear HB; have BK311 := n0_; have HB := n1_; clear n0_ n1_; (try clear hb); (try clear hb2); (try clear hk); (try clear hi); have hcz11_0 : w10.cell? ⟨gb311, 0, none⟩ = some (.slice A0_0 l0_0.length c0_0) := (blk_cell BK311.out 0).trans rfl; have hcz11_1 : w10.cell? ⟨gb311, 1, none⟩ = some (.bool a0_1) := (blk_cell BK311.out 1).trans rfl; have hfz11_0 := blk_frozen BK311.out 0; have hfz11_1 := blk_frozen BK311.out 1) | ((with_reducible refine gate_callee (f := 27) rfl ?_); refine goesL_ (some 12) rfl rfl Tryd.func27 (by kernel_rfl) rfl #[.agg #[.slice A0_0 l0_0.length c0_0, .bool a0_1]] rfl (by (try simp only [List.map_toArray, List.map_cons, List.map_nil]); first | done | rfl | (simp only [List.length_drop, List.length_take]; rfl)) ?_; (with_reducible refine (stockyardlaw03_copied.calls _ _ l0_0 a0_1 t314 t317 _ ?side1 ?side2 A4.out).mono ?_); (case side1 => repeat (first | exact (Kd.C_below HR0_0.out HB.out) | (with_reducible refine Kd.C_alloc ?_ _) | (with_reducible refine Kd.C_drewN ?_ _) | (with_reducible refine Kd.C_drew ?_))); (case side2 => exact HC0_0.out); rintro e w12 ⟨v315, rfl, ho0, hb⟩; refine ⟨_, rfl, ?_⟩; have n0_ := Aside0.mk (Kd.R_lower ho0 (below_size (by repeat (first | (with_reducible first | exact HB.out | apply below_alloc | apply pw_below_drewN | apply below_drew1 | refine below_set ?_ GE311.out) | exact HB.out)))); have n1_ := Aside0.mk (blk_below (g := gb311) (o := .cells #[.slice A0_0 l0_0.length c0_0, .bool a0_1] 25 (0, 0)) (by (with_reducible repeat (first | refine blk_drewN ?_ _ | refine blk_drew ?_ | refine blk_alloc ?_ _)); exact BK311.out) hb); have n2_ := Aside0.mk (below_step (by repeat (first | (with_reducible first | exact HB.out | apply below_alloc | apply pw_below_drewN | apply below_drew1 | refine below_set ?_ GE311.out) | exact HB.out)) hb); clear BK311; clear HB; have HO316 := n0_; have BK311 := n1_; have HB := n2_; clear n0_ n1_ n2_; (try clear hb); (try clear hb2); (try clear hk); (try clear hi); (try clear ho0)) | ((with_reducible refine gate_dst (N := 3) rfl ?_); refine box_event ?hg (N := 3) ?hd (cs := #[.slice none 0 0, .bool false]) (t := 25) ?hr ?_; (case hd => rfl); (case hg => rfl); (case hr => first | (go_simp; done) | (go_simp; rfl)); intro gb318 hg w13 hbox hb; have n0_ := Aside0.mk (Kd.R_below (by (with_reducible repeat (first | apply Kd.R_alloc | apply Kd.R_drewN | apply Kd.R_drew)); exact HO316.out) hb); have n1_ := Aside0.mk (blk_below (g := gb311) (o := .cells #[.slice A0_0 l0_0.length c0_0, .bool a0_1] 25 (0, 0)) (by (with_reducible repeat (first | refine blk_drewN ?_ _ | refine blk_drew ?_ | refine blk_alloc ?_ _)); exact BK311.out) hb); have n2_ := Aside0.mk (below_step (by repeat (first | (with_reducible first | exact HB.out | apply below_alloc | apply pw_below_drewN | apply below_drew1 | refine below_set ?_ GE311.out) | exact HB.out)) hb); have n3_ := Aside0.mk (hbox); have n4_ := Aside0.mk ((by rw [hg]; exact (below_size (by repeat (first | (with_reducible first | exact HB.out | apply below_alloc | apply pw_below_drewN | apply below_drew1 | refine below_set ?_ GE311.out) | exact HB.out))) : w.heap.size ≤ gb318)); have n5_ := Aside0.mk ((by rw [hg]; exact (below_size (by repeat (first | (with_reducible first | exact HB.out | apply below_alloc | apply pw_below_drewN | apply below_drew1 | refine below_set ?_ GE311.out) | exact HB.out))) : w.heap.size ≤ gb318)); have n6_ := Aside0.mk ((by rw [hg]; exact Nat.ne_of_lt (blk_lt (g := gb311) (o := .cells #[.slice A0_0 l0_0.length c0_0, .bool a0_1] 25 (0, 0)) (by (with_reducible repeat (first | refine blk_drewN ?_ _ | refine blk_drew ?_ | refine blk_alloc ?_ _)); exact BK311.out)) : gb311 ≠ gb318)); have n7_ := Aside0.mk ((by rw [hg]; exact Nat.ne_of_gt (blk_lt (g := gb311) (o := .cells #[.slice A0_0 l0_0.length c0_0, .bool a0_1] 25 (0, 0)) (by (with_reducible repeat (first | refine blk_drewN ?_ _ | refine blk_drew ?_ | refine blk_alloc ?_ _)); exact BK311.out)) : gb318 ≠ gb311)); clear HO316; clear BK311; clear HB; have HO316 := n0_; have BK311 := n1_; have HB := n2_; have BK318 := n3_; have GW318 := n4_; have GE318 := n5_; have NB311_318 := n6_; have NB318_311 := n7_; clear n0_ n1_ n2_ n3_ n4_ n5_ n6_ n7_; clear hb hbox hg; obtain ⟨Ao14, co14, eo14⟩ := Kd.R_slice HO316.out; subst eo14; have hnb15 := NB318_311.out; have hnc15 := NB311_318.out; have hcz16_0 : w13.cell? ⟨gb318, 0, none⟩ = some (.slice none 0 0) := (blk_cell BK318.out 0).trans rfl; have hcz16_1 : w13.cell? ⟨gb318, 1, none⟩ = some (.bool false) := (blk_cell BK318.out 1).trans rfl; have hfz16_0 := blk_frozen BK318.out 0; have hfz16_1 := blk_frozen BK318.out 1; have hcz17_0 : w13.cell? ⟨gb311, 0, none⟩ = some (.slice A0_0 l0_0.length c0_0) := (blk_cell BK311.out 0).trans rfl; have hcz17_1 : w13.cell? ⟨gb311, 1, none⟩ = some (.bool a0_1) := (blk_cell BK311.out 1).trans rfl; have hfz17_0 := blk_frozen BK311.out 0; have hfz17_1 := blk_frozen BK311.out 1) | ((with_reducible refine gate_callee (f := 26) rfl ?_); refine goesL_ (some 15) rfl rfl Tryd.func26 (by kernel_rfl) rfl #[.agg #[.slice A0_0 l0_0.length c0_0, .bool a0_1]] rfl (by (try simp only [List.map_toArray, List.map_cons, List.map_nil]); first | done | rfl | (simp only [List.length_drop, List.length_take]; rfl)) ?_; (with_reducible refine (pattern_Format.calls k _ _ l0_0 a0_1 t319 t320 _ ?side1 ?side2 A5.out).mono ?_); (case side1 => exact Kd.C_below HR0_0.out (by repeat (first | (with_reducible first | exact HB.out | apply below_alloc | apply pw_below_drewN | apply below_drew1 | refine below_set ?_ GE311.out | refine below_set ?_ GE318.out) | exact HB.out))); (case side2 => exact HC0_0.out); rintro e w18 ⟨rfl, hb⟩; refine ⟨_, rfl, ?_⟩; have n0_ := Aside0.mk (Kd.R_below (by (with_reducible repeat (first | apply Kd.R_alloc | apply Kd.R_drewN | apply Kd.R_drew)); exact (Kd.R_mono (Kd.R_far (p := ⟨gb318, 1, none⟩) (Kd.R_far (p := ⟨gb318, 0, none⟩) (Kd.R_types HO316.out BK318.out (by decide)) (fun _ hk => hk.2) (.slice Ao14 t314.length co14)) (fun _ hk => hk.2) (.bool t317)) (fun _ h_ => h_.1))) hb); have n1_ := Aside0.mk (blk_below (g := gb311) (o := .cells #[.slice A0_0 l0_0.length c0_0, .bool a0_1] 25 (0, 0)) (by (with_reducible repeat (first | refine blk_drewN ?_ _ | refine blk_drew ?_ | refine blk_alloc ?_ _)); refine blk_far ?_ NB311_318.out _; (with_reducible repeat (first | refine blk_drewN ?_ _ | refine blk_drew ?_ | refine blk_alloc ?_ _)); refine blk_far ?_ NB311_318.out _; (with_reducible repeat (first | refine blk_drewN ?_ _ | refine blk_drew ?_ | refine blk_alloc ?_ _)); exact BK311.out) hb); have n2_ := Aside0.mk (blk_below (g := gb318) (o := .cells #[.slice Ao14 t314.length co14, .bool t317] 25 (0, 0)) (by (with_reducible repeat (first | refine blk_drewN ?_ _ | refine blk_drew ?_ | refine blk_alloc ?_ _)); refine blk_put (cs := #[.slice Ao14 t314.length co14, .bool false]) ?_ 1 _ rfl; (with_reducible repeat (first | refine blk_drewN ?_ _ | refine blk_drew ?_ | refine blk_alloc ?_ _)); refine blk_put (cs := #[.slice none 0 0, .bool false]) ?_ 0 _ rfl; (with_reducible repeat (first | refine blk_drewN ?_ _ | refine blk_drew ?_ | refine blk_alloc ?_ _)); exact BK318.out) hb); have n3_ := Aside0.mk (below_step (by repeat (first | (with_reducible first | exact HB.out | apply below_alloc | apply pw_below_drewN | apply below_drew1 | refine below_set ?_ GE311.out | refine below_set ?_ GE318.out) | exact HB.out)) hb); clear HO316; clear BK311; clear BK318; clear HB; have HO316 := n0_; have BK311 := n1_; have BK318 := n2_; have HB := n3_; clear n0_ n1_ n2_ n3_; (try clear hb); (try clear hb2); (try clear hk); (try clear hi); have hcz19_0 : w18.cell? ⟨gb311, 0, none⟩ = some (.slice A0_0 l0_0.length c0_0) := (blk_cell BK311.out 0).trans rfl; have hcz19_1 : w18.cell? ⟨gb311, 1, none⟩ = some (.bool a0_1) := (blk_cell BK311.out 1).trans rfl; have hfz19_0 := blk_frozen BK311.out 0; have hfz19_1 := blk_frozen BK311.out 1) | ((with_reducible refine gate_callee (f := 28) rfl ?_); refine goesL_ (some 19) rfl rfl Tryd.func28 (by kernel_rfl) rfl #[.agg #[.slice A0_0 l0_0.length c0_0, .bool a0_1]] rfl (by (try simp only [List.map_toArray, List.map_cons, List.map_nil]); first | done | rfl | (simp only [List.length_drop, List.length_take]; rfl)) ?_; (with_reducible refine (stockyardref03_Check.calls k _ _ l0_0 a0_1 t321 _ ?side1 ?side2 A6.out).mono ?_); (case side1 => repeat (first | exact (Kd.C_below HR0_0.out HB.out) | (with_reducible refine Kd.C_alloc ?_ _) | (with_reducible refine Kd.C_drewN ?_ _) | (with_reducible refine Kd.C_drew ?_))); (case side2 => exact HC0_0.out); rintro e w20 ⟨rfl, hb⟩; refine ⟨_, rfl, ?_⟩; have n0_ := Aside0.mk (Kd.R_below (by (with_reducible repeat (first | apply Kd.R_alloc | apply Kd.R_drewN | apply Kd.R_drew)); exact HO316.out) hb); have n1_ := Aside0.mk (blk_below (g := gb311) (o := .cells #[.slice A0_0 l0_0.length c0_0, .bool a0_1] 25 (0, 0)) (by (with_reducible repeat (first | refine blk_drewN ?_ _ | refine blk_drew ?_ | refine blk_alloc ?_ _)); exact BK311.out) hb); have n2_ := Aside0.mk (blk_below (g := gb318) (o := .cells #[.slice Ao14 t314.length co14, .bool t317] 25 (0, 0)) (by (with_reducible repeat (first | refine blk_drewN ?_ _ | refine blk_drew ?_ | refine blk_alloc ?_ _)); exact BK318.out) hb); have n3_ := Aside0.mk (below_step (by repeat (first | (with_reducible first | exact HB.out | apply below_alloc | apply pw_below_drewN | apply below_drew1 | refine below_set ?_ GE311.out | refine below_set ?_ GE318.out) | exact HB.out)) hb); clear HO316; clear BK311; clear BK318; clear HB; have HO316 := n0_; have BK311 := n1_; have BK318 := n2_; have HB := n3_; clear n0_ n1_ n2_ n3_; (try clear hb); (try clear hb2); (try clear hk); (try clear hi)))
    (try simp only [Act.put, List.setIfInBounds_toArray, List.set_cons_zero, List.set_cons_succ])
    go_cut [34] (fun v34 wc => ∃ (kq : Nat) (x34_6 : Bool), v34 = .bool x34_6 ∧ Aside0 (stockyardlaw03_PatternFormats.j0 kq t319 t321 x34_6 l0_0 a0_1 = some r) ∧ Aside0 (kq ≤ k) ∧ Aside0 (Kd.R Kd.string 9 wc w.heap.size (fun _ => True) (.slice Ao14 t314.length co14) t314) ∧ Aside0 (wc.heap[gb311]? = some (.cells #[(.slice A0_0 l0_0.length c0_0), .bool a0_1] 25 (0, 0))) ∧ Aside0 (wc.heap[gb318]? = some (.cells #[(.slice Ao14 t314.length co14), .bool t317] 25 (0, 0))) ∧ Aside0 (Below w.heap.size w wc))
    case first =>
      have H := HC7.out
      clear HC7
      replace H := Option.bind_eq_some_iff.mp H
      obtain ⟨t322, A210, H⟩ := H
      replace H : (if t322 = true then (if t320 = t321 then ((pattern_Check.f k l0_0 a0_1).bind fun t323 => (stockyardlaw03_PatternFormats.j0 k t319 t321 (t323 != t321) l0_0 a0_1)) else (stockyardlaw03_PatternFormats.j0 k t319 t321 true l0_0 a0_1)) else (stockyardlaw03_PatternFormats.j0 k t319 t321 true l0_0 a0_1)) = some r := H
      have A21 := Aside0.mk A210
      clear A210
      by_cases c22 : t322 = true
      · subst c22
        have H1 : (if t320 = t321 then ((pattern_Check.f k l0_0 a0_1).bind fun t323 => (stockyardlaw03_PatternFormats.j0 k t319 t321 (t323 != t321) l0_0 a0_1)) else (stockyardlaw03_PatternFormats.j0 k t319 t321 true l0_0 a0_1)) = some r := by rw [if_pos rfl] at H; exact H
        clear H
        have H := H1
        clear H1
        by_cases c23 : t320 = t321
        · rw [if_pos c23] at H
          have c23b0 : (t320 == t321) = true := beq_iff_eq.mpr c23
          have c23b1 : (t320 != t321) = false := bne_eq_false_iff_eq.mpr c23
          clear c23
          (first | rw [c23b0] | (simp only [i64_w, i32_w]; rw [c23b0]) | skip)
          replace H := Option.bind_eq_some_iff.mp H
          obtain ⟨t323, A240, H⟩ := H
          replace H : (stockyardlaw03_PatternFormats.j0 k t319 t321 (t323 != t321) l0_0 a0_1) = some r := H
          have A24 := Aside0.mk A240
          clear A240
          have H' := Aside0.mk H
          clear H
          have hnb25 := NB311_318.out
          have hnc25 := NB318_311.out
          have hcz26_0 : w20.cell? ⟨gb311, 0, none⟩ = some (.slice A0_0 l0_0.length c0_0) := (blk_cell BK311.out 0).trans rfl
          have hcz26_1 : w20.cell? ⟨gb311, 1, none⟩ = some (.bool a0_1) := (blk_cell BK311.out 1).trans rfl
          have hfz26_0 := blk_frozen BK311.out 0
          have hfz26_1 := blk_frozen BK311.out 1
          have hcz27_0 : w20.cell? ⟨gb318, 0, none⟩ = some (.slice Ao14 t314.length co14) := (blk_cell BK318.out 0).trans rfl
          have hcz27_1 : w20.cell? ⟨gb318, 1, none⟩ = some (.bool t317) := (blk_cell BK318.out 1).trans rfl
          have hfz27_0 := blk_frozen BK318.out 0
          have hfz27_1 := blk_frozen BK318.out 1
          go_wp2_with (first | ((with_reducible refine gate_callee (f := 21) rfl ?_); refine goesL_ (some 22) rfl rfl Tryd.func21 (by kernel_rfl) rfl #[.agg #[.slice A0_0 l0_0.length c0_0, .bool a0_1], .agg #[.slice Ao14 t314.length co14, .bool t317]] rfl (by (try simp only [List.map_toArray, List.map_cons, List.map_nil]); first | done | rfl | (simp only [List.length_drop, List.length_take]; rfl)) ?_; (with_reducible refine (stockyardref03_Same.calls k _ _ l0_0 a0_1 _ _ t314 t317 true _ ?side1 ?side2 ?side3 ?side4 A21.out).mono ?_); (case side1 => repeat (first | exact (Kd.C_below HR0_0.out HB.out) | (with_reducible refine Kd.C_alloc ?_ _) | (with_reducible refine Kd.C_drewN ?_ _) | (with_reducible refine Kd.C_drew ?_))); (case side2 => exact HC0_0.out); (case side3 => repeat (first | exact (Kd.R_reads' HO316.out).2.2 | (with_reducible refine Kd.C_alloc ?_ _) | (with_reducible refine Kd.C_drewN ?_ _) | (with_reducible refine Kd.C_drew ?_))); (case side4 => exact (Kd.R_reads' HO316.out).2.1); rintro e w28 ⟨rfl, hb⟩; refine ⟨_, rfl, ?_⟩; have n0_ := Aside0.mk (Kd.R_below (by (with_reducible repeat (first | apply Kd.R_alloc | apply Kd.R_drewN | apply Kd.R_drew)); exact HO316.out) hb); have n1_ := Aside0.mk (blk_below (g := gb311) (o := .cells #[.slice A0_0 l0_0.length c0_0, .bool a0_1] 25 (0, 0)) (by (with_reducible repeat (first | refine blk_drewN ?_ _ | refine blk_drew ?_ | refine blk_alloc ?_ _)); exact BK311.out) hb); have n2_ := Aside0.mk (blk_below (g := gb318) (o := .cells #[.slice Ao14 t314.length co14, .bool t317] 25 (0, 0)) (by (with_reducible repeat (first | refine blk_drewN ?_ _ | refine blk_drew ?_ | refine blk_alloc ?_ _)); exact BK318.out) hb); have n3_ := Aside0.mk (below_step (by repeat (first | (with_reducible first | exact HB.out | apply below_alloc | apply pw_below_drewN | apply below_drew1 | refine below_set ?_ GE311.out | refine below_set ?_ GE318.out) | exact HB.out)) hb); clear HO316; clear BK311; clear BK318; clear HB; have HO316 := n0_; have BK311 := n1_; have BK318 := n2_; have HB := n3_; clear n0_ n1_ n2_ n3_; (try clear hb); (try clear hb2); (try clear hk); (try clear hi); have hcz29_0 : w28.cell? ⟨gb311, 0, none⟩ = some (.slice A0_0 l0_0.length c0_0) := (blk_cell BK311.out 0).trans rfl; have hcz29_1 : w28.cell? ⟨gb311, 1, none⟩ = some (.bool a0_1) := (blk_cell BK311.out 1).trans rfl; have hfz29_0 := blk_frozen BK311.out 0; have hfz29_1 := blk_frozen BK311.out 1) | (go_at_call 29; (with_reducible refine (pattern_Check.calls k _ _ l0_0 a0_1 t323 _ ?side1 ?side2 A24.out).mono ?_); (case side1 => repeat (first | exact (Kd.C_below HR0_0.out HB.out) | (with_reducible refine Kd.C_alloc ?_ _) | (with_reducible refine Kd.C_drewN ?_ _) | (with_reducible refine Kd.C_drew ?_))); (case side2 => exact HC0_0.out); rintro e w30 ⟨rfl, hb⟩; have n0_ := Aside0.mk (Kd.R_below (by (with_reducible repeat (first | apply Kd.R_alloc | apply Kd.R_drewN | apply Kd.R_drew)); exact HO316.out) hb); have n1_ := Aside0.mk (blk_below (g := gb311) (o := .cells #[.slice A0_0 l0_0.length c0_0, .bool a0_1] 25 (0, 0)) (by (with_reducible repeat (first | refine blk_drewN ?_ _ | refine blk_drew ?_ | refine blk_alloc ?_ _)); exact BK311.out) hb); have n2_ := Aside0.mk (blk_below (g := gb318) (o := .cells #[.slice Ao14 t314.length co14, .bool t317] 25 (0, 0)) (by (with_reducible repeat (first | refine blk_drewN ?_ _ | refine blk_drew ?_ | refine blk_alloc ?_ _)); exact BK318.out) hb); have n3_ := Aside0.mk (below_step (by repeat (first | (with_reducible first | exact HB.out | apply below_alloc | apply pw_below_drewN | apply below_drew1 | refine below_set ?_ GE311.out | refine below_set ?_ GE318.out) | exact HB.out)) hb); clear HO316; clear BK311; clear BK318; clear HB; have HO316 := n0_; have BK311 := n1_; have BK318 := n2_; have HB := n3_; clear n0_ n1_ n2_ n3_; (try clear hb); (try clear hb2); (try clear hk); (try clear hi)))
          go_meet
          case rel => exact ⟨_, ((t323 != t321)), (by first | rfl | (simp; done) | (simp [*]; done)), H', ⟨by first | omega | exact Nat.le_refl _⟩, ⟨by (with_reducible repeat (first | apply Kd.R_alloc | apply Kd.R_drewN | apply Kd.R_drew)); exact HO316.out⟩, ⟨by (with_reducible repeat (first | refine blk_drewN ?_ _ | refine blk_drew ?_ | refine blk_alloc ?_ _)); exact BK311.out⟩, ⟨by (with_reducible repeat (first | refine blk_drewN ?_ _ | refine blk_drew ?_ | refine blk_alloc ?_ _)); exact BK318.out⟩, ⟨by repeat (first | (with_reducible first | exact HB.out | apply below_alloc | apply pw_below_drewN | apply below_drew1 | refine below_set ?_ GE311.out | refine below_set ?_ GE318.out) | exact HB.out)⟩⟩
        · rw [if_neg c23] at H
          have c23b0 : (t320 == t321) = false := beq_eq_false_iff_ne.mpr c23
          have c23b1 : (t320 != t321) = true := bne_iff_ne.mpr c23
          (first | rw [c23b0] | (simp only [i64_w, i32_w]; rw [c23b0]) | skip)
          have H' := Aside0.mk H
          clear H
          have hnb31 := NB311_318.out
          have hnc31 := NB318_311.out
          have hcz32_0 : w20.cell? ⟨gb311, 0, none⟩ = some (.slice A0_0 l0_0.length c0_0) := (blk_cell BK311.out 0).trans rfl
          have hcz32_1 : w20.cell? ⟨gb311, 1, none⟩ = some (.bool a0_1) := (blk_cell BK311.out 1).trans rfl
          have hfz32_0 := blk_frozen BK311.out 0
          have hfz32_1 := blk_frozen BK311.out 1
          have hcz33_0 : w20.cell? ⟨gb318, 0, none⟩ = some (.slice Ao14 t314.length co14) := (blk_cell BK318.out 0).trans rfl
          have hcz33_1 : w20.cell? ⟨gb318, 1, none⟩ = some (.bool t317) := (blk_cell BK318.out 1).trans rfl
          have hfz33_0 := blk_frozen BK318.out 0
          have hfz33_1 := blk_frozen BK318.out 1
          go_wp2_with (first | ((with_reducible refine gate_callee (f := 21) rfl ?_); refine goesL_ (some 22) rfl rfl Tryd.func21 (by kernel_rfl) rfl #[.agg #[.slice A0_0 l0_0.length c0_0, .bool a0_1], .agg #[.slice Ao14 t314.length co14, .bool t317]] rfl (by (try simp only [List.map_toArray, List.map_cons, List.map_nil]); first | done | rfl | (simp only [List.length_drop, List.length_take]; rfl)) ?_; (with_reducible refine (stockyardref03_Same.calls k _ _ l0_0 a0_1 _ _ t314 t317 true _ ?side1 ?side2 ?side3 ?side4 A21.out).mono ?_); (case side1 => repeat (first | exact (Kd.C_below HR0_0.out HB.out) | (with_reducible refine Kd.C_alloc ?_ _) | (with_reducible refine Kd.C_drewN ?_ _) | (with_reducible refine Kd.C_drew ?_))); (case side2 => exact HC0_0.out); (case side3 => repeat (first | exact (Kd.R_reads' HO316.out).2.2 | (with_reducible refine Kd.C_alloc ?_ _) | (with_reducible refine Kd.C_drewN ?_ _) | (with_reducible refine Kd.C_drew ?_))); (case side4 => exact (Kd.R_reads' HO316.out).2.1); rintro e w34 ⟨rfl, hb⟩; refine ⟨_, rfl, ?_⟩; have n0_ := Aside0.mk (Kd.R_below (by (with_reducible repeat (first | apply Kd.R_alloc | apply Kd.R_drewN | apply Kd.R_drew)); exact HO316.out) hb); have n1_ := Aside0.mk (blk_below (g := gb311) (o := .cells #[.slice A0_0 l0_0.length c0_0, .bool a0_1] 25 (0, 0)) (by (with_reducible repeat (first | refine blk_drewN ?_ _ | refine blk_drew ?_ | refine blk_alloc ?_ _)); exact BK311.out) hb); have n2_ := Aside0.mk (blk_below (g := gb318) (o := .cells #[.slice Ao14 t314.length co14, .bool t317] 25 (0, 0)) (by (with_reducible repeat (first | refine blk_drewN ?_ _ | refine blk_drew ?_ | refine blk_alloc ?_ _)); exact BK318.out) hb); have n3_ := Aside0.mk (below_step (by repeat (first | (with_reducible first | exact HB.out | apply below_alloc | apply pw_below_drewN | apply below_drew1 | refine below_set ?_ GE311.out | refine below_set ?_ GE318.out) | exact HB.out)) hb); clear HO316; clear BK311; clear BK318; clear HB; have HO316 := n0_; have BK311 := n1_; have BK318 := n2_; have HB := n3_; clear n0_ n1_ n2_ n3_; (try clear hb); (try clear hb2); (try clear hk); (try clear hi)))
          go_meet
          case rel => exact ⟨_, (true), (by first | rfl | (simp; done) | (simp [*]; done)), H', ⟨by first | omega | exact Nat.le_refl _⟩, ⟨by (with_reducible repeat (first | apply Kd.R_alloc | apply Kd.R_drewN | apply Kd.R_drew)); exact HO316.out⟩, ⟨by (with_reducible repeat (first | refine blk_drewN ?_ _ | refine blk_drew ?_ | refine blk_alloc ?_ _)); exact BK311.out⟩, ⟨by (with_reducible repeat (first | refine blk_drewN ?_ _ | refine blk_drew ?_ | refine blk_alloc ?_ _)); exact BK318.out⟩, ⟨by repeat (first | (with_reducible first | exact HB.out | apply below_alloc | apply pw_below_drewN | apply below_drew1 | refine below_set ?_ GE311.out | refine below_set ?_ GE318.out) | exact HB.out)⟩⟩
      · replace c22 := Bool.eq_false_iff.mpr c22
        subst c22
        have H1 : (stockyardlaw03_PatternFormats.j0 k t319 t321 true l0_0 a0_1) = some r := by rw [if_neg (show ¬ (false = true) by decide)] at H; exact H
        clear H
        have H := H1
        clear H1
        have H' := Aside0.mk H
        clear H
        have hnb35 := NB311_318.out
        have hnc35 := NB318_311.out
        have hcz36_0 : w20.cell? ⟨gb311, 0, none⟩ = some (.slice A0_0 l0_0.length c0_0) := (blk_cell BK311.out 0).trans rfl
        have hcz36_1 : w20.cell? ⟨gb311, 1, none⟩ = some (.bool a0_1) := (blk_cell BK311.out 1).trans rfl
        have hfz36_0 := blk_frozen BK311.out 0
        have hfz36_1 := blk_frozen BK311.out 1
        have hcz37_0 : w20.cell? ⟨gb318, 0, none⟩ = some (.slice Ao14 t314.length co14) := (blk_cell BK318.out 0).trans rfl
        have hcz37_1 : w20.cell? ⟨gb318, 1, none⟩ = some (.bool t317) := (blk_cell BK318.out 1).trans rfl
        have hfz37_0 := blk_frozen BK318.out 0
        have hfz37_1 := blk_frozen BK318.out 1
        go_wp2_with (first | ((with_reducible refine gate_callee (f := 21) rfl ?_); refine goesL_ (some 22) rfl rfl Tryd.func21 (by kernel_rfl) rfl #[.agg #[.slice A0_0 l0_0.length c0_0, .bool a0_1], .agg #[.slice Ao14 t314.length co14, .bool t317]] rfl (by (try simp only [List.map_toArray, List.map_cons, List.map_nil]); first | done | rfl | (simp only [List.length_drop, List.length_take]; rfl)) ?_; (with_reducible refine (stockyardref03_Same.calls k _ _ l0_0 a0_1 _ _ t314 t317 false _ ?side1 ?side2 ?side3 ?side4 A21.out).mono ?_); (case side1 => repeat (first | exact (Kd.C_below HR0_0.out HB.out) | (with_reducible refine Kd.C_alloc ?_ _) | (with_reducible refine Kd.C_drewN ?_ _) | (with_reducible refine Kd.C_drew ?_))); (case side2 => exact HC0_0.out); (case side3 => repeat (first | exact (Kd.R_reads' HO316.out).2.2 | (with_reducible refine Kd.C_alloc ?_ _) | (with_reducible refine Kd.C_drewN ?_ _) | (with_reducible refine Kd.C_drew ?_))); (case side4 => exact (Kd.R_reads' HO316.out).2.1); rintro e w38 ⟨rfl, hb⟩; refine ⟨_, rfl, ?_⟩; have n0_ := Aside0.mk (Kd.R_below (by (with_reducible repeat (first | apply Kd.R_alloc | apply Kd.R_drewN | apply Kd.R_drew)); exact HO316.out) hb); have n1_ := Aside0.mk (blk_below (g := gb311) (o := .cells #[.slice A0_0 l0_0.length c0_0, .bool a0_1] 25 (0, 0)) (by (with_reducible repeat (first | refine blk_drewN ?_ _ | refine blk_drew ?_ | refine blk_alloc ?_ _)); exact BK311.out) hb); have n2_ := Aside0.mk (blk_below (g := gb318) (o := .cells #[.slice Ao14 t314.length co14, .bool t317] 25 (0, 0)) (by (with_reducible repeat (first | refine blk_drewN ?_ _ | refine blk_drew ?_ | refine blk_alloc ?_ _)); exact BK318.out) hb); have n3_ := Aside0.mk (below_step (by repeat (first | (with_reducible first | exact HB.out | apply below_alloc | apply pw_below_drewN | apply below_drew1 | refine below_set ?_ GE311.out | refine below_set ?_ GE318.out) | exact HB.out)) hb); clear HO316; clear BK311; clear BK318; clear HB; have HO316 := n0_; have BK311 := n1_; have BK318 := n2_; have HB := n3_; clear n0_ n1_ n2_ n3_; (try clear hb); (try clear hb2); (try clear hk); (try clear hi)))
        go_meet
        case rel => exact ⟨_, (true), (by first | rfl | (simp; done) | (simp [*]; done)), H', ⟨by first | omega | exact Nat.le_refl _⟩, ⟨by (with_reducible repeat (first | apply Kd.R_alloc | apply Kd.R_drewN | apply Kd.R_drew)); exact HO316.out⟩, ⟨by (with_reducible repeat (first | refine blk_drewN ?_ _ | refine blk_drew ?_ | refine blk_alloc ?_ _)); exact BK311.out⟩, ⟨by (with_reducible repeat (first | refine blk_drewN ?_ _ | refine blk_drew ?_ | refine blk_alloc ?_ _)); exact BK318.out⟩, ⟨by repeat (first | (with_reducible first | exact HB.out | apply below_alloc | apply pw_below_drewN | apply below_drew1 | refine below_set ?_ GE311.out | refine below_set ?_ GE318.out) | exact HB.out)⟩⟩
    case rest =>
      clear HC7
      try clear c1
      try clear c2
      try clear p2
      try clear c3
      try clear c6
      try clear c15
      try clear c21
      try clear c22
      try clear c23
      try clear c23b0
      try clear c23b1
      try clear c25
      try clear c26
      try clear c27
      try clear c28
      try clear c31
      try clear c35
      try clear hcz11_0
      try clear hcz11_1
      try clear hcz16_0
      try clear hcz16_1
      try clear hcz17_0
      try clear hcz17_1
      try clear hcz19_0
      try clear hcz19_1
      try clear hcz26_0
      try clear hcz26_1
      try clear hcz27_0
      try clear hcz27_1
      try clear hcz29_0
      try clear hcz29_1
      try clear hcz32_0
      try clear hcz32_1
      try clear hcz33_0
      try clear hcz33_1
      try clear hcz36_0
      try clear hcz36_1
      try clear hcz37_0
      try clear hcz37_1
      try clear hcz9_0
      try clear hcz9_1
      try clear hfz11_0
      try clear hfz11_1
      try clear hfz16_0
      try clear hfz16_1
      try clear hfz17_0
      try clear hfz17_1
      try clear hfz19_0
      try clear hfz19_1
      try clear hfz26_0
      try clear hfz26_1
      try clear hfz27_0
      try clear hfz27_1
      try clear hfz29_0
      try clear hfz29_1
      try clear hfz32_0
      try clear hfz32_1
      try clear hfz33_0
      try clear hfz33_1
      try clear hfz36_0
      try clear hfz36_1
      try clear hfz37_0
      try clear hfz37_1
      try clear hfz9_0
      try clear hfz9_1
      obtain ⟨kq, x34_6, rfl, HA, HJ6, HO_319000, BK311, BK318, HB⟩ := hcut
      cases kq with
      | zero => exact absurd HA.out (by simp [stockyardlaw03_PatternFormats.j0])
      | succ kj6 =>
        have H := HA.out
        clear HA
        simp only [stockyardlaw03_PatternFormats.j0] at H
        by_cases c39 : x34_6 = true
        · subst c39
          have H1 : (some false) = some r := by rw [if_pos rfl] at H; exact H
          clear H
          have H := H1
          clear H1
          obtain rfl := Option.some.inj H
          go_wp2
          go_ret
          exact ⟨by first | rfl | (simp [errW_none, errW_some] <;> rfl) | (simp [*, errW_none, errW_some] <;> rfl), by repeat (first | (with_reducible first | exact HB.out | apply below_alloc | apply pw_below_drewN | apply below_drew1 | refine below_set ?_ GE311.out | refine below_set ?_ GE318.out) | exact HB.out)⟩
        · replace c39 := Bool.eq_false_iff.mpr c39
          subst c39
          have H1 : (if t321 = 0 then ((stockyardref03_Text.f l0_0 a0_1).bind fun t324 => (if t319.toList = t324.toList then ((stockyardlaw03_awake.f kj6).bind fun t325 => (some t325)) else (some false))) else (if t319.toList = ([] : List UInt8) then ((stockyardlaw03_awake.f kj6).bind fun t326 => (some t326)) else (some false))) = some r := by rw [if_neg (show ¬ (false = true) by decide)] at H; exact H
          clear H
          have H := H1
          clear H1
          by_cases c40 : t321 = 0
          · rw [if_pos c40] at H
            have c40b0 : (t321 == 0) = true := beq_iff_eq.mpr c40
            have c40b1 : (t321 != 0) = false := bne_eq_false_iff_eq.mpr c40
            clear c40
            replace H := Option.bind_eq_some_iff.mp H
            obtain ⟨t324, A410, H⟩ := H
            replace H : (if t319.toList = t324.toList then ((stockyardlaw03_awake.f kj6).bind fun t325 => (some t325)) else (some false)) = some r := H
            have A41 := Aside0.mk A410
            clear A410
            by_cases c42 : t319.toList = t324.toList
            · rw [if_pos c42] at H
              have c42b0 : (t319.toList == t324.toList) = true := beq_iff_eq.mpr c42
              have c42b1 : (t319.toList != t324.toList) = false := bne_eq_false_iff_eq.mpr c42
              clear c42
              replace H := Option.bind_eq_some_iff.mp H
              obtain ⟨t325, A430, H⟩ := H
              replace H : (some t325) = some r := H
              have A43 := Aside0.mk A430
              clear A430
              obtain rfl := Option.some.inj H
              have hnb44 := NB311_318.out
              have hnc44 := NB318_311.out
              have hcz45_0 : wc.cell? ⟨gb311, 0, none⟩ = some (.slice A0_0 l0_0.length c0_0) := (blk_cell BK311.out 0).trans rfl
              have hcz45_1 : wc.cell? ⟨gb311, 1, none⟩ = some (.bool a0_1) := (blk_cell BK311.out 1).trans rfl
              have hfz45_0 := blk_frozen BK311.out 0
              have hfz45_1 := blk_frozen BK311.out 1
              go_wp2_with (first | ((with_reducible refine gate_callee (f := 30) rfl ?_); refine goesL_ (some 44) rfl rfl Tryd.func30 (by kernel_rfl) rfl #[.agg #[.slice A0_0 l0_0.length c0_0, .bool a0_1]] rfl (by (try simp only [List.map_toArray, List.map_cons, List.map_nil]); first | done | rfl | (simp only [List.length_drop, List.length_take]; rfl)) ?_; (with_reducible refine (stockyardref03_Text.calls _ _ l0_0 a0_1 t324 _ ?side1 ?side2 A41.out).mono ?_); (case side1 => repeat (first | exact (Kd.C_below HR0_0.out HB.out) | (with_reducible refine Kd.C_alloc ?_ _) | (with_reducible refine Kd.C_drewN ?_ _) | (with_reducible refine Kd.C_drew ?_))); (case side2 => exact HC0_0.out); rintro e w46 ⟨rfl, hb⟩; refine ⟨_, rfl, ?_⟩; have n0_ := Aside0.mk (Kd.R_below (by (with_reducible repeat (first | apply Kd.R_alloc | apply Kd.R_drewN | apply Kd.R_drew)); exact HO_319000.out) hb); have n1_ := Aside0.mk (blk_below (g := gb311) (o := .cells #[.slice A0_0 l0_0.length c0_0, .bool a0_1] 25 (0, 0)) (by (with_reducible repeat (first | refine blk_drewN ?_ _ | refine blk_drew ?_ | refine blk_alloc ?_ _)); exact BK311.out) hb); have n2_ := Aside0.mk (blk_below (g := gb318) (o := .cells #[.slice Ao14 t314.length co14, .bool t317] 25 (0, 0)) (by (with_reducible repeat (first | refine blk_drewN ?_ _ | refine blk_drew ?_ | refine blk_alloc ?_ _)); exact BK318.out) hb); have n3_ := Aside0.mk (below_step (by repeat (first | (with_reducible first | exact HB.out | apply below_alloc | apply pw_below_drewN | apply below_drew1 | refine below_set ?_ GE311.out | refine below_set ?_ GE318.out) | exact HB.out)) hb); clear HO_319000; clear BK311; clear BK318; clear HB; have HO_319000 := n0_; have BK311 := n1_; have BK318 := n2_; have HB := n3_; clear n0_ n1_ n2_ n3_; (try clear hb); (try clear hb2); (try clear hk); (try clear hi)) | (go_at_call 18; (with_reducible refine (stockyardlaw03_awake.calls kj6  t325 _ A43.out).mono ?_); rintro e w47 ⟨rfl, hb⟩; have n0_ := Aside0.mk (Kd.R_below (by (with_reducible repeat (first | apply Kd.R_alloc | apply Kd.R_drewN | apply Kd.R_drew)); exact HO_319000.out) hb); have n1_ := Aside0.mk (blk_below (g := gb311) (o := .cells #[.slice A0_0 l0_0.length c0_0, .bool a0_1] 25 (0, 0)) (by (with_reducible repeat (first | refine blk_drewN ?_ _ | refine blk_drew ?_ | refine blk_alloc ?_ _)); exact BK311.out) hb); have n2_ := Aside0.mk (blk_below (g := gb318) (o := .cells #[.slice Ao14 t314.length co14, .bool t317] 25 (0, 0)) (by (with_reducible repeat (first | refine blk_drewN ?_ _ | refine blk_drew ?_ | refine blk_alloc ?_ _)); exact BK318.out) hb); have n3_ := Aside0.mk (below_step (by repeat (first | (with_reducible first | exact HB.out | apply below_alloc | apply pw_below_drewN | apply below_drew1 | refine below_set ?_ GE311.out | refine below_set ?_ GE318.out) | exact HB.out)) hb); clear HO_319000; clear BK311; clear BK318; clear HB; have HO_319000 := n0_; have BK311 := n1_; have BK318 := n2_; have HB := n3_; clear n0_ n1_ n2_ n3_; (try clear hb); (try clear hb2); (try clear hk); (try clear hi)))
              go_ret
              exact ⟨by first | rfl | (simp [errW_none, errW_some] <;> rfl) | (simp [*, errW_none, errW_some] <;> rfl), by repeat (first | (with_reducible first | exact HB.out | apply below_alloc | apply pw_below_drewN | apply below_drew1 | refine below_set ?_ GE311.out | refine below_set ?_ GE318.out) | exact HB.out)⟩
            · rw [if_neg c42] at H
              have c42b0 : (t319.toList == t324.toList) = false := beq_eq_false_iff_ne.mpr c42
              have c42b1 : (t319.toList != t324.toList) = true := bne_iff_ne.mpr c42
              obtain rfl := Option.some.inj H
              have hnb48 := NB311_318.out
              have hnc48 := NB318_311.out
              have hcz49_0 : wc.cell? ⟨gb311, 0, none⟩ = some (.slice A0_0 l0_0.length c0_0) := (blk_cell BK311.out 0).trans rfl
              have hcz49_1 : wc.cell? ⟨gb311, 1, none⟩ = some (.bool a0_1) := (blk_cell BK311.out 1).trans rfl
              have hfz49_0 := blk_frozen BK311.out 0
              have hfz49_1 := blk_frozen BK311.out 1
              go_wp2_with (first | ((with_reducible refine gate_callee (f := 30) rfl ?_); refine goesL_ (some 44) rfl rfl Tryd.func30 (by kernel_rfl) rfl #[.agg #[.slice A0_0 l0_0.length c0_0, .bool a0_1]] rfl (by (try simp only [List.map_toArray, List.map_cons, List.map_nil]); first | done | rfl | (simp only [List.length_drop, List.length_take]; rfl)) ?_; (with_reducible refine (stockyardref03_Text.calls _ _ l0_0 a0_1 t324 _ ?side1 ?side2 A41.out).mono ?_); (case side1 => repeat (first | exact (Kd.C_below HR0_0.out HB.out) | (with_reducible refine Kd.C_alloc ?_ _) | (with_reducible refine Kd.C_drewN ?_ _) | (with_reducible refine Kd.C_drew ?_))); (case side2 => exact HC0_0.out); rintro e w50 ⟨rfl, hb⟩; refine ⟨_, rfl, ?_⟩; have n0_ := Aside0.mk (Kd.R_below (by (with_reducible repeat (first | apply Kd.R_alloc | apply Kd.R_drewN | apply Kd.R_drew)); exact HO_319000.out) hb); have n1_ := Aside0.mk (blk_below (g := gb311) (o := .cells #[.slice A0_0 l0_0.length c0_0, .bool a0_1] 25 (0, 0)) (by (with_reducible repeat (first | refine blk_drewN ?_ _ | refine blk_drew ?_ | refine blk_alloc ?_ _)); exact BK311.out) hb); have n2_ := Aside0.mk (blk_below (g := gb318) (o := .cells #[.slice Ao14 t314.length co14, .bool t317] 25 (0, 0)) (by (with_reducible repeat (first | refine blk_drewN ?_ _ | refine blk_drew ?_ | refine blk_alloc ?_ _)); exact BK318.out) hb); have n3_ := Aside0.mk (below_step (by repeat (first | (with_reducible first | exact HB.out | apply below_alloc | apply pw_below_drewN | apply below_drew1 | refine below_set ?_ GE311.out | refine below_set ?_ GE318.out) | exact HB.out)) hb); clear HO_319000; clear BK311; clear BK318; clear HB; have HO_319000 := n0_; have BK311 := n1_; have BK318 := n2_; have HB := n3_; clear n0_ n1_ n2_ n3_; (try clear hb); (try clear hb2); (try clear hk); (try clear hi)))
              go_ret
              exact ⟨by first | rfl | (simp [errW_none, errW_some] <;> rfl) | (simp [*, errW_none, errW_some] <;> rfl), by repeat (first | (with_reducible first | exact HB.out | apply below_alloc | apply pw_below_drewN | apply below_drew1 | refine below_set ?_ GE311.out | refine below_set ?_ GE318.out) | exact HB.out)⟩
          · rw [if_neg c40] at H
            have c40b0 : (t321 == 0) = false := beq_eq_false_iff_ne.mpr c40
            have c40b1 : (t321 != 0) = true := bne_iff_ne.mpr c40
            by_cases c51 : t319.toList = ([] : List UInt8)
            · rw [if_pos c51] at H
              have c51b0 : (t319.toList == ([] : List UInt8)) = true := beq_iff_eq.mpr c51
              have c51b1 : (t319.toList != ([] : List UInt8)) = false := bne_eq_false_iff_eq.mpr c51
              clear c51
              replace H := Option.bind_eq_some_iff.mp H
              obtain ⟨t326, A520, H⟩ := H
              replace H : (some t326) = some r := H
              have A52 := Aside0.mk A520
              clear A520
              obtain rfl := Option.some.inj H
              go_wp2_with (first | (go_at_call 18; (with_reducible refine (stockyardlaw03_awake.calls kj6  t326 _ A52.out).mono ?_); rintro e w53 ⟨rfl, hb⟩; have n0_ := Aside0.mk (Kd.R_below (by (with_reducible repeat (first | apply Kd.R_alloc | apply Kd.R_drewN | apply Kd.R_drew)); exact HO_319000.out) hb); have n1_ := Aside0.mk (blk_below (g := gb311) (o := .cells #[.slice A0_0 l0_0.length c0_0, .bool a0_1] 25 (0, 0)) (by (with_reducible repeat (first | refine blk_drewN ?_ _ | refine blk_drew ?_ | refine blk_alloc ?_ _)); exact BK311.out) hb); have n2_ := Aside0.mk (blk_below (g := gb318) (o := .cells #[.slice Ao14 t314.length co14, .bool t317] 25 (0, 0)) (by (with_reducible repeat (first | refine blk_drewN ?_ _ | refine blk_drew ?_ | refine blk_alloc ?_ _)); exact BK318.out) hb); have n3_ := Aside0.mk (below_step (by repeat (first | (with_reducible first | exact HB.out | apply below_alloc | apply pw_below_drewN | apply below_drew1 | refine below_set ?_ GE311.out | refine below_set ?_ GE318.out) | exact HB.out)) hb); clear HO_319000; clear BK311; clear BK318; clear HB; have HO_319000 := n0_; have BK311 := n1_; have BK318 := n2_; have HB := n3_; clear n0_ n1_ n2_ n3_; (try clear hb); (try clear hb2); (try clear hk); (try clear hi)))
              go_ret
              exact ⟨by first | rfl | (simp [errW_none, errW_some] <;> rfl) | (simp [*, errW_none, errW_some] <;> rfl), by repeat (first | (with_reducible first | exact HB.out | apply below_alloc | apply pw_below_drewN | apply below_drew1 | refine below_set ?_ GE311.out | refine below_set ?_ GE318.out) | exact HB.out)⟩
            · rw [if_neg c51] at H
              have c51b0 : (t319.toList == ([] : List UInt8)) = false := beq_eq_false_iff_ne.mpr c51
              have c51b1 : (t319.toList != ([] : List UInt8)) = true := bne_iff_ne.mpr c51
              obtain rfl := Option.some.inj H
              go_wp2
              go_ret
              exact ⟨by first | rfl | (simp [errW_none, errW_some] <;> rfl) | (simp [*, errW_none, errW_some] <;> rfl), by repeat (first | (with_reducible first | exact HB.out | apply below_alloc | apply pw_below_drewN | apply below_drew1 | refine below_set ?_ GE311.out | refine below_set ?_ GE318.out) | exact HB.out)⟩
  · replace c3 := Bool.eq_false_iff.mpr c3
    subst c3
    have H1 : ((stockyardlaw03_awake.f k).bind fun t313 => (some t313)) = some r := by rw [if_neg (show ¬ (false = true) by decide)] at H; exact H
    clear H
    have H := H1
    clear H1
    replace H := Option.bind_eq_some_iff.mp H
    obtain ⟨t313, A540, H⟩ := H
    replace H : (some t313) = some r := H
    have A54 := Aside0.mk A540
    clear A540
    obtain rfl := Option.some.inj H
    go_enter Tryd.func6, Tryd.ntmps6
    go_wp2_with (first | ((with_reducible refine gate_dst (N := 1) rfl ?_); refine box_event ?hg (N := 1) ?hd (cs := #[.slice A0_0 l0_0.length c0_0, .bool a0_1]) (t := 25) ?hr ?_; (case hd => rfl); (case hg => rfl); (case hr => first | (go_simp; done) | (go_simp; rfl)); intro gb311 hg w55 hbox hb; have n0_ := Aside0.mk (below_step (by repeat (first | (with_reducible first | exact HB.out | apply below_alloc | apply pw_below_drewN | apply below_drew1) | exact HB.out)) hb); have n1_ := Aside0.mk (hbox); have n2_ := Aside0.mk ((by rw [hg]; exact (below_size (by repeat (first | (with_reducible first | exact HB.out | apply below_alloc | apply pw_below_drewN | apply below_drew1) | exact HB.out))) : w.heap.size ≤ gb311)); have n3_ := Aside0.mk ((by rw [hg]; exact (below_size (by repeat (first | (with_reducible first | exact HB.out | apply below_alloc | apply pw_below_drewN | apply below_drew1) | exact HB.out))) : w.heap.size ≤ gb311)); clear HB; have HB := n0_; have BK311 := n1_; have GW311 := n2_; have GE311 := n3_; clear n0_ n1_ n2_ n3_; clear hb hbox hg; have hcz56_0 : w55.cell? ⟨gb311, 0, none⟩ = some (.slice A0_0 l0_0.length c0_0) := (blk_cell BK311.out 0).trans rfl; have hcz56_1 : w55.cell? ⟨gb311, 1, none⟩ = some (.bool a0_1) := (blk_cell BK311.out 1).trans rfl; have hfz56_0 := blk_frozen BK311.out 0; have hfz56_1 := blk_frozen BK311.out 1) | ((with_reducible refine gate_callee (f := 22) rfl ?_); refine goesL_ (some 8) rfl rfl Tryd.func22 (by kernel_rfl) rfl #[.agg #[.slice A0_0 l0_0.length c0_0, .bool a0_1]] rfl (by (try simp only [List.map_toArray, List.map_cons, List.map_nil]); first | done | rfl | (simp only [List.length_drop, List.length_take]; rfl)) ?_; (with_reducible refine (stockyardlaw03_small.calls k _ _ l0_0 a0_1 false _ ?side1 ?side2 A2.out).mono ?_); (case side1 => repeat (first | exact (Kd.C_below HR0_0.out HB.out) | (with_reducible refine Kd.C_alloc ?_ _) | (with_reducible refine Kd.C_drewN ?_ _) | (with_reducible refine Kd.C_drew ?_))); (case side2 => exact HC0_0.out); rintro e w57 ⟨rfl, hb⟩; refine ⟨_, rfl, ?_⟩; have n0_ := Aside0.mk (blk_below (g := gb311) (o := .cells #[.slice A0_0 l0_0.length c0_0, .bool a0_1] 25 (0, 0)) (by (with_reducible repeat (first | refine blk_drewN ?_ _ | refine blk_drew ?_ | refine blk_alloc ?_ _)); exact BK311.out) hb); have n1_ := Aside0.mk (below_step (by repeat (first | (with_reducible first | exact HB.out | apply below_alloc | apply pw_below_drewN | apply below_drew1 | refine below_set ?_ GE311.out) | exact HB.out)) hb); clear BK311; clear HB; have BK311 := n0_; have HB := n1_; clear n0_ n1_; (try clear hb); (try clear hb2); (try clear hk); (try clear hi)) | ((with_reducible refine gate_callee (f := 18) rfl ?_); refine goesL_ (some 10) rfl rfl Tryd.func18 (by kernel_rfl) rfl #[] rfl (by (try simp only [List.map_toArray, List.map_cons, List.map_nil]); first | done | rfl | (simp only [List.length_drop, List.length_take]; rfl)) ?_; (with_reducible refine (stockyardlaw03_awake.calls k  t313 _ A54.out).mono ?_); rintro e w58 ⟨rfl, hb⟩; refine ⟨_, rfl, ?_⟩; have n0_ := Aside0.mk (blk_below (g := gb311) (o := .cells #[.slice A0_0 l0_0.length c0_0, .bool a0_1] 25 (0, 0)) (by (with_reducible repeat (first | refine blk_drewN ?_ _ | refine blk_drew ?_ | refine blk_alloc ?_ _)); exact BK311.out) hb); have n1_ := Aside0.mk (below_step (by repeat (first | (with_reducible first | exact HB.out | apply below_alloc | apply pw_below_drewN | apply below_drew1 | refine below_set ?_ GE311.out) | exact HB.out)) hb); clear BK311; clear HB; have BK311 := n0_; have HB := n1_; clear n0_ n1_; (try clear hb); (try clear hb2); (try clear hk); (try clear hi)))
    go_ret
    exact ⟨by first | rfl | (simp [errW_none, errW_some] <;> rfl) | (simp [*, errW_none, errW_some] <;> rfl), by repeat (first | (with_reducible first | exact HB.out | apply below_alloc | apply pw_below_drewN | apply below_drew1 | refine below_set ?_ GE311.out) | exact HB.out)⟩

end Go.Proofs.YtkakemojljeffaaDoor.P

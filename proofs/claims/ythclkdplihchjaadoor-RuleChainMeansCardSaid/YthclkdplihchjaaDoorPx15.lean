-- Written by a program of this session (wip/gen.py) over the kit's print: each Go function as a plain Lean function, and the proof that the Go code comes to it. Nothing here is trusted: Lean checks it.
import Derived.Test.YthclkdplihchjaaDoorPx0
import Derived.Test.YthclkdplihchjaaDoorSq
namespace Go.Proofs.YthclkdplihchjaaDoor.P
open Go.RowKit Go.Proofs.YthclkdplihchjaaDoorW.PrintWords Go.Proofs.YthclkdplihchjaaDoorW.PrintLast Go.Proofs.YthclkdplihchjaaDoorW.PrintMore
attribute [local go_sem] str_gtr str_leq str_geq max2_int min2_int max_two min_two max_three min_three max_four min_four   -- for this text's walks alone
set_option linter.unusedVariables false
set_option linter.unusedSimpArgs false

/-! ### rule_copied: function 75 -/
def rule_copied.f (l0_0 : List ByteArray) (a0_1 : Bool) : Option (List ByteArray × Bool) := (some (([] : List ByteArray) : List ByteArray)).bind fun y937 => (if y937.length + l0_0.length < 8796093022208 then (some ((y937 ++ l0_0), a0_1)) else (none))
def rule_copied.T1 : Bool × List (List Nat × List Nat) := (true, [([], []), ([], []), ([1], [1]), ([0, 2], [0, 2]), ([], []), ([4], [4]), ([3, 5], [3, 5]), ([6, 3, 0, 1, 2, 3, 4, 5, 6], [6])])
def rule_copied.B1 : List Nat := [0, 0, 2, 7, 0, 16, 63, 127]
theorem rule_copied.tab1 : rtab .any (opsOf Tryd.f75 1) = rule_copied.T1 := by kernel_rfl
theorem rule_copied.bits1 : waitsOk rule_copied.T1.2 rule_copied.B1 = true := by kernel_rfl
set_option maxHeartbeats 8000000 in
set_option maxRecDepth 100000 in
theorem rule_copied.calls (A0_0 : Option Addr) (c0_0 : Nat) (l0_0 : List ByteArray) (a0_1 : Bool) (r1 : List ByteArray) (r2 : Bool) (w : World) (hr0_0 : Kd.C Kd.string w A0_0 l0_0.length l0_0) (hc0_0 : l0_0.length ≤ c0_0) (h : rule_copied.f l0_0 a0_1 = some (r1, r2)) :
    Calls Tryd.prog 75 #[.agg #[.slice A0_0 l0_0.length c0_0, .bool a0_1]] w fun e w' => ∃ v0_ : Value, e = .returned (.agg #[v0_, .bool r2]) ∧ Kd.R Kd.string 9 w' w.heap.size (fun _ => True) v0_ r1 ∧ Below w.heap.size w w' := by
  have hu24 := Tryd.underlying24
  have HR0_0 := Aside0.mk hr0_0
  have HC0_0 := Aside0.mk hc0_0
  clear hr0_0 hc0_0
  have HB := Aside0.mk (Below.refl w.heap.size w)
  have H : ((some (([] : List ByteArray) : List ByteArray)).bind fun y937 => (if y937.length + l0_0.length < 8796093022208 then (some ((y937 ++ l0_0), a0_1)) else (none))) = some (r1, r2) := h
  clear h
  obtain ⟨y937, hy937⟩ : ∃ y_ : List ByteArray, y_ = (([] : List ByteArray)) := ⟨_, rfl⟩
  replace H : (if y937.length + l0_0.length < 8796093022208 then (some ((y937 ++ l0_0), a0_1)) else (none)) = some (r1, r2) := by first | (rw [hy937]; with_reducible exact H) | (have H2_ := (Option.bind_some _ _).symm.trans H; rw [hy937]; with_reducible exact H2_) | (have H2_ := (Option.bind_some _ _).symm.trans H; with_reducible exact H2_) | with_reducible exact H | (rw [hy937]; exact H) | exact H
  have Ny937 := Aside0.mk hy937
  clear hy937
  by_cases c2 : y937.length + l0_0.length < 8796093022208
  · rw [if_pos c2] at H
    have LMc2 := Aside0.mk c2
    clear c2
    obtain ⟨y940, hy940⟩ : ∃ y_ : List ByteArray, y_ = (y937 ++ l0_0) := ⟨_, rfl⟩
    replace H : (some (y940, a0_1)) = some (r1, r2) := by first | (rw [hy940]; with_reducible exact H) | (have H2_ := (Option.bind_some _ _).symm.trans H; rw [hy940]; with_reducible exact H2_) | (have H2_ := (Option.bind_some _ _).symm.trans H; with_reducible exact H2_) | with_reducible exact H | (rw [hy940]; exact H) | exact H
    have Ny940 := Aside0.mk hy940
    clear hy940
    simp only [Option.some.injEq, Prod.mk.injEq] at H
    obtain ⟨rfl, rfl⟩ := H
    go_enter Tryd.func75, Tryd.ntmps75
    try go_wp2_with (first | ((with_reducible refine gate_dst (N := 1) rfl ?_); refine box_event ?hg (N := 1) ?hd (cs := #[.slice A0_0 l0_0.length c0_0, .bool a0_1]) (t := 24) ?hr ?_; (case hd => rfl); (case hg => rfl); (case hr => first | (go_simp; done) | (go_simp; rfl)); intro gb935 hg w3 hbox hb; have BK935 := Aside0.mk hbox; have GW935 := gw_ HB hg; have GE935 := gw_ HB hg; replace HB := hs_ HB hb; clear hb hbox hg) | ((with_reducible refine gate_dst (N := 2) rfl ?_); refine box_event ?hg (N := 2) ?hd (cs := #[.slice none 0 0, .bool false]) (t := 24) ?hr ?_; (case hd => rfl); (case hg => rfl); (case hr => first | (go_simp; done) | (go_simp; rfl)); intro gb936 hg w4 hbox hb; have BK936 := Aside0.mk hbox; have GW936 := gw_ HB hg; have GE936 := gw_ HB hg; have NB935_936 := nl_ BK935 hg; have NB936_935 := nr_ BK935 hg; replace BK935 := bb_ BK935 hb; replace HB := hs_ HB hb; clear hb hbox hg))
    have n0_ := Aside0.mk (blk_drew BK935.out)
    have n1_ := Aside0.mk (blk_drew BK936.out)
    have n2_ := Aside0.mk (below_drew1 HB.out)
    clear BK935 BK936 HB
    have BK935 := n0_
    have BK936 := n1_
    have HB := n2_
    clear n0_ n1_ n2_
    refine start_ (n := 8) (S := fun w' => w'.cell? ⟨gb935, 0, none⟩ = some (.slice A0_0 l0_0.length c0_0) ∧ w'.cell? ⟨gb935, 1, none⟩ = some (.bool a0_1)) (ds := []) #[false, false, false, false, false, false, false, false] (by kernel_rfl) rfl rfl ⟨(blk_cell BK935.out 0).trans rfl, (blk_cell BK935.out 1).trans rfl⟩ (fun hHeld => ?_); refine with_tabW rule_copied.tab1 rule_copied.bits1 (fun HT_ HW_ => ?_)
    generalize w4.drew = w5 at BK935 BK936 HB hHeld ⊢
    refine pure_ (i := 1) (N := some 4) (v := ?_) (a' := ?_) #[false, true, false, false, false, false, false, false] rfl rfl (any_of HT_.out (by kernel_rfl)) (fun _ _ _ h => h) (Or.inl ⟨by rfl, ?_⟩) ?_ ?_
    rotate_left
    · intro w'
      go_simp
      with_reducible rfl
    rotate_left
    · simp only [Act.put, List.setIfInBounds_toArray, List.set_cons_zero, List.set_cons_succ, i64_w, i32_w]
      rfl
    refine pure_ (i := 4) (N := some 7) (v := ?_) (a' := ?_) #[false, true, false, false, true, false, false, false] rfl rfl (any_of HT_.out (by kernel_rfl)) (fun _ _ _ h => h) (Or.inl ⟨by rfl, ?_⟩) ?_ ?_
    rotate_left
    · intro w'
      go_simp
      with_reducible rfl
    rotate_left
    · simp only [Act.put, List.setIfInBounds_toArray, List.set_cons_zero, List.set_cons_succ, i64_w, i32_w]
      rfl
    refine take_ (i := 2) (N := some 5) (v := ?_) (a' := ?_) #[false, true, true, false, true, false, false, false] rfl rfl (take_ofW HT_.out HW_.out (by kernel_rfl)) (fun _ _ _ h => h) (Or.inl ⟨by rfl, ?_⟩) hHeld ?_ ?_
    rotate_left
    · rintro w' ⟨s0, s1⟩
      go_simp
      with_reducible rfl
    rotate_left
    · simp only [Act.put, List.setIfInBounds_toArray, List.set_cons_zero, List.set_cons_succ, i64_w, i32_w]
      rfl
    refine take_ (i := 5) (N := some 8) (v := ?_) (a' := ?_) #[false, true, true, false, true, true, false, false] rfl rfl (take_ofW HT_.out HW_.out (by kernel_rfl)) (fun _ _ _ h => h) (Or.inl ⟨by rfl, ?_⟩) hHeld ?_ ?_
    rotate_left
    · rintro w' ⟨s0, s1⟩
      go_simp
      with_reducible rfl
    rotate_left
    · simp only [Act.put, List.setIfInBounds_toArray, List.set_cons_zero, List.set_cons_succ, i64_w, i32_w]
      rfl
    refine one_ (i := 0) (N := some 3) #[true, true, true, false, true, true, false, false] rfl rfl (one_of HT_.out (by kernel_rfl)) (by decide) (fun K hK => ?_)
    refine Kd.R_lit_step Kd.string _ 9 ?hg (N := 3) ?hd (xs := ([] : List ByteArray)) (inner := []) (ok := fun _ => True) (okp := fun _ => True) ?hr ?hp (fun _ hk => hk) trivial (Below.refl _ _) (Nat.le_refl _) (by simp) ?_; (case hd => rfl); (case hg => rfl); (case hr => first | (go_simp; done) | (go_simp; rfl)); (case hp => exact (Reps.none _ _))
    intro v938 w6 ho7 hb hg_ hnew_
    clear hg_ hnew_
    (first | rw [← Ny937.out] at ho7 | (simp only [Int.reduceToNat] at ho7; rw [← Ny937.out] at ho7))
    have n0_ := Aside0.mk (Kd.R_lower ho7 (below_size hb_))
    replace BK935 := bb_ BK935 hb
    replace BK936 := bb_ BK936 hb
    replace HB := hs_ HB hb
    have HO939 := n0_
    clear n0_
    clear hb ho7
    refine hK.out _ _ ⟨(blk_cell BK935.out 0).trans rfl, (blk_cell BK935.out 1).trans rfl⟩ (fun hHeld => ?_)
    clear hK K
    refine norm_ (a' := ?_) ?_ ?_
    rotate_left
    · show Act.put _ (some 3) _ = _
      simp only [Act.put, List.setIfInBounds_toArray, List.set_cons_zero, List.set_cons_succ, i64_w, i32_w]
      rfl
    refine one_ (i := 3) (N := some 6) #[true, true, true, true, true, true, false, false] rfl rfl (one_of HT_.out (by kernel_rfl)) (by decide) (fun K hK => ?_)
    refine Kd.R_append_rows_step Kd.string (w0 := w) w.heap.size (by rfl) (.tmp 3) (.tmp 5) 22 9 (.string ⟨#[]⟩) 16 rfl Tryd.underlying22 info9 rfl (by decide) (by omega) v938 y937 l0_0 _ _ _ (fun _ => True) (fun _ => False) rfl rfl ?aO ?aR (fun _ _ h => h) (fun _ h => h.elim) ?aF ?aB ?aS ?aL ?_
    (case aR => repeat (first | exact (Kd.C_below HR0_0.out HB.out) | (with_reducible refine Kd.C_alloc ?_ _) | (with_reducible refine Kd.C_drewN ?_ _) | (with_reducible refine Kd.C_drew ?_)))
    (case aB => exact hb_)
    (case aF => exact (fun _ _ => trivial))
    (case aO => exact (rp_ HO939))
    (case aS => exact (below_size hb_))
    (case aL => have := LMc2.out; omega)
    intro v941 w8 ho hb hg hat
    rw [← Ny940.out] at ho
    have n0_ := Aside0.mk (blk_grown (g := gb935) (o := .cells #[.slice A0_0 l0_0.length c0_0, .bool a0_1] 24 (0, 0)) bk_ hg (Kd.R_ne HO939.out BK935.out (by decide)))
    have n1_ := Aside0.mk (blk_grown (g := gb936) (o := .cells #[.slice none 0 0, .bool false] 24 (0, 0)) bk_ hg (Kd.R_ne HO939.out BK936.out (by decide)))
    have n2_ := Aside0.mk (hb)
    have n3_ := Aside0.mk (ho)
    clear BK935 BK936 HB HO939
    have BK935 := n0_
    have BK936 := n1_
    have HB := n2_
    have HO942 := n3_
    clear n0_ n1_ n2_ n3_
    clear ho hb hg hat
    obtain ⟨Ao9, co9, eo9⟩ := Kd.R_slice HO942.out
    (first | subst eo9 | (injection eo9 with f1_ f2_ f3_; have f4_ := f1_.symm; have f5_ := f3_.symm; clear f1_ f2_ f3_; subst f4_; subst f5_))
    refine hK.out _ _ ⟨(blk_cell BK935.out 0).trans rfl, (blk_cell BK935.out 1).trans rfl⟩ (fun hHeld => ?_)
    clear hK K
    refine norm_ (a' := ?_) ?_ ?_
    rotate_left
    · show Act.put _ (some 6) _ = _
      simp only [Act.put, List.setIfInBounds_toArray, List.set_cons_zero, List.set_cons_succ, i64_w, i32_w]
      rfl
    refine pure_ (i := 6) (N := some 9) (v := ?_) (a' := ?_) #[true, true, true, true, true, true, true, false] rfl rfl (any_of HT_.out (by kernel_rfl)) (fun _ _ _ h => h) (Or.inl ⟨by rfl, ?_⟩) ?_ ?_
    rotate_left
    · intro w'
      go_simp
      with_reducible rfl
    rotate_left
    · simp only [Act.put, List.setIfInBounds_toArray, List.set_cons_zero, List.set_cons_succ, i64_w, i32_w]
      rfl
    refine one_ (i := 7) (N := none) #[true, true, true, true, true, true, true, true] rfl rfl (one_of HT_.out (by kernel_rfl)) (by decide) (fun K hK => ?_)
    have hs10 : w8.cell? ⟨gb936, 0, none⟩ = some (.slice none 0 0) := (blk_cell BK936.out 0).trans rfl
    have hfs10 := blk_frozen BK936.out 0
    have hns10_0 := NB935_936.out
    have hms10_0 := NB936_935.out
    have hs11 : w8.cell? ⟨gb936, 1, none⟩ = some (.bool false) := (blk_cell BK936.out 1).trans rfl
    have hfs11 := blk_frozen BK936.out 1
    have hns11_0 := NB935_936.out
    have hms11_0 := NB936_935.out
    refine skip_ (w1 := ?_) (by rfl) rfl ?_ ?_
    rotate_left
    · go_simp
      rfl
    refine hK.out _ _ ⟨((cell_far (p := ⟨gb936, _, none⟩) NB935_936.out _).trans (((cell_far (p := ⟨gb936, _, none⟩) NB935_936.out _).trans (hHeld.1)))), ((cell_far (p := ⟨gb936, _, none⟩) NB935_936.out _).trans (((cell_far (p := ⟨gb936, _, none⟩) NB935_936.out _).trans (hHeld.2))))⟩ (fun hHeld => ?_)
    clear hK K
    refine done_ (done_of HT_.out (by kernel_rfl)) ?_
    try go_wp2
    refine bodyPost_ret (results_cell_row rfl _ _ gb936 24 #[.slice Ao9 y940.length co9, .bool a0_1] (0, 0) _ rfl bz_ Tryd.underlying24 rfl (by kernel_rfl)) rfl ?_
    exact ⟨_, rt_, by (with_reducible repeat (first | apply Kd.R_alloc | apply Kd.R_drewN | apply Kd.R_drew)); exact Kd.R_mono (Kd.R_far (p := ⟨gb936, 1, none⟩) (Kd.R_far (p := ⟨gb936, 0, none⟩) (Kd.R_types HO942.out BK936.out (by decide)) (fun _ hk => hk.2) (.slice Ao9 y940.length co9)) (fun _ hk => hk.2) (.bool a0_1)) (fun _ hk => trivial), hb_⟩
  · rw [if_neg c2] at H
    exact absurd H (by simp)

/-! ### rule_Turn: function 53 -/
def rule_Turn.f (a0_0 : Bool) (l0_1 : List ByteArray) (a0_2 : Bool) (l0_3 : List ByteArray) (a0_4 : Bool) : Option (Bool × List ByteArray × Bool × List ByteArray × Bool) := (rule_copied.f l0_3 a0_4).bind fun bt945 => ((rule_copied.f l0_1 a0_2).bind fun bt949 => (some (a0_0, bt945.1, bt945.2, bt949.1, bt949.2)))
def rule_Turn.T1 : Bool × List (List Nat × List Nat) := (true, [([], []), ([0], [0]), ([], []), ([2], [2]), ([3], [3]), ([], []), ([5], [5]), ([6, 4], [6]), ([1, 4, 7], [1, 4, 7]), ([8, 7, 0, 1, 2, 3, 4, 5, 6, 7, 8], [8])])
def rule_Turn.B1 : List Nat := [0, 1, 0, 4, 12, 0, 32, 124, 255, 511]
theorem rule_Turn.tab1 : rtab .any (opsOf Tryd.f53 1) = rule_Turn.T1 := by kernel_rfl
theorem rule_Turn.bits1 : waitsOk rule_Turn.T1.2 rule_Turn.B1 = true := by kernel_rfl
set_option maxHeartbeats 8000000 in
set_option maxRecDepth 100000 in
theorem rule_Turn.calls (a0_0 : Bool) (A0_1 : Option Addr) (c0_1 : Nat) (l0_1 : List ByteArray) (a0_2 : Bool) (A0_3 : Option Addr) (c0_3 : Nat) (l0_3 : List ByteArray) (a0_4 : Bool) (r1 : Bool) (r2 : List ByteArray) (r3 : Bool) (r4 : List ByteArray) (r5 : Bool) (w : World) (hr0_1 : Kd.C Kd.string w A0_1 l0_1.length l0_1) (hc0_1 : l0_1.length ≤ c0_1) (hr0_3 : Kd.C Kd.string w A0_3 l0_3.length l0_3) (hc0_3 : l0_3.length ≤ c0_3) (h : rule_Turn.f a0_0 l0_1 a0_2 l0_3 a0_4 = some (r1, r2, r3, r4, r5)) :
    Calls Tryd.prog 53 #[.agg #[.bool a0_0, .slice A0_1 l0_1.length c0_1, .bool a0_2, .slice A0_3 l0_3.length c0_3, .bool a0_4]] w fun e w' => ∃ v1_ v3_ : Value, e = .returned (.agg #[.bool r1, v1_, .bool r3, v3_, .bool r5]) ∧ Kd.R Kd.string 9 w' w.heap.size (fun k_ => some k_ ≠ (v3_ : Value).ownBlock) v1_ r2 ∧ Kd.R Kd.string 9 w' w.heap.size (fun k_ => some k_ ≠ (v1_ : Value).ownBlock) v3_ r4 ∧ Below w.heap.size w w' := by
  have hu39 := Tryd.underlying39
  have hu24 := Tryd.underlying24
  have HR0_1 := Aside0.mk hr0_1
  have HC0_1 := Aside0.mk hc0_1
  clear hr0_1 hc0_1
  have HR0_3 := Aside0.mk hr0_3
  have HC0_3 := Aside0.mk hc0_3
  clear hr0_3 hc0_3
  have HB := Aside0.mk (Below.refl w.heap.size w)
  have H : ((rule_copied.f l0_3 a0_4).bind fun bt945 => ((rule_copied.f l0_1 a0_2).bind fun bt949 => (some (a0_0, bt945.1, bt945.2, bt949.1, bt949.2)))) = some (r1, r2, r3, r4, r5) := h
  clear h
  replace H := Option.bind_eq_some_iff.mp H
  obtain ⟨⟨t945, t948⟩, A20, H⟩ := H
  replace H : ((rule_copied.f l0_1 a0_2).bind fun bt949 => (some (a0_0, t945, t948, bt949.1, bt949.2))) = some (r1, r2, r3, r4, r5) := H
  have A2 := Aside0.mk A20
  clear A20
  replace H := Option.bind_eq_some_iff.mp H
  obtain ⟨⟨t949, t952⟩, A30, H⟩ := H
  replace H : (some (a0_0, t945, t948, t949, t952)) = some (r1, r2, r3, r4, r5) := H
  have A3 := Aside0.mk A30
  clear A30
  simp only [Option.some.injEq, Prod.mk.injEq] at H
  obtain ⟨rfl, rfl, rfl, rfl, rfl⟩ := H
  go_enter Tryd.func53, Tryd.ntmps53
  try go_wp2_with (first | ((with_reducible refine gate_dst (N := 1) rfl ?_); refine box_event ?hg (N := 1) ?hd (cs := #[.bool a0_0, .slice A0_1 l0_1.length c0_1, .bool a0_2, .slice A0_3 l0_3.length c0_3, .bool a0_4]) (t := 39) ?hr ?_; (case hd => rfl); (case hg => rfl); (case hr => first | (go_simp; done) | (go_simp; rfl)); intro gb943 hg w4 hbox hb; have BK943 := Aside0.mk hbox; have GW943 := gw_ HB hg; have GE943 := gw_ HB hg; replace HB := hs_ HB hb; clear hb hbox hg) | ((with_reducible refine gate_dst (N := 2) rfl ?_); refine box_event ?hg (N := 2) ?hd (cs := #[.bool false, .slice none 0 0, .bool false, .slice none 0 0, .bool false]) (t := 39) ?hr ?_; (case hd => rfl); (case hg => rfl); (case hr => first | (go_simp; done) | (go_simp; rfl)); intro gb944 hg w5 hbox hb; have BK944 := Aside0.mk hbox; have GW944 := gw_ HB hg; have GE944 := gw_ HB hg; have NB943_944 := nl_ BK943 hg; have NB944_943 := nr_ BK943 hg; replace BK943 := bb_ BK943 hb; replace HB := hs_ HB hb; clear hb hbox hg))
  have n0_ := Aside0.mk (blk_drew BK943.out)
  have n1_ := Aside0.mk (blk_drew BK944.out)
  have n2_ := Aside0.mk (below_drew1 HB.out)
  clear BK943 BK944 HB
  have BK943 := n0_
  have BK944 := n1_
  have HB := n2_
  clear n0_ n1_ n2_
  refine start_ (n := 10) (S := fun w' => w'.cell? ⟨gb943, 0, none⟩ = some (.bool a0_0) ∧ w'.cell? ⟨gb943, 1, none⟩ = some (.slice A0_1 l0_1.length c0_1) ∧ w'.cell? ⟨gb943, 2, none⟩ = some (.bool a0_2) ∧ w'.cell? ⟨gb943, 3, none⟩ = some (.slice A0_3 l0_3.length c0_3) ∧ w'.cell? ⟨gb943, 4, none⟩ = some (.bool a0_4)) (ds := []) #[false, false, false, false, false, false, false, false, false, false] (by kernel_rfl) rfl rfl ⟨(blk_cell BK943.out 0).trans rfl, (blk_cell BK943.out 1).trans rfl, (blk_cell BK943.out 2).trans rfl, (blk_cell BK943.out 3).trans rfl, (blk_cell BK943.out 4).trans rfl⟩ (fun hHeld => ?_); refine with_tabW rule_Turn.tab1 rule_Turn.bits1 (fun HT_ HW_ => ?_)
  generalize w5.drew = w6 at BK943 BK944 HB hHeld ⊢
  refine pure_ (i := 0) (N := some 3) (v := ?_) (a' := ?_) #[true, false, false, false, false, false, false, false, false, false] rfl rfl (any_of HT_.out (by kernel_rfl)) (fun _ _ _ h => h) (Or.inl ⟨by rfl, ?_⟩) ?_ ?_
  rotate_left
  · intro w'
    go_simp
    with_reducible rfl
  rotate_left
  · simp only [Act.put, List.setIfInBounds_toArray, List.set_cons_zero, List.set_cons_succ, i64_w, i32_w]
    rfl
  refine pure_ (i := 2) (N := some 5) (v := ?_) (a' := ?_) #[true, false, true, false, false, false, false, false, false, false] rfl rfl (any_of HT_.out (by kernel_rfl)) (fun _ _ _ h => h) (Or.inl ⟨by rfl, ?_⟩) ?_ ?_
  rotate_left
  · intro w'
    go_simp
    with_reducible rfl
  rotate_left
  · simp only [Act.put, List.setIfInBounds_toArray, List.set_cons_zero, List.set_cons_succ, i64_w, i32_w]
    rfl
  refine pure_ (i := 5) (N := some 8) (v := ?_) (a' := ?_) #[true, false, true, false, false, true, false, false, false, false] rfl rfl (any_of HT_.out (by kernel_rfl)) (fun _ _ _ h => h) (Or.inl ⟨by rfl, ?_⟩) ?_ ?_
  rotate_left
  · intro w'
    go_simp
    with_reducible rfl
  rotate_left
  · simp only [Act.put, List.setIfInBounds_toArray, List.set_cons_zero, List.set_cons_succ, i64_w, i32_w]
    rfl
  refine take_ (i := 1) (N := some 4) (v := ?_) (a' := ?_) #[true, true, true, false, false, true, false, false, false, false] rfl rfl (take_ofW HT_.out HW_.out (by kernel_rfl)) (fun _ _ _ h => h) (Or.inl ⟨by rfl, ?_⟩) hHeld ?_ ?_
  rotate_left
  · rintro w' ⟨s0, s1, s2, s3, s4⟩
    go_simp
    with_reducible rfl
  rotate_left
  · simp only [Act.put, List.setIfInBounds_toArray, List.set_cons_zero, List.set_cons_succ, i64_w, i32_w]
    rfl
  refine take_ (i := 3) (N := some 6) (v := ?_) (a' := ?_) #[true, true, true, true, false, true, false, false, false, false] rfl rfl (take_ofW HT_.out HW_.out (by kernel_rfl)) (fun _ _ _ h => h) (Or.inl ⟨by rfl, ?_⟩) hHeld ?_ ?_
  rotate_left
  · rintro w' ⟨s0, s1, s2, s3, s4⟩
    go_simp
    with_reducible rfl
  rotate_left
  · simp only [Act.put, List.setIfInBounds_toArray, List.set_cons_zero, List.set_cons_succ, i64_w, i32_w]
    rfl
  refine take_ (i := 6) (N := some 9) (v := ?_) (a' := ?_) #[true, true, true, true, false, true, true, false, false, false] rfl rfl (take_ofW HT_.out HW_.out (by kernel_rfl)) (fun _ _ _ h => h) (Or.inl ⟨by rfl, ?_⟩) hHeld ?_ ?_
  rotate_left
  · rintro w' ⟨s0, s1, s2, s3, s4⟩
    go_simp
    with_reducible rfl
  rotate_left
  · simp only [Act.put, List.setIfInBounds_toArray, List.set_cons_zero, List.set_cons_succ, i64_w, i32_w]
    rfl
  refine one_ (i := 4) (N := some 7) #[true, true, true, true, true, true, true, false, false, false] rfl rfl (one_of HT_.out (by kernel_rfl)) (by decide) (fun K hK => ?_)
  refine goes_ Tryd.func75 (by kernel_rfl) rfl #[.agg #[.slice A0_3 l0_3.length c0_3, .bool a0_4]] (by rfl) rfl rfl gl_ ?_
  with_reducible refine (rule_copied.calls _ _ l0_3 a0_4 t945 t948 _ ?side1 ?side2 A2.out).mono ?_
  (case side1 => exact sd_)
  (case side2 => exact HC0_3.out)
  rintro e w7 ⟨v946, rfl, ho0, hb⟩
  refine ⟨_, rfl, ?_⟩
  have n0_ := Aside0.mk (Kd.R_lower ho0 (below_size hb_))
  replace BK943 := bb_ BK943 hb
  replace BK944 := bb_ BK944 hb
  replace HB := hs_ HB hb
  have HO947 := n0_
  clear n0_
  (try clear hb)
  (try clear hb2)
  (try clear hk)
  (try clear hi)
  (try clear ho0)
  refine hK.out _ _ ⟨(blk_cell BK943.out 0).trans rfl, (blk_cell BK943.out 1).trans rfl, (blk_cell BK943.out 2).trans rfl, (blk_cell BK943.out 3).trans rfl, (blk_cell BK943.out 4).trans rfl⟩ (fun hHeld => ?_)
  clear hK K
  refine norm_ (a' := ?_) ?_ ?_
  rotate_left
  · show Act.put _ (some 7) _ = _
    simp only [Act.put, List.setIfInBounds_toArray, List.set_cons_zero, List.set_cons_succ, i64_w, i32_w]
    rfl
  refine one_ (i := 7) (N := some 10) #[true, true, true, true, true, true, true, true, false, false] rfl rfl (one_of HT_.out (by kernel_rfl)) (by decide) (fun K hK => ?_)
  refine goes_ Tryd.func75 (by kernel_rfl) rfl #[.agg #[.slice A0_1 l0_1.length c0_1, .bool a0_2]] (by rfl) rfl rfl gl_ ?_
  with_reducible refine (rule_copied.calls _ _ l0_1 a0_2 t949 t952 _ ?side1 ?side2 A3.out).mono ?_
  (case side1 => exact sd_)
  (case side2 => exact HC0_1.out)
  rintro e w8 ⟨v950, rfl, ho0, hb⟩
  refine ⟨_, rfl, ?_⟩
  have n0_ := Aside0.mk (Kd.R_elder' (rp_ HO947) (Kd.R_base ho0) hb)
  have n1_ := Aside0.mk (Kd.R_lower (Kd.R_new' ho0 (Kd.R_lt (rp_ HO947))) (below_size hb_))
  replace BK943 := bb_ BK943 hb
  replace BK944 := bb_ BK944 hb
  replace HB := hs_ HB hb
  clear HO947
  have HO947 := n0_
  have HO951 := n1_
  clear n0_ n1_
  (try clear hb)
  (try clear hb2)
  (try clear hk)
  (try clear hi)
  (try clear ho0)
  obtain ⟨Ao9, co9, eo9⟩ := Kd.R_slice HO951.out
  (first | subst eo9 | (injection eo9 with f1_ f2_ f3_; have f4_ := f1_.symm; have f5_ := f3_.symm; clear f1_ f2_ f3_; subst f4_; subst f5_))
  obtain ⟨Ao10, co10, eo10⟩ := Kd.R_slice HO947.out
  (first | subst eo10 | (injection eo10 with f1_ f2_ f3_; have f4_ := f1_.symm; have f5_ := f3_.symm; clear f1_ f2_ f3_; subst f4_; subst f5_))
  refine hK.out _ _ ⟨(blk_cell BK943.out 0).trans rfl, (blk_cell BK943.out 1).trans rfl, (blk_cell BK943.out 2).trans rfl, (blk_cell BK943.out 3).trans rfl, (blk_cell BK943.out 4).trans rfl⟩ (fun hHeld => ?_)
  clear hK K
  refine norm_ (a' := ?_) ?_ ?_
  rotate_left
  · show Act.put _ (some 10) _ = _
    simp only [Act.put, List.setIfInBounds_toArray, List.set_cons_zero, List.set_cons_succ, i64_w, i32_w]
    rfl
  refine pure_ (i := 8) (N := some 11) (v := ?_) (a' := ?_) #[true, true, true, true, true, true, true, true, true, false] rfl rfl (any_of HT_.out (by kernel_rfl)) (fun _ _ _ h => h) (Or.inl ⟨by rfl, ?_⟩) ?_ ?_
  rotate_left
  · intro w'
    go_simp
    with_reducible rfl
  rotate_left
  · simp only [Act.put, List.setIfInBounds_toArray, List.set_cons_zero, List.set_cons_succ, i64_w, i32_w]
    rfl
  refine one_ (i := 9) (N := none) #[true, true, true, true, true, true, true, true, true, true] rfl rfl (one_of HT_.out (by kernel_rfl)) (by decide) (fun K hK => ?_)
  have hs11 : w8.cell? ⟨gb944, 0, none⟩ = some (.bool false) := (blk_cell BK944.out 0).trans rfl
  have hfs11 := blk_frozen BK944.out 0
  have hns11_0 := NB943_944.out
  have hms11_0 := NB944_943.out
  have hs12 : w8.cell? ⟨gb944, 1, none⟩ = some (.slice none 0 0) := (blk_cell BK944.out 1).trans rfl
  have hfs12 := blk_frozen BK944.out 1
  have hns12_0 := NB943_944.out
  have hms12_0 := NB944_943.out
  have hs13 : w8.cell? ⟨gb944, 2, none⟩ = some (.bool false) := (blk_cell BK944.out 2).trans rfl
  have hfs13 := blk_frozen BK944.out 2
  have hns13_0 := NB943_944.out
  have hms13_0 := NB944_943.out
  have hs14 : w8.cell? ⟨gb944, 3, none⟩ = some (.slice none 0 0) := (blk_cell BK944.out 3).trans rfl
  have hfs14 := blk_frozen BK944.out 3
  have hns14_0 := NB943_944.out
  have hms14_0 := NB944_943.out
  have hs15 : w8.cell? ⟨gb944, 4, none⟩ = some (.bool false) := (blk_cell BK944.out 4).trans rfl
  have hfs15 := blk_frozen BK944.out 4
  have hns15_0 := NB943_944.out
  have hms15_0 := NB944_943.out
  refine skip_ (w1 := ?_) (by rfl) rfl ?_ ?_
  rotate_left
  · go_simp
    rfl
  refine hK.out _ _ ⟨((cell_far (p := ⟨gb944, _, none⟩) NB943_944.out _).trans (((cell_far (p := ⟨gb944, _, none⟩) NB943_944.out _).trans (((cell_far (p := ⟨gb944, _, none⟩) NB943_944.out _).trans (((cell_far (p := ⟨gb944, _, none⟩) NB943_944.out _).trans (((cell_far (p := ⟨gb944, _, none⟩) NB943_944.out _).trans (hHeld.1)))))))))), ((cell_far (p := ⟨gb944, _, none⟩) NB943_944.out _).trans (((cell_far (p := ⟨gb944, _, none⟩) NB943_944.out _).trans (((cell_far (p := ⟨gb944, _, none⟩) NB943_944.out _).trans (((cell_far (p := ⟨gb944, _, none⟩) NB943_944.out _).trans (((cell_far (p := ⟨gb944, _, none⟩) NB943_944.out _).trans (hHeld.2.1)))))))))), ((cell_far (p := ⟨gb944, _, none⟩) NB943_944.out _).trans (((cell_far (p := ⟨gb944, _, none⟩) NB943_944.out _).trans (((cell_far (p := ⟨gb944, _, none⟩) NB943_944.out _).trans (((cell_far (p := ⟨gb944, _, none⟩) NB943_944.out _).trans (((cell_far (p := ⟨gb944, _, none⟩) NB943_944.out _).trans (hHeld.2.2.1)))))))))), ((cell_far (p := ⟨gb944, _, none⟩) NB943_944.out _).trans (((cell_far (p := ⟨gb944, _, none⟩) NB943_944.out _).trans (((cell_far (p := ⟨gb944, _, none⟩) NB943_944.out _).trans (((cell_far (p := ⟨gb944, _, none⟩) NB943_944.out _).trans (((cell_far (p := ⟨gb944, _, none⟩) NB943_944.out _).trans (hHeld.2.2.2.1)))))))))), ((cell_far (p := ⟨gb944, _, none⟩) NB943_944.out _).trans (((cell_far (p := ⟨gb944, _, none⟩) NB943_944.out _).trans (((cell_far (p := ⟨gb944, _, none⟩) NB943_944.out _).trans (((cell_far (p := ⟨gb944, _, none⟩) NB943_944.out _).trans (((cell_far (p := ⟨gb944, _, none⟩) NB943_944.out _).trans (hHeld.2.2.2.2))))))))))⟩ (fun hHeld => ?_)
  clear hK K
  refine done_ (done_of HT_.out (by kernel_rfl)) ?_
  try go_wp2
  refine bodyPost_ret (results_cell_row rfl _ _ gb944 39 #[.bool a0_0, .slice Ao10 t945.length co10, .bool t948, .slice Ao9 t949.length co9, .bool t952] (0, 0) _ rfl bz_ Tryd.underlying39 rfl (by kernel_rfl)) rfl ?_
  exact ⟨_, _, rt_, by (with_reducible repeat (first | apply Kd.R_alloc | apply Kd.R_drewN | apply Kd.R_drew)); exact Kd.R_mono (Kd.R_far (p := ⟨gb944, 4, none⟩) (Kd.R_far (p := ⟨gb944, 3, none⟩) (Kd.R_far (p := ⟨gb944, 2, none⟩) (Kd.R_far (p := ⟨gb944, 1, none⟩) (Kd.R_far (p := ⟨gb944, 0, none⟩) (Kd.R_types HO947.out BK944.out (by decide)) (fun _ hk => hk.2) (.bool a0_0)) (fun _ hk => hk.2) (.slice Ao10 t945.length co10)) (fun _ hk => hk.2) (.bool t948)) (fun _ hk => hk.2) (.slice Ao9 t949.length co9)) (fun _ hk => hk.2) (.bool t952)) (fun _ hk => hk.1.2), by (with_reducible repeat (first | apply Kd.R_alloc | apply Kd.R_drewN | apply Kd.R_drew)); exact Kd.R_mono (Kd.R_far (p := ⟨gb944, 4, none⟩) (Kd.R_far (p := ⟨gb944, 3, none⟩) (Kd.R_far (p := ⟨gb944, 2, none⟩) (Kd.R_far (p := ⟨gb944, 1, none⟩) (Kd.R_far (p := ⟨gb944, 0, none⟩) (Kd.R_types HO951.out BK944.out (by decide)) (fun _ hk => hk.2) (.bool a0_0)) (fun _ hk => hk.2) (.slice Ao10 t945.length co10)) (fun _ hk => hk.2) (.bool t948)) (fun _ hk => hk.2) (.slice Ao9 t949.length co9)) (fun _ hk => hk.2) (.bool t952)) (fun _ hk => hk.1.2), hb_⟩

end Go.Proofs.YthclkdplihchjaaDoor.P

-- Written by a program of this session (wip/gen.py) over the kit's print: each Go function as a plain Lean function, and the proof that the Go code comes to it. Nothing here is trusted: Lean checks it.
import Derived.Test.YthclkdplihchjaaDoorPx0
import Derived.Test.YthclkdplihchjaaDoorPx1
import Derived.Test.YthclkdplihchjaaDoorSq
namespace Go.Proofs.YthclkdplihchjaaDoor.P
open Go.RowKit Go.Proofs.YthclkdplihchjaaDoorW.PrintWords Go.Proofs.YthclkdplihchjaaDoorW.PrintLast Go.Proofs.YthclkdplihchjaaDoorW.PrintMore
attribute [local go_sem] str_gtr str_leq str_geq max2_int min2_int max_two min_two max_three min_three max_four min_four   -- for this text's walks alone
set_option linter.unusedVariables false
set_option linter.unusedSimpArgs false

/-! ### pattern_fits: function 38 -/
def pattern_fits.l0 : Nat → Bool → List ByteArray → Int → Int → List ByteArray → Bool → Option (Bool)
  | 0, _, _, _, _, _, _ => none
  | k + 1, x1, x10, x11, x12, x188000, x188001 => if x12 < x11 then (if 0 ≤ x12 then (if x12 < (x10.length : Int) then ((pattern_formOf.f k (rdOf ByteArray.empty x10 x12)).bind fun bt189 => (if bt189.1 = 0 then (some false) else (pattern_fits.l0 k x1 x10 x11 (wrap64 (x12 + 1)) x188000 x188001))) else (none)) else (none)) else (if x1 = true then (if x188001 = true then (some true) else (some (decide ((x188000.length : Int) > 0)))) else (if (x188000.length : Int) = 1 then (some (!x188001)) else (some false)))
def pattern_fits.f (k : Nat) (l0_0 : List ByteArray) (a0_1 : Bool) (a1 : Bool) : Option (Bool) := pattern_fits.l0 k a1 l0_0 (l0_0.length : Int) 0 l0_0 a0_1
set_option maxHeartbeats 8000000 in
set_option maxRecDepth 100000 in
theorem pattern_fits.calls (k : Nat) (A0_0 : Option Addr) (c0_0 : Nat) (l0_0 : List ByteArray) (a0_1 : Bool) (a1 : Bool) (r : Bool) (w : World) (hr0_0 : Kd.C Kd.string w A0_0 l0_0.length l0_0) (hc0_0 : l0_0.length ≤ c0_0) (h : pattern_fits.f k l0_0 a0_1 a1 = some r) :
  Calls Tryd.prog 38 #[.agg #[.slice A0_0 l0_0.length c0_0, .bool a0_1], .bool a1] w fun e w' => e = .returned (.bool r) ∧ Below w.heap.size w w' := by
 have hu28 := Tryd.underlying28
 have HR0_0 := Aside0.mk hr0_0
 have HC0_0 := Aside0.mk hc0_0
 clear hr0_0 hc0_0
 have HB := Aside0.mk (Below.refl w.heap.size w)
 have H : (pattern_fits.l0 k a1 l0_0 (l0_0.length : Int) 0 l0_0 a0_1) = some r := h
 clear h
 have H' := Aside0.mk H
 clear H
 go_enter Tryd.func38, Tryd.ntmps38
 go_wp2_with (first | ((with_reducible refine gate_dst (N := 2) rfl ?_); (try (refine gate_guard (by rfl) ?_; dsimp only)); refine box_event ?hg (N := 2) ?hd (cs := #[.slice A0_0 l0_0.length c0_0, .bool a0_1]) (t := 28) ?hr ?_; (case hd => rfl); (case hg => rfl); (case hr => first | (go_simp; done) | (go_simp; rfl)); intro gb187 hg w3 hbox hb; have BK187 := Aside0.mk hbox; have GW187 := gw_ HB hg; have GE187 := gw_ HB hg; replace HB := hs_ HB hb; clear hb hbox hg; obtain ⟨hcz4_0, hcz4_1, hfz4_0, hfz4_1⟩ := c2_ BK187))
 go_loopg [12] k (fun kq v12 w' => ∃ (x12_1 : Int), v12 = .int .i64 x12_1 ∧ Aside0 (pattern_fits.l0 kq a1 l0_0 (l0_0.length : Int) x12_1 l0_0 a0_1 = some r) ∧ Aside0 (kq ≤ k) ∧ Aside0 (w'.heap[gb187]? = some (.cells #[(.slice A0_0 l0_0.length c0_0), .bool a0_1] 28 (0, 0))) ∧ Aside0 (Below w.heap.size w w'))
 case atStart => exact ⟨(0), rs_, H', ⟨Nat.le_refl _⟩, ⟨bk_⟩, ⟨hb_⟩⟩
 case round =>
  clear H'
  (try clear hcz4_0); (try clear hcz4_1); (try clear hfz4_0); (try clear hfz4_1)
  obtain ⟨x12_1, rfl, HA, HK1, BK187, HB⟩ := hrel
  cases gk with
  | zero => exact absurd HA.out (by simp [pattern_fits.l0])
  | succ k1 =>
   have H := HA.out
   clear HA
   simp only [pattern_fits.l0] at H
   by_cases c5 : x12_1 < (l0_0.length : Int)
   ·rw [if_pos c5] at H
    have c5b0 := decide_eq_true c5
    clear c5
    by_cases c6 : 0 ≤ x12_1
    ·rw [if_pos c6] at H
     have c6b0 := decide_eq_true c6
     clear c6
     by_cases c7 : x12_1 < (l0_0.length : Int)
     ·rw [if_pos c7] at H
      have c7b0 := decide_eq_true c7
      clear c7
      replace H := Option.bind_eq_some_iff.mp H
      obtain ⟨⟨t189, t190⟩, A80, H⟩ := H
      replace H : (if t189 = 0 then (some false) else (pattern_fits.l0 k1 a1 l0_0 (l0_0.length : Int) (wrap64 (x12_1 + 1)) l0_0 a0_1)) = some r := H
      have A8 := Aside0.mk A80
      clear A80
      by_cases c9 : t189 = 0
      ·rw [if_pos c9] at H
       have c9b0 := beq_iff_eq.mpr c9
       have c9b1 := bne_eq_false_iff_eq.mpr c9
       clear c9
       obtain rfl := Option.some.inj H
       have p188 : 0 ≤ (x12_1 : Int) := of_decide_eq_true as_
       have q188 : x12_1 < (l0_0.length : Int) := of_decide_eq_true as_
       obtain ⟨ad188, e188, hx188_0⟩ := Kd.at_string HR0_0.out x12_1 p188 q188
       cases e188
       replace hx188_0 := (HB.out.cell (World.block_lt_of_cell? w _ hx188_0)).trans hx188_0
       replace p188 := eq_true p188
       replace q188 := eq_true q188
       go_wp2_with (first | ((with_reducible refine gate_callee (f := 39) rfl ?_); refine goesL_ (some 18) rfl rfl Tryd.func39 (by kernel_rfl) rfl #[.string (rdOf ByteArray.empty l0_0 x12_1)] rfl gl_ ?_; (with_reducible refine (pattern_formOf.calls k1 (rdOf ByteArray.empty l0_0 x12_1) t189 t190 _ A8.out).mono ?_); rintro e w' ⟨rfl, ⟨nd, rfl⟩⟩; refine ⟨_, rfl, ?_⟩))
       go_ret
       exact ⟨rt_, hb_⟩
      ·rw [if_neg c9] at H
       have c9b0 := beq_eq_false_iff_ne.mpr c9
       have c9b1 := bne_iff_ne.mpr c9
       have H' := Aside0.mk H
       clear H
       have p188 : 0 ≤ (x12_1 : Int) := of_decide_eq_true as_
       have q188 : x12_1 < (l0_0.length : Int) := of_decide_eq_true as_
       obtain ⟨ad188, e188, hx188_0⟩ := Kd.at_string HR0_0.out x12_1 p188 q188
       cases e188
       replace hx188_0 := (HB.out.cell (World.block_lt_of_cell? w _ hx188_0)).trans hx188_0
       replace p188 := eq_true p188
       replace q188 := eq_true q188
       go_wp2_with (first | ((with_reducible refine gate_callee (f := 39) rfl ?_); refine goesL_ (some 18) rfl rfl Tryd.func39 (by kernel_rfl) rfl #[.string (rdOf ByteArray.empty l0_0 x12_1)] rfl gl_ ?_; (with_reducible refine (pattern_formOf.calls k1 (rdOf ByteArray.empty l0_0 x12_1) t189 t190 _ A8.out).mono ?_); rintro e w' ⟨rfl, ⟨nd, rfl⟩⟩; refine ⟨_, rfl, ?_⟩))
       go_roundg k1
       case measure => have := HK1.out; omega
       case rel => exact ⟨(wrap64 (x12_1 + 1)), rs_, H', ⟨by have := HK1.out; omega⟩, ⟨bk_⟩, ⟨hb_⟩⟩
     ·rw [if_neg c7] at H
      exact absurd H (by simp)
    ·rw [if_neg c6] at H
     exact absurd H (by simp)
   ·rw [if_neg c5] at H
    have c5b0 := decide_eq_false c5
    clear c5
    by_cases c10 : a1 = true
    ·subst c10
     replace H := ip_ H
     by_cases c11 : a0_1 = true
     ·subst c11
      replace H := ip_ H
      obtain rfl := Option.some.inj H
      obtain ⟨hcz12_0, hcz12_1, hfz12_0, hfz12_1⟩ := c2_ BK187
      go_wp2
      go_ret
      exact ⟨rt_, hb_⟩
     ·replace c11 := Bool.eq_false_iff.mpr c11
      subst c11
      replace H := in_ H
      obtain rfl := Option.some.inj H
      obtain ⟨hcz13_0, hcz13_1, hfz13_0, hfz13_1⟩ := c2_ BK187
      go_wp2
      go_ret
      exact ⟨rt_, hb_⟩
    ·replace c10 := Bool.eq_false_iff.mpr c10
     subst c10
     replace H := in_ H
     by_cases c14 : (l0_0.length : Int) = 1
     ·rw [if_pos c14] at H
      have c14b0 := beq_iff_eq.mpr c14
      have c14b1 := bne_eq_false_iff_eq.mpr c14
      clear c14
      obtain rfl := Option.some.inj H
      obtain ⟨hcz15_0, hcz15_1, hfz15_0, hfz15_1⟩ := c2_ BK187
      go_wp2
      go_ret
      exact ⟨rt_, hb_⟩
     ·rw [if_neg c14] at H
      have c14b0 := beq_eq_false_iff_ne.mpr c14
      have c14b1 := bne_iff_ne.mpr c14
      obtain rfl := Option.some.inj H
      obtain ⟨hcz16_0, hcz16_1, hfz16_0, hfz16_1⟩ := c2_ BK187
      go_wp2
      go_ret
      exact ⟨rt_, hb_⟩

/-! ### pattern_Substitute: function 15 -/
mutual
def pattern_Substitute.j0 : Nat → List (S28) → Int → Bool → Int → List ByteArray → Bool → Option (List ByteArray × Bool × Int)
  | 0, _, _, _, _, _, _ => none
  | k + 1, x1, x6, x7, x9, x192000, x192001 => if (x1.length : Int) = x9 then (pattern_Substitute.l0 k x1 x6 x7 x1 (x1.length : Int) 0 x192000 x192001) else (some (([] : List ByteArray), false, 33))
def pattern_Substitute.l0 : Nat → List (S28) → Int → Bool → List (S28) → Int → Int → List ByteArray → Bool → Option (List ByteArray × Bool × Int)
  | 0, _, _, _, _, _, _, _, _ => none
  | k + 1, x1, x6, x7, x36, x37, x38, x192000, x192001 => if x38 < x37 then (if 0 ≤ x38 then (if x38 < (x36.length : Int) then ((pattern_fits.f k ((rd_T28 x36 x38).f0) ((rd_T28 x36 x38).f1) (x38 == x6)).bind fun t198 => (if t198 = true then (pattern_Substitute.l0 k x1 x6 x7 x36 x37 (wrap64 (x38 + 1)) x192000 x192001) else (some (([] : List ByteArray), false, 33)))) else (none)) else (none)) else (pattern_Substitute.l1 k x1 x7 x192000 (x192000.length : Int) 0 ([] : List ByteArray) false)
def pattern_Substitute.l1 : Nat → List (S28) → Bool → List ByteArray → Int → Int → List ByteArray → Bool → Option (List ByteArray × Bool × Int)
  | 0, _, _, _, _, _, _, _ => none
  | k + 1, x1, x7, x52, x53, x54, x200000, x200001 => if x54 < x53 then (if 0 ≤ x54 then (if x54 < (x52.length : Int) then ((pattern_formOf.f k (rdOf ByteArray.empty x52 x54)).bind fun bt201 => (if bt201.1 = 2 then (if 0 < (x1.length : Int) then (if 0 < (((rd_T28 x1 0).f0).length : Int) then (if (rdOf ByteArray.empty ((rd_T28 x1 0).f0) 0).size + bt201.2.size ≤ 9223372036854775807 then (if 1 ≤ (x1.length : Int) then (if x200000.length < 8796093022208 then (pattern_Substitute.l1 k (x1.drop 1) x7 x52 x53 (wrap64 (x54 + 1)) (x200000 ++ [(rdOf ByteArray.empty ((rd_T28 x1 0).f0) 0) ++ bt201.2]) x200001) else (none)) else (none)) else (none)) else (none)) else (none)) else (if x200000.length < 8796093022208 then (pattern_Substitute.l1 k x1 x7 x52 x53 (wrap64 (x54 + 1)) (x200000 ++ [rdOf ByteArray.empty x52 x54]) x200001) else (none)))) else (none)) else (none)) else (if x7 = true then (if 0 < (x1.length : Int) then (if x200000.length + ((rd_T28 x1 0).f0).length < 8796093022208 then ((some (x200000 ++ ((rd_T28 x1 0).f0) : List ByteArray)).bind fun y217 => (if (y217.length : Int) > 12 then (some (([] : List ByteArray), false, 31)) else (some (y217, (rd_T28 x1 0).f1, 0)))) else (none)) else (none)) else (if (x200000.length : Int) > 12 then (some (([] : List ByteArray), false, 31)) else (some (x200000, x200001, 0))))
end
def pattern_Substitute.f (k : Nat) (l0_0 : List ByteArray) (a0_1 : Bool) (l1 : List (S28)) : Option (List ByteArray × Bool × Int) := (pattern_Kinds.f k l0_0 a0_1).bind fun bt193 => (if bt193.2.2 = 0 then (if bt193.2.1 = true then (pattern_Substitute.j0 k l1 bt193.1 bt193.2.1 (wrap64 (bt193.1 + 1)) l0_0 a0_1) else (pattern_Substitute.j0 k l1 bt193.1 bt193.2.1 bt193.1 l0_0 a0_1)) else (some (([] : List ByteArray), false, bt193.2.2)))
def pattern_Substitute.T21 : Bool × List (List Nat × List Nat) := (true, [([], []), ([0], [0]), ([1], [1]), ([2], [2]), ([3], [3]), ([4], [4]), ([], []), ([5, 6], [5, 6]), ([], []), ([8], [8]), ([7, 0, 1, 2, 3, 4, 5, 6, 7], [7]), ([9, 10, 0, 1, 2, 3, 4, 5, 6, 7, 8, 9, 10], [0, 8, 9])])
def pattern_Substitute.B21 : List Nat := [0, 1, 3, 7, 15, 31, 0, 127, 0, 256, 255, 2047]
theorem pattern_Substitute.tab21 : rtab .any (opsOf Tryd.f15 21) = pattern_Substitute.T21 := by kernel_rfl
theorem pattern_Substitute.bits21 : waitsOk pattern_Substitute.T21.2 pattern_Substitute.B21 = true := by kernel_rfl
def pattern_Substitute.T25 : Bool × List (List Nat × List Nat) := (true, [([], []), ([0], [0]), ([], []), ([2], [2]), ([3], [3]), ([4], [4]), ([1, 5], [1, 5]), ([], []), ([7], [7]), ([8], [8]), ([9], [9]), ([0, 1, 2, 3, 4, 5, 6], []), ([11, 6, 6, 0, 1, 2, 3, 4, 5, 6], [6, 11]), ([0, 1, 2, 3, 4, 5, 6, 7, 8, 9, 10, 11, 12], []), ([13, 10, 12, 0, 1, 2, 3, 4, 5, 6, 7, 8, 9, 10, 11, 12], [10, 13])])
def pattern_Substitute.B25 : List Nat := [0, 1, 0, 4, 12, 28, 63, 0, 128, 384, 896, 127, 2175, 8191, 16383]
theorem pattern_Substitute.tab25 : rtab .any (opsOf Tryd.f15 25) = pattern_Substitute.T25 := by kernel_rfl
theorem pattern_Substitute.bits25 : waitsOk pattern_Substitute.T25.2 pattern_Substitute.B25 = true := by kernel_rfl
set_option maxHeartbeats 8000000 in
set_option maxRecDepth 100000 in
theorem pattern_Substitute.calls (k : Nat) (A0_0 : Option Addr) (c0_0 : Nat) (l0_0 : List ByteArray) (a0_1 : Bool) (P1_ : Nat → Prop) (A1 : Option Addr) (c1 : Nat) (l1 : List (S28)) (r1 : List ByteArray) (r2 : Bool) (r3 : Int) (w : World) (hr0_0 : Kd.C Kd.string w A0_0 l0_0.length l0_0) (hc0_0 : l0_0.length ≤ c0_0) (hs1 : Kd.V k28 28 w w.heap.size (fun k_ => P1_ k_) (.slice A1 l1.length c1) l1) (h : pattern_Substitute.f k l0_0 a0_1 l1 = some (r1, r2, r3)) :
  Calls Tryd.prog 15 #[.agg #[.slice A0_0 l0_0.length c0_0, .bool a0_1], .slice A1 l1.length c1] w fun e w' => ∃ v0_ : Value, e = .returned (.tuple #[.agg #[v0_, .bool r2], .int .i64 r3]) ∧ Kd.R Kd.string 9 w' w.heap.size (fun k_ => (w.heap.size ≤ k_)) v0_ r1 ∧ Below w.heap.size w w' := by
 have hu24 := Tryd.underlying24
 have hu28 := Tryd.underlying28
 have HR0_0 := Aside0.mk hr0_0
 have HC0_0 := Aside0.mk hc0_0
 clear hr0_0 hc0_0
 have HO1 := Aside0.mk (show Kd.V k28 28 w w.heap.size (fun k_ => (P1_ k_ ∨ w.heap.size ≤ k_)) (.slice A1 l1.length c1) l1 from Kd.V_mono hs1 (fun k_ hk => .inl hk))
 have HB := Aside0.mk (Below.refl w.heap.size w)
 have H : ((pattern_Kinds.f k l0_0 a0_1).bind fun bt193 => (if bt193.2.2 = 0 then (if bt193.2.1 = true then (pattern_Substitute.j0 k l1 bt193.1 bt193.2.1 (wrap64 (bt193.1 + 1)) l0_0 a0_1) else (pattern_Substitute.j0 k l1 bt193.1 bt193.2.1 bt193.1 l0_0 a0_1)) else (some (([] : List ByteArray), false, bt193.2.2)))) = some (r1, r2, r3) := h
 clear h
 replace H := Option.bind_eq_some_iff.mp H
 obtain ⟨⟨t193, t194, t195⟩, A30, H⟩ := H
 replace H : (if t195 = 0 then (if t194 = true then (pattern_Substitute.j0 k l1 t193 t194 (wrap64 (t193 + 1)) l0_0 a0_1) else (pattern_Substitute.j0 k l1 t193 t194 t193 l0_0 a0_1)) else (some (([] : List ByteArray), false, t195))) = some (r1, r2, r3) := H
 have A3 := Aside0.mk A30
 clear A30
 by_cases c4 : t195 = 0
 ·rw [if_pos c4] at H
  have c4b0 := beq_iff_eq.mpr c4
  have c4b1 := bne_eq_false_iff_eq.mpr c4
  clear c4
  have HC5 := Aside0.mk H
  clear H
  go_enter Tryd.func15, Tryd.ntmps15
  go_upto_if 28 with (first | ((with_reducible refine gate_dst (N := 2) rfl ?_); refine box_event ?hg (N := 2) ?hd (cs := #[.slice A0_0 l0_0.length c0_0, .bool a0_1]) (t := 24) ?hr ?_; (case hd => rfl); (case hg => rfl); (case hr => first | (go_simp; done) | (go_simp; rfl)); intro gb191 hg w6 hbox hb; have n0_ := Aside0.mk (Kd.V_below (Kd.V_elderB (by (with_reducible repeat (first | apply Kd.V_alloc | apply Kd.V_drewN | apply Kd.V_drew)); exact HO1.out) gb191 (Nat.le_of_eq hg.symm)) hb); have BK191 := Aside0.mk hbox; have GW191 := gw_ HB hg; have GE191 := gw_ HB hg; replace HB := hs_ HB hb; clear HO1; have HO1 := n0_; clear n0_; clear hb hbox hg) | ((with_reducible refine gate_dst (N := 4) rfl ?_); refine box_event ?hg (N := 4) ?hd (cs := #[.slice none 0 0, .bool false]) (t := 24) ?hr ?_; (case hd => rfl); (case hg => rfl); (case hr => first | (go_simp; done) | (go_simp; rfl)); intro gb192 hg w7 hbox hb; have n0_ := Aside0.mk (Kd.V_below (Kd.V_elderB (by (with_reducible repeat (first | apply Kd.V_alloc | apply Kd.V_drewN | apply Kd.V_drew)); exact HO1.out) gb192 (Nat.le_of_eq hg.symm)) hb); have BK192 := Aside0.mk hbox; have GW192 := gw_ HB hg; have GE192 := gw_ HB hg; have NB191_192 := nl_ BK191 hg; have NB192_191 := nr_ BK191 hg; replace BK191 := bb_ BK191 hb; replace HB := hs_ HB hb; clear HO1; have HO1 := n0_; clear n0_; clear hb hbox hg; have hnb8 := NB191_192.out; have hnc8 := NB192_191.out; obtain ⟨hcz9_0, hcz9_1, hfz9_0, hfz9_1⟩ := c2_ BK191) | ((with_reducible refine gate_callee (f := 37) rfl ?_); refine goesL_ (some 19) rfl rfl Tryd.func37 (by kernel_rfl) rfl #[.agg #[.slice A0_0 l0_0.length c0_0, .bool a0_1]] rfl gl_ ?_; (with_reducible refine (pattern_Kinds.calls k _ _ l0_0 a0_1 t193 t194 t195 _ ?side1 ?side2 A3.out).mono ?_); (case side1 => exact sd_); (case side2 => exact HC0_0.out); rintro e w10 ⟨rfl, hb⟩; refine ⟨_, rfl, ?_⟩; have n0_ := Aside0.mk (Kd.V_below (by (with_reducible repeat (first | apply Kd.V_alloc | apply Kd.V_drewN | apply Kd.V_drew)); exact HO1.out) hb); replace BK191 := bb_ BK191 hb; replace BK192 := bb_ BK192 hb; replace HB := hs_ HB hb; clear HO1; have HO1 := n0_; clear n0_; (try clear hb)))
  (try simp only [Act.put, List.setIfInBounds_toArray, List.set_cons_zero, List.set_cons_succ])
  go_cut [9] (fun v9 wc => ∃ (kq : Nat) (x9_4 : Int), v9 = .int .i64 x9_4 ∧ Aside0 (pattern_Substitute.j0 kq l1 t193 t194 x9_4 l0_0 a0_1 = some (r1, r2, r3)) ∧ Aside0 (kq ≤ k) ∧ Aside0 (Kd.V k28 28 wc w.heap.size (fun k_ => (P1_ k_ ∨ w.heap.size ≤ k_) ∧ k_ ≠ gb191 ∧ k_ ≠ gb192) (.slice A1 l1.length c1) l1) ∧ Aside0 (wc.heap[gb191]? = some (.cells #[(.slice A0_0 l0_0.length c0_0), .bool a0_1] 24 (0, 0))) ∧ Aside0 (wc.heap[gb192]? = some (.cells #[(.slice none 0 0), .bool false] 24 (0, 0))) ∧ Aside0 (Below w.heap.size w wc))
  case first =>
   have H := HC5.out
   clear HC5
   by_cases c11 : t194 = true
   ·subst c11
    replace H := ip_ H
    have H' := Aside0.mk H
    clear H
    go_wp2
    go_meet
    case rel => exact ⟨_, (wrap64 (t193 + 1)), rs_, H', ⟨om_⟩, ⟨by (with_reducible repeat (first | apply Kd.V_alloc | apply Kd.V_drewN | apply Kd.V_drew)); exact Kd.V_mono HO1.out (fun _ hk => ⟨hk.1.1, ⟨hk.1.2, hk.2⟩⟩)⟩, ⟨bk_⟩, ⟨bk_⟩, ⟨hb_⟩⟩
   ·replace c11 := Bool.eq_false_iff.mpr c11
    subst c11
    replace H := in_ H
    have H' := Aside0.mk H
    clear H
    go_wp2
    go_meet
    case rel => exact ⟨_, (t193), rs_, H', ⟨om_⟩, ⟨by (with_reducible repeat (first | apply Kd.V_alloc | apply Kd.V_drewN | apply Kd.V_drew)); exact Kd.V_mono HO1.out (fun _ hk => ⟨hk.1.1, ⟨hk.1.2, hk.2⟩⟩)⟩, ⟨bk_⟩, ⟨bk_⟩, ⟨hb_⟩⟩
  case rest =>
   clear HC5; (try clear c1); (try clear c4); (try clear c4b0); (try clear c4b1); (try clear hcz9_0); (try clear hcz9_1); (try clear hfz9_0); (try clear hfz9_1)
   obtain ⟨kq, x9_4, rfl, HA, HJ4, HO_1, BK191, BK192, HB⟩ := hcut
   cases kq with
   | zero => exact absurd HA.out (by simp [pattern_Substitute.j0])
   | succ kj4 =>
    have H := HA.out
    clear HA
    simp only [pattern_Substitute.j0] at H
    by_cases c12 : (l1.length : Int) = x9_4
    ·rw [if_pos c12] at H
     have c12b0 := beq_iff_eq.mpr c12
     have c12b1 := bne_eq_false_iff_eq.mpr c12
     clear c12
     have H' := Aside0.mk H
     clear H
     go_wp2
     go_loopg [38] kj4 (fun kq v38 w' => ∃ (x38_2 : Int) (x193001_2 : Bool), v38 = .int .i64 x38_2 ∧ Aside0 (pattern_Substitute.l0 kq l1 t193 t194 l1 (l1.length : Int) x38_2 l0_0 a0_1 = some (r1, r2, r3)) ∧ Aside0 (kq ≤ kj4) ∧ Aside0 (Kd.V k28 28 w' w.heap.size (fun k_ => (P1_ k_ ∨ w.heap.size ≤ k_) ∧ k_ ≠ gb191 ∧ k_ ≠ gb192) (.slice A1 l1.length c1) l1) ∧ Aside0 (Kd.V k28 28 w' w.heap.size (fun k_ => (P1_ k_ ∨ w.heap.size ≤ k_) ∧ k_ ≠ gb191 ∧ k_ ≠ gb192) (.slice A1 l1.length c1) l1) ∧ Aside0 (w'.heap[gb191]? = some (.cells #[(.slice A0_0 l0_0.length c0_0), .bool a0_1] 24 (0, 0))) ∧ Aside0 (w'.heap[gb192]? = some (.cells #[(.slice none 0 0), .bool x193001_2] 24 (0, 0))) ∧ Aside0 (Below w.heap.size w w'))
     case atStart => exact ⟨(0), (false), rs_, H', ⟨Nat.le_refl _⟩, ⟨by (with_reducible repeat (first | apply Kd.V_alloc | apply Kd.V_drewN | apply Kd.V_drew)); exact HO_1.out⟩, ⟨by (with_reducible repeat (first | apply Kd.V_alloc | apply Kd.V_drewN | apply Kd.V_drew)); exact HO_1.out⟩, ⟨bk_⟩, ⟨bk_⟩, ⟨hb_⟩⟩
     case round =>
      clear H'
      (try clear c1); (try clear c4); (try clear c4b0); (try clear c4b1); (try clear c12); (try clear c12b0); (try clear c12b1); (try clear hcz9_0); (try clear hcz9_1); (try clear hfz9_0); (try clear hfz9_1)
      obtain ⟨x38_2, x193001_2, rfl, HA, HK2, HO_1, HO_36, BK191, BK192, HB⟩ := hrel
      cases gk with
      | zero => exact absurd HA.out (by simp [pattern_Substitute.l0])
      | succ k2 =>
       have H := HA.out
       clear HA
       simp only [pattern_Substitute.l0] at H
       by_cases c13 : x38_2 < (l1.length : Int)
       ·rw [if_pos c13] at H
        have c13b0 := decide_eq_true c13
        clear c13
        by_cases c14 : 0 ≤ x38_2
        ·rw [if_pos c14] at H
         have c14b0 := decide_eq_true c14
         clear c14
         by_cases c15 : x38_2 < (l1.length : Int)
         ·rw [if_pos c15] at H
          have c15b0 := decide_eq_true c15
          clear c15
          replace H := Option.bind_eq_some_iff.mp H
          obtain ⟨t198, A160, H⟩ := H
          replace H : (if t198 = true then (pattern_Substitute.l0 k2 l1 t193 t194 l1 (l1.length : Int) (wrap64 (x38_2 + 1)) l0_0 a0_1) else (some (([] : List ByteArray), false, 33))) = some (r1, r2, r3) := H
          have A16 := Aside0.mk A160
          clear A160
          by_cases c17 : t198 = true
          ·subst c17
           replace H := ip_ H
           have H' := Aside0.mk H
           clear H
           have p196 : 0 ≤ (x38_2 : Int) := of_decide_eq_true as_
           have q196 : x38_2 < (l1.length : Int) := of_decide_eq_true as_
           obtain ⟨ad196, A196_0, c196_0, e196, hx196_0, hx196_1, hl196_0, hi196_0⟩ := at_T28 (Kd.V_reads' HO_36.out).2.2 x38_2 p196 q196
           cases e196
           obtain ⟨ce196, hce196, hMe196, hcc196⟩ := Kd.V_get HO_36.out z28 x38_2 p196 (by first | exact q196 | exact of_decide_eq_true as_ | (have e_ := (Kd.V_reads' HO_36.out).1; omega))
           obtain ⟨ua196_0, uc196_0, rfl, ul196_0, ge196_0⟩ := k28_openF hMe196
           have hv196_0 := hcc196 0 _ rfl
           rw [Nat.add_zero] at hv196_0
           replace hv196_0 := Option.some.inj (hv196_0.symm.trans hx196_0)
           injection hv196_0 with hva_ hvn_ hvc_
           rw [hva_] at ge196_0
           rw [hvc_] at ul196_0
           have HL196_0 := Aside0.mk (show Kd.V Kd.string 9 _ w.heap.size _ _ ((rd_T28 l1 x38_2).f0) from Kd.V_mk ul196_0 ge196_0)
           clear hva_ hvn_ hvc_ ge196_0 ul196_0
           clear hcc196 hce196
           have HR196_0 := Aside0.mk hi196_0
           have HC196_0 := Aside0.mk hl196_0
           clear hi196_0 hl196_0
           replace p196 := eq_true p196
           replace q196 := eq_true q196
           go_wp2_with (first | ((with_reducible refine gate_dst (N := 11) rfl ?_); refine box_event ?hg (N := 11) ?hd (cs := #[.slice none 0 0, .bool false]) (t := 28) ?hr ?_; (case hd => rfl); (case hg => rfl); (case hr => first | (go_simp; done) | (go_simp; rfl)); intro gb197 hg w18 hbox hb; have n0_ := Aside0.mk (Kd.V_below (Kd.V_elderB (by (with_reducible repeat (first | apply Kd.V_alloc | apply Kd.V_drewN | apply Kd.V_drew)); exact HO_1.out) gb197 (Nat.le_of_eq hg.symm)) hb); have n1_ := Aside0.mk (Kd.V_below (Kd.V_elderB (by (with_reducible repeat (first | apply Kd.V_alloc | apply Kd.V_drewN | apply Kd.V_drew)); exact HO_36.out) gb197 (Nat.le_of_eq hg.symm)) hb); have n2_ := Aside0.mk (Kd.V_below (Kd.V_elderB (by (with_reducible repeat (first | apply Kd.V_alloc | apply Kd.V_drewN | apply Kd.V_drew)); exact HL196_0.out) gb197 (Nat.le_of_eq hg.symm)) hb); have n5_ := Aside0.mk (Kd.C_below (by repeat (first | (with_reducible exact HR196_0.out) | (with_reducible refine Kd.C_alloc ?_ _) | (with_reducible refine Kd.C_drewN ?_ _) | (with_reducible refine Kd.C_drew ?_) | exact HR196_0.out)) hb); have BK197 := Aside0.mk hbox; have GW197 := gw_ HB hg; have GE197 := gw_ HB hg; have NB191_197 := nl_ BK191 hg; have NB197_191 := nr_ BK191 hg; have NB192_197 := nl_ BK192 hg; have NB197_192 := nr_ BK192 hg; replace BK191 := bb_ BK191 hb; replace BK192 := bb_ BK192 hb; replace HB := hs_ HB hb; clear HO_1 HO_36 HL196_0 HR196_0; have HO_1 := n0_; have HO_36 := n1_; have HL196_0 := n2_; have HR196_0 := n5_; clear n0_ n1_ n2_ n5_; clear hb hbox hg; have hnb19 := NB197_191.out; have hnc19 := NB191_197.out; have hnb20 := NB197_192.out; have hnc20 := NB192_197.out; obtain ⟨hcz21_0, hcz21_1, hfz21_0, hfz21_1⟩ := c2_ BK197) | ((with_reducible refine gate_callee (f := 38) rfl ?_); refine goesL_ (some 47) rfl rfl Tryd.func38 (by kernel_rfl) rfl #[.agg #[.slice A196_0 ((rd_T28 l1 x38_2).f0).length c196_0, .bool ((rd_T28 l1 x38_2).f1)], .bool (x38_2 == t193)] rfl gl_ ?_; (with_reducible refine (pattern_fits.calls k2 _ _ ((rd_T28 l1 x38_2).f0) ((rd_T28 l1 x38_2).f1) (x38_2 == t193) true _ ?side1 ?side2 A16.out).mono ?_); (case side1 => repeat (first | exact ((Kd.V_reads' (by (with_reducible repeat (first | apply Kd.V_alloc | apply Kd.V_drewN | apply Kd.V_drew)); exact (Kd.V_mono (Kd.V_far (p := ⟨gb197, 1, none⟩) (Kd.V_far (p := ⟨gb197, 0, none⟩) (Kd.V_mono HL196_0.out (fun k_ hk => (⟨hk, hk.2⟩ : _ ∧ k_ ≠ gb197))) (fun _ hk => hk.2) (.slice A196_0 ((rd_T28 l1 x38_2).f0).length c196_0)) (fun _ hk => hk.2) (.bool ((rd_T28 l1 x38_2).f1))) (fun _ h_ => h_.1)))).2.2) | (with_reducible refine Kd.C_alloc ?_ _) | (with_reducible refine Kd.C_drewN ?_ _) | (with_reducible refine Kd.C_drew ?_))); (case side2 => exact HC196_0.out); rintro e w22 ⟨rfl, hb⟩; refine ⟨_, rfl, ?_⟩; have n0_ := Aside0.mk (Kd.V_below (by (with_reducible repeat (first | apply Kd.V_alloc | apply Kd.V_drewN | apply Kd.V_drew)); exact (Kd.V_mono (Kd.V_far (p := ⟨gb197, 1, none⟩) (Kd.V_far (p := ⟨gb197, 0, none⟩) (Kd.V_mono HO_1.out (fun k_ hk => (⟨hk, hk.2⟩ : _ ∧ k_ ≠ gb197))) (fun _ hk => hk.2) (.slice A196_0 ((rd_T28 l1 x38_2).f0).length c196_0)) (fun _ hk => hk.2) (.bool ((rd_T28 l1 x38_2).f1))) (fun _ h_ => h_.1))) hb); have n1_ := Aside0.mk (Kd.V_below (by (with_reducible repeat (first | apply Kd.V_alloc | apply Kd.V_drewN | apply Kd.V_drew)); exact (Kd.V_mono (Kd.V_far (p := ⟨gb197, 1, none⟩) (Kd.V_far (p := ⟨gb197, 0, none⟩) (Kd.V_mono HO_36.out (fun k_ hk => (⟨hk, hk.2⟩ : _ ∧ k_ ≠ gb197))) (fun _ hk => hk.2) (.slice A196_0 ((rd_T28 l1 x38_2).f0).length c196_0)) (fun _ hk => hk.2) (.bool ((rd_T28 l1 x38_2).f1))) (fun _ h_ => h_.1))) hb); have n2_ := Aside0.mk (Kd.V_below (by (with_reducible repeat (first | apply Kd.V_alloc | apply Kd.V_drewN | apply Kd.V_drew)); exact (Kd.V_mono (Kd.V_far (p := ⟨gb197, 1, none⟩) (Kd.V_far (p := ⟨gb197, 0, none⟩) (Kd.V_mono HL196_0.out (fun k_ hk => (⟨hk, hk.2⟩ : _ ∧ k_ ≠ gb197))) (fun _ hk => hk.2) (.slice A196_0 ((rd_T28 l1 x38_2).f0).length c196_0)) (fun _ hk => hk.2) (.bool ((rd_T28 l1 x38_2).f1))) (fun _ h_ => h_.1))) hb); have n5_ := Aside0.mk (Kd.C_below ((Kd.V_reads' (by (with_reducible repeat (first | apply Kd.V_alloc | apply Kd.V_drewN | apply Kd.V_drew)); exact (Kd.V_mono (Kd.V_far (p := ⟨gb197, 1, none⟩) (Kd.V_far (p := ⟨gb197, 0, none⟩) (Kd.V_mono HL196_0.out (fun k_ hk => (⟨hk, hk.2⟩ : _ ∧ k_ ≠ gb197))) (fun _ hk => hk.2) (.slice A196_0 ((rd_T28 l1 x38_2).f0).length c196_0)) (fun _ hk => hk.2) (.bool ((rd_T28 l1 x38_2).f1))) (fun _ h_ => h_.1)))).2.2) hb); have n6_ := Aside0.mk (blk_below (g := gb197) (o := .cells #[.slice A196_0 ((rd_T28 l1 x38_2).f0).length c196_0, .bool ((rd_T28 l1 x38_2).f1)] 28 (0, 0)) bz_ hb); replace BK191 := bb_ BK191 hb; replace BK192 := bb_ BK192 hb; replace HB := hs_ HB hb; clear HO_1 HO_36 HL196_0 HR196_0 BK197; have HO_1 := n0_; have HO_36 := n1_; have HL196_0 := n2_; have HR196_0 := n5_; have BK197 := n6_; clear n0_ n1_ n2_ n5_ n6_; (try clear hb)))
           go_roundg k2
           case measure => have := HJ4.out; have := HK2.out; omega
           case rel => exact ⟨(wrap64 (x38_2 + 1)), (x193001_2), rs_, H', ⟨by have := HJ4.out; have := HK2.out; omega⟩, ⟨by (with_reducible repeat (first | apply Kd.V_alloc | apply Kd.V_drewN | apply Kd.V_drew)); exact Kd.V_mono HO_1.out (fun _ hk => ⟨hk.1.1, ⟨hk.1.2.1, hk.1.2.2⟩⟩)⟩, ⟨by (with_reducible repeat (first | apply Kd.V_alloc | apply Kd.V_drewN | apply Kd.V_drew)); exact Kd.V_mono HO_36.out (fun _ hk => ⟨hk.1.1, ⟨hk.1.2.1, hk.1.2.2⟩⟩)⟩, ⟨bk_⟩, ⟨bk_⟩, ⟨hb_⟩⟩
          ·replace c17 := Bool.eq_false_iff.mpr c17
           subst c17
           replace H := in_ H
           simp only [Option.some.injEq, Prod.mk.injEq] at H
           obtain ⟨rfl, rfl, rfl⟩ := H
           have p196 : 0 ≤ (x38_2 : Int) := of_decide_eq_true as_
           have q196 : x38_2 < (l1.length : Int) := of_decide_eq_true as_
           obtain ⟨ad196, A196_0, c196_0, e196, hx196_0, hx196_1, hl196_0, hi196_0⟩ := at_T28 (Kd.V_reads' HO_36.out).2.2 x38_2 p196 q196
           cases e196
           obtain ⟨ce196, hce196, hMe196, hcc196⟩ := Kd.V_get HO_36.out z28 x38_2 p196 (by first | exact q196 | exact of_decide_eq_true as_ | (have e_ := (Kd.V_reads' HO_36.out).1; omega))
           obtain ⟨ua196_0, uc196_0, rfl, ul196_0, ge196_0⟩ := k28_openF hMe196
           have hv196_0 := hcc196 0 _ rfl
           rw [Nat.add_zero] at hv196_0
           replace hv196_0 := Option.some.inj (hv196_0.symm.trans hx196_0)
           injection hv196_0 with hva_ hvn_ hvc_
           rw [hva_] at ge196_0
           rw [hvc_] at ul196_0
           have HL196_0 := Aside0.mk (show Kd.V Kd.string 9 _ w.heap.size _ _ ((rd_T28 l1 x38_2).f0) from Kd.V_mk ul196_0 ge196_0)
           clear hva_ hvn_ hvc_ ge196_0 ul196_0
           clear hcc196 hce196
           have HR196_0 := Aside0.mk hi196_0
           have HC196_0 := Aside0.mk hl196_0
           clear hi196_0 hl196_0
           replace p196 := eq_true p196
           replace q196 := eq_true q196
           go_wp2_with (first | ((with_reducible refine gate_dst (N := 11) rfl ?_); refine box_event ?hg (N := 11) ?hd (cs := #[.slice none 0 0, .bool false]) (t := 28) ?hr ?_; (case hd => rfl); (case hg => rfl); (case hr => first | (go_simp; done) | (go_simp; rfl)); intro gb197 hg w23 hbox hb; have n0_ := Aside0.mk (Kd.V_below (Kd.V_elderB (by (with_reducible repeat (first | apply Kd.V_alloc | apply Kd.V_drewN | apply Kd.V_drew)); exact HO_1.out) gb197 (Nat.le_of_eq hg.symm)) hb); have n1_ := Aside0.mk (Kd.V_below (Kd.V_elderB (by (with_reducible repeat (first | apply Kd.V_alloc | apply Kd.V_drewN | apply Kd.V_drew)); exact HO_36.out) gb197 (Nat.le_of_eq hg.symm)) hb); have n2_ := Aside0.mk (Kd.V_below (Kd.V_elderB (by (with_reducible repeat (first | apply Kd.V_alloc | apply Kd.V_drewN | apply Kd.V_drew)); exact HL196_0.out) gb197 (Nat.le_of_eq hg.symm)) hb); have n5_ := Aside0.mk (Kd.C_below (by repeat (first | (with_reducible exact HR196_0.out) | (with_reducible refine Kd.C_alloc ?_ _) | (with_reducible refine Kd.C_drewN ?_ _) | (with_reducible refine Kd.C_drew ?_) | exact HR196_0.out)) hb); have BK197 := Aside0.mk hbox; have GW197 := gw_ HB hg; have GE197 := gw_ HB hg; have NB191_197 := nl_ BK191 hg; have NB197_191 := nr_ BK191 hg; have NB192_197 := nl_ BK192 hg; have NB197_192 := nr_ BK192 hg; replace BK191 := bb_ BK191 hb; replace BK192 := bb_ BK192 hb; replace HB := hs_ HB hb; clear HO_1 HO_36 HL196_0 HR196_0; have HO_1 := n0_; have HO_36 := n1_; have HL196_0 := n2_; have HR196_0 := n5_; clear n0_ n1_ n2_ n5_; clear hb hbox hg; have hnb24 := NB197_191.out; have hnc24 := NB191_197.out; have hnb25 := NB197_192.out; have hnc25 := NB192_197.out; obtain ⟨hcz26_0, hcz26_1, hfz26_0, hfz26_1⟩ := c2_ BK197) | ((with_reducible refine gate_callee (f := 38) rfl ?_); refine goesL_ (some 47) rfl rfl Tryd.func38 (by kernel_rfl) rfl #[.agg #[.slice A196_0 ((rd_T28 l1 x38_2).f0).length c196_0, .bool ((rd_T28 l1 x38_2).f1)], .bool (x38_2 == t193)] rfl gl_ ?_; (with_reducible refine (pattern_fits.calls k2 _ _ ((rd_T28 l1 x38_2).f0) ((rd_T28 l1 x38_2).f1) (x38_2 == t193) false _ ?side1 ?side2 A16.out).mono ?_); (case side1 => repeat (first | exact ((Kd.V_reads' (by (with_reducible repeat (first | apply Kd.V_alloc | apply Kd.V_drewN | apply Kd.V_drew)); exact (Kd.V_mono (Kd.V_far (p := ⟨gb197, 1, none⟩) (Kd.V_far (p := ⟨gb197, 0, none⟩) (Kd.V_mono HL196_0.out (fun k_ hk => (⟨hk, hk.2⟩ : _ ∧ k_ ≠ gb197))) (fun _ hk => hk.2) (.slice A196_0 ((rd_T28 l1 x38_2).f0).length c196_0)) (fun _ hk => hk.2) (.bool ((rd_T28 l1 x38_2).f1))) (fun _ h_ => h_.1)))).2.2) | (with_reducible refine Kd.C_alloc ?_ _) | (with_reducible refine Kd.C_drewN ?_ _) | (with_reducible refine Kd.C_drew ?_))); (case side2 => exact HC196_0.out); rintro e w27 ⟨rfl, hb⟩; refine ⟨_, rfl, ?_⟩; have n0_ := Aside0.mk (Kd.V_below (by (with_reducible repeat (first | apply Kd.V_alloc | apply Kd.V_drewN | apply Kd.V_drew)); exact (Kd.V_mono (Kd.V_far (p := ⟨gb197, 1, none⟩) (Kd.V_far (p := ⟨gb197, 0, none⟩) (Kd.V_mono HO_1.out (fun k_ hk => (⟨hk, hk.2⟩ : _ ∧ k_ ≠ gb197))) (fun _ hk => hk.2) (.slice A196_0 ((rd_T28 l1 x38_2).f0).length c196_0)) (fun _ hk => hk.2) (.bool ((rd_T28 l1 x38_2).f1))) (fun _ h_ => h_.1))) hb); have n1_ := Aside0.mk (Kd.V_below (by (with_reducible repeat (first | apply Kd.V_alloc | apply Kd.V_drewN | apply Kd.V_drew)); exact (Kd.V_mono (Kd.V_far (p := ⟨gb197, 1, none⟩) (Kd.V_far (p := ⟨gb197, 0, none⟩) (Kd.V_mono HO_36.out (fun k_ hk => (⟨hk, hk.2⟩ : _ ∧ k_ ≠ gb197))) (fun _ hk => hk.2) (.slice A196_0 ((rd_T28 l1 x38_2).f0).length c196_0)) (fun _ hk => hk.2) (.bool ((rd_T28 l1 x38_2).f1))) (fun _ h_ => h_.1))) hb); have n2_ := Aside0.mk (Kd.V_below (by (with_reducible repeat (first | apply Kd.V_alloc | apply Kd.V_drewN | apply Kd.V_drew)); exact (Kd.V_mono (Kd.V_far (p := ⟨gb197, 1, none⟩) (Kd.V_far (p := ⟨gb197, 0, none⟩) (Kd.V_mono HL196_0.out (fun k_ hk => (⟨hk, hk.2⟩ : _ ∧ k_ ≠ gb197))) (fun _ hk => hk.2) (.slice A196_0 ((rd_T28 l1 x38_2).f0).length c196_0)) (fun _ hk => hk.2) (.bool ((rd_T28 l1 x38_2).f1))) (fun _ h_ => h_.1))) hb); have n5_ := Aside0.mk (Kd.C_below ((Kd.V_reads' (by (with_reducible repeat (first | apply Kd.V_alloc | apply Kd.V_drewN | apply Kd.V_drew)); exact (Kd.V_mono (Kd.V_far (p := ⟨gb197, 1, none⟩) (Kd.V_far (p := ⟨gb197, 0, none⟩) (Kd.V_mono HL196_0.out (fun k_ hk => (⟨hk, hk.2⟩ : _ ∧ k_ ≠ gb197))) (fun _ hk => hk.2) (.slice A196_0 ((rd_T28 l1 x38_2).f0).length c196_0)) (fun _ hk => hk.2) (.bool ((rd_T28 l1 x38_2).f1))) (fun _ h_ => h_.1)))).2.2) hb); have n6_ := Aside0.mk (blk_below (g := gb197) (o := .cells #[.slice A196_0 ((rd_T28 l1 x38_2).f0).length c196_0, .bool ((rd_T28 l1 x38_2).f1)] 28 (0, 0)) bz_ hb); replace BK191 := bb_ BK191 hb; replace BK192 := bb_ BK192 hb; replace HB := hs_ HB hb; clear HO_1 HO_36 HL196_0 HR196_0 BK197; have HO_1 := n0_; have HO_36 := n1_; have HL196_0 := n2_; have HR196_0 := n5_; have BK197 := n6_; clear n0_ n1_ n2_ n5_ n6_; (try clear hb); have hnb28 := NB192_191.out; have hnc28 := NB191_192.out; obtain ⟨hcz29_0, hcz29_1, hfz29_0, hfz29_1⟩ := c2_ BK192))
           refine bodyPost_ret (results_ct rfl _ _ gb192 24 #[.slice none 0 0, .bool false] (0, 0) _ rfl bz_ Tryd.underlying24 rfl (by kernel_rfl)) rfl ?_
           exact ⟨_, rt_, rn_, hb_⟩
         ·rw [if_neg c15] at H
          exact absurd H (by simp)
        ·rw [if_neg c14] at H
         exact absurd H (by simp)
       ·rw [if_neg c13] at H
        have c13b0 := decide_eq_false c13
        clear c13
        have H' := Aside0.mk H
        clear H
        go_wp2_with (first | ((with_reducible refine gate_dst (N := 12) rfl ?_); refine box_event ?hg (N := 12) ?hd (cs := #[.slice none 0 0, .bool false]) (t := 24) ?hr ?_; (case hd => rfl); (case hg => rfl); (case hr => first | (go_simp; done) | (go_simp; rfl)); intro gb199 hg w30 hbox hb; have n0_ := Aside0.mk (Kd.V_below (Kd.V_elderB (by (with_reducible repeat (first | apply Kd.V_alloc | apply Kd.V_drewN | apply Kd.V_drew)); exact HO_1.out) gb199 (Nat.le_of_eq hg.symm)) hb); have n1_ := Aside0.mk (Kd.V_below (Kd.V_elderB (by (with_reducible repeat (first | apply Kd.V_alloc | apply Kd.V_drewN | apply Kd.V_drew)); exact HO_36.out) gb199 (Nat.le_of_eq hg.symm)) hb); have BK199 := Aside0.mk hbox; have GW199 := gw_ HB hg; have GE199 := gw_ HB hg; have NB191_199 := nl_ BK191 hg; have NB199_191 := nr_ BK191 hg; have NB192_199 := nl_ BK192 hg; have NB199_192 := nr_ BK192 hg; replace BK191 := bb_ BK191 hb; replace BK192 := bb_ BK192 hb; replace HB := hs_ HB hb; clear HO_1 HO_36; have HO_1 := n0_; have HO_36 := n1_; clear n0_ n1_; clear hb hbox hg; have hnb31 := NB191_192.out; have hnc31 := NB192_191.out; have hnb32 := NB191_199.out; have hnc32 := NB199_191.out; obtain ⟨hcz33_0, hcz33_1, hfz33_0, hfz33_1⟩ := c2_ BK191))
        go_loopg [1, 54] k2 (fun kq v1 v54 w' => ∃ (x1_3 : List (S28)) (x54_3 : Int) (x200000_3 : List ByteArray) (u200000 : Value), v54 = .int .i64 x54_3 ∧ Aside0 (pattern_Substitute.l1 kq x1_3 t194 l0_0 (l0_0.length : Int) x54_3 x200000_3 false = some (r1, r2, r3)) ∧ Aside0 (kq ≤ k2) ∧ Aside0 (Kd.V k28 28 w' w.heap.size (fun k_ => (P1_ k_ ∨ w.heap.size ≤ k_) ∧ some k_ ≠ (u200000 : Value).ownBlock ∧ k_ ≠ gb191 ∧ k_ ≠ gb192 ∧ k_ ≠ gb199) v1 x1_3) ∧ Aside0 (Kd.R Kd.string 9 w' w.heap.size (fun k_ => (w.heap.size ≤ k_)) u200000 x200000_3) ∧ Aside0 (w'.heap[gb191]? = some (.cells #[(.slice A0_0 l0_0.length c0_0), .bool a0_1] 24 (0, 0))) ∧ Aside0 (w'.heap[gb192]? = some (.cells #[(.slice none 0 0), .bool x193001_2] 24 (0, 0))) ∧ Aside0 (w'.heap[gb199]? = some (.cells #[u200000, .bool false] 24 (0, 0))) ∧ Aside0 (Below w.heap.size w w'))
        case atStart => exact ⟨(l1), (0), (([] : List ByteArray)), (.slice none 0 0), rs_, H', ⟨Nat.le_refl _⟩, ⟨by (with_reducible repeat (first | apply Kd.V_alloc | apply Kd.V_drewN | apply Kd.V_drew)); exact Kd.V_mono HO_1.out (fun _ hk => ⟨hk.1.1, ⟨(by simp [Value.ownBlock]), ⟨hk.1.2.1, ⟨hk.1.2.2, hk.2⟩⟩⟩⟩)⟩, ⟨by first | exact Kd.R_nil _ _ _ _ _ | exact Kd.N_nil _ _ _ _ _ | exact Kd.V_nil _ _ _ _ _ | exact Kd.Q_nil _ _ _ _ _ | exact Kd.S_nil _ _ _ _ _⟩, ⟨bk_⟩, ⟨bk_⟩, ⟨bk_⟩, ⟨hb_⟩⟩
        case round =>
         clear H'
         (try clear c1); (try clear c4); (try clear c4b0); (try clear c4b1); (try clear c12); (try clear c12b0); (try clear c12b1); (try clear c13); (try clear c13b0); (try clear hcz33_0); (try clear hcz33_1); (try clear hcz9_0); (try clear hcz9_1); (try clear hfz33_0); (try clear hfz33_1); (try clear hfz9_0); (try clear hfz9_1)
         obtain ⟨x1_3, x54_3, x200000_3, u200000, rfl, HA, HK3, HO_1, HO_200000, BK191, BK192, BK199, HB⟩ := hrel
         cases gk with
         | zero => exact absurd HA.out (by simp [pattern_Substitute.l1])
         | succ k3 =>
          have H := HA.out
          clear HA
          simp only [pattern_Substitute.l1] at H
          by_cases c34 : x54_3 < (l0_0.length : Int)
          ·rw [if_pos c34] at H
           have c34b0 := decide_eq_true c34
           clear c34
           by_cases c35 : 0 ≤ x54_3
           ·rw [if_pos c35] at H
            have c35b0 := decide_eq_true c35
            clear c35
            by_cases c36 : x54_3 < (l0_0.length : Int)
            ·rw [if_pos c36] at H
             have c36b0 := decide_eq_true c36
             clear c36
             replace H := Option.bind_eq_some_iff.mp H
             obtain ⟨⟨t201, t202⟩, A370, H⟩ := H
             replace H : (if t201 = 2 then (if 0 < (x1_3.length : Int) then (if 0 < (((rd_T28 x1_3 0).f0).length : Int) then (if (rdOf ByteArray.empty ((rd_T28 x1_3 0).f0) 0).size + t202.size ≤ 9223372036854775807 then (if 1 ≤ (x1_3.length : Int) then (if x200000_3.length < 8796093022208 then (pattern_Substitute.l1 k3 (x1_3.drop 1) t194 l0_0 (l0_0.length : Int) (wrap64 (x54_3 + 1)) (x200000_3 ++ [(rdOf ByteArray.empty ((rd_T28 x1_3 0).f0) 0) ++ t202]) false) else (none)) else (none)) else (none)) else (none)) else (none)) else (if x200000_3.length < 8796093022208 then (pattern_Substitute.l1 k3 x1_3 t194 l0_0 (l0_0.length : Int) (wrap64 (x54_3 + 1)) (x200000_3 ++ [rdOf ByteArray.empty l0_0 x54_3]) false) else (none))) = some (r1, r2, r3) := H
             have A37 := Aside0.mk A370
             clear A370
             by_cases c38 : t201 = 2
             ·rw [if_pos c38] at H
              have c38b0 := beq_iff_eq.mpr c38
              have c38b1 := bne_eq_false_iff_eq.mpr c38
              clear c38
              by_cases c39 : 0 < (x1_3.length : Int)
              ·rw [if_pos c39] at H
               have c39b0 := decide_eq_true c39
               have c39b1 : decide (0 < x1_3.length) = true := decide_eq_true (by omega)
               clear c39
               by_cases c40 : 0 < (((rd_T28 x1_3 0).f0).length : Int)
               ·rw [if_pos c40] at H
                have c40b0 := decide_eq_true c40
                have c40b1 : decide (0 < ((rd_T28 x1_3 0).f0).length) = true := decide_eq_true (by omega)
                clear c40
                by_cases c41 : (rdOf ByteArray.empty ((rd_T28 x1_3 0).f0) 0).size + t202.size ≤ 9223372036854775807
                ·rw [if_pos c41] at H
                 have c41b0 := eq_true c41
                 have c41b1 := decide_eq_true c41
                 try have c41b2 : (9223372036854775807 < (rdOf ByteArray.empty ((rd_T28 x1_3 0).f0) 0).size + t202.size) = False := eq_false (Nat.not_lt.2 c41)
                 by_cases c42 : 1 ≤ (x1_3.length : Int)
                 ·rw [if_pos c42] at H
                  have c42b0 := eq_true c42
                  have c42b1 := decide_eq_true c42
                  clear c42
                  obtain ⟨y205, hy205⟩ : ∃ y_ : List (S28), y_ = (x1_3.drop 1) := ⟨_, rfl⟩
                  replace H : (if x200000_3.length < 8796093022208 then (pattern_Substitute.l1 k3 y205 t194 l0_0 (l0_0.length : Int) (wrap64 (x54_3 + 1)) (x200000_3 ++ [(rdOf ByteArray.empty ((rd_T28 x1_3 0).f0) 0) ++ t202]) false) else (none)) = some (r1, r2, r3) := by first | (rw [hy205]; with_reducible exact H) | (have H2_ := (Option.bind_some _ _).symm.trans H; rw [hy205]; with_reducible exact H2_) | (have H2_ := (Option.bind_some _ _).symm.trans H; with_reducible exact H2_) | with_reducible exact H | (rw [hy205]; exact H) | exact H
                  have Ny205 := Aside0.mk hy205
                  clear hy205
                  by_cases c43 : x200000_3.length < 8796093022208
                  ·rw [if_pos c43] at H
                   have LMc43 := Aside0.mk c43
                   clear c43
                   obtain ⟨y210, hy210⟩ : ∃ y_ : List ByteArray, y_ = (x200000_3 ++ [(rdOf ByteArray.empty ((rd_T28 x1_3 0).f0) 0) ++ t202]) := ⟨_, rfl⟩
                   replace H : (pattern_Substitute.l1 k3 y205 t194 l0_0 (l0_0.length : Int) (wrap64 (x54_3 + 1)) y210 false) = some (r1, r2, r3) := by first | (rw [hy210]; with_reducible exact H) | (have H2_ := (Option.bind_some _ _).symm.trans H; rw [hy210]; with_reducible exact H2_) | (have H2_ := (Option.bind_some _ _).symm.trans H; with_reducible exact H2_) | with_reducible exact H | (rw [hy210]; exact H) | exact H
                   have Ny210 := Aside0.mk hy210
                   clear hy210
                   have H' := Aside0.mk H
                   clear H
                   have p200 : 0 ≤ (x54_3 : Int) := of_decide_eq_true as_
                   have q200 : x54_3 < (l0_0.length : Int) := of_decide_eq_true as_
                   obtain ⟨ad200, e200, hx200_0⟩ := Kd.at_string HR0_0.out x54_3 p200 q200
                   cases e200
                   replace hx200_0 := (HB.out.cell (World.block_lt_of_cell? w _ hx200_0)).trans hx200_0
                   replace p200 := eq_true p200
                   replace q200 := eq_true q200
                   try go_wp2_with (first | ((with_reducible refine gate_callee (f := 39) rfl ?_); refine goesL_ (some 60) rfl rfl Tryd.func39 (by kernel_rfl) rfl #[.string (rdOf ByteArray.empty l0_0 x54_3)] rfl gl_ ?_; (with_reducible refine (pattern_formOf.calls k3 (rdOf ByteArray.empty l0_0 x54_3) t201 t202 _ A37.out).mono ?_); rintro e w' ⟨rfl, ⟨nd, rfl⟩⟩; refine ⟨_, rfl, ?_⟩; (try (rw [drewN_self wr]; generalize hq_ : World.drewN wr _ = wr; have n0_ : Aside0 (Kd.V k28 28 wr w.heap.size (fun k_ => (P1_ k_ ∨ w.heap.size ≤ k_) ∧ some k_ ≠ (u200000 : Value).ownBlock ∧ k_ ≠ gb191 ∧ k_ ≠ gb192 ∧ k_ ≠ gb199) u1 x1_3) := ⟨by rw [← hq_]; exact (by (with_reducible repeat (first | apply Kd.V_alloc | apply Kd.V_drewN | apply Kd.V_drew)); exact HO_1.out)⟩; have n1_ : Aside0 (Kd.R Kd.string 9 wr w.heap.size (fun k_ => (w.heap.size ≤ k_)) u200000 x200000_3) := ⟨by rw [← hq_]; exact (rp_ HO_200000)⟩; have n2_ : Aside0 (wr.heap[gb191]? = some (.cells #[.slice (some ad200) l0_0.length c0_0, .bool a0_1] 24 (0, 0))) := ⟨by rw [← hq_]; exact bk_⟩; have n3_ : Aside0 (wr.heap[gb192]? = some (.cells #[.slice none 0 0, .bool x193001_2] 24 (0, 0))) := ⟨by rw [← hq_]; exact bk_⟩; have n4_ : Aside0 (wr.heap[gb199]? = some (.cells #[u200000, .bool false] 24 (0, 0))) := ⟨by rw [← hq_]; exact bk_⟩; have n5_ : Aside0 (Below w.heap.size w wr) := ⟨by rw [← hq_]; exact hb_⟩; clear HO_1 HO_200000 BK191 BK192 BK199 HB hq_; have HO_1 := n0_; have HO_200000 := n1_; have BK191 := n2_; have BK192 := n3_; have BK199 := n4_; have HB := n5_; clear n0_ n1_ n2_ n3_ n4_ n5_))))
                   have n0_ := Aside0.mk (Kd.V_drew HO_1.out)
                   have n1_ := Aside0.mk (Kd.R_drew HO_200000.out)
                   have n2_ := Aside0.mk (blk_drew BK191.out)
                   have n3_ := Aside0.mk (blk_drew BK192.out)
                   have n4_ := Aside0.mk (blk_drew BK199.out)
                   have n5_ := Aside0.mk (below_drew1 HB.out)
                   clear HO_1 HO_200000 BK191 BK192 BK199 HB
                   have HO_1 := n0_
                   have HO_200000 := n1_
                   have BK191 := n2_
                   have BK192 := n3_
                   have BK199 := n4_
                   have HB := n5_
                   clear n0_ n1_ n2_ n3_ n4_ n5_
                   obtain ⟨Ao45, co45, eo45⟩ := Kd.V_slice HO_1.out
                   (first | subst eo45 | (injection eo45 with f1_ f2_ f3_; have f4_ := f1_.symm; have f5_ := f3_.symm; clear f1_ f2_ f3_; subst f4_; subst f5_))
                   have p203 : 0 ≤ (0 : Int) := (by omega)
                   have q203 : 0 < (x1_3.length : Int) := of_decide_eq_true as_
                   obtain ⟨ad203, A203_0, c203_0, e203, hx203_0, hx203_1, hl203_0, hi203_0⟩ := at_T28 (Kd.V_reads' HO_1.out).2.2 0 p203 q203
                   cases e203
                   obtain ⟨ce203, hce203, hMe203, hcc203⟩ := Kd.V_get HO_1.out z28 0 p203 (by first | exact q203 | exact of_decide_eq_true as_ | (have e_ := (Kd.V_reads' HO_1.out).1; omega))
                   obtain ⟨ua203_0, uc203_0, rfl, ul203_0, ge203_0⟩ := k28_openF hMe203
                   have hv203_0 := hcc203 0 _ rfl
                   rw [Nat.add_zero] at hv203_0
                   replace hv203_0 := Option.some.inj (hv203_0.symm.trans hx203_0)
                   injection hv203_0 with hva_ hvn_ hvc_
                   rw [hva_] at ge203_0
                   rw [hvc_] at ul203_0
                   have HL203_0 := Aside0.mk (show Kd.V Kd.string 9 _ w.heap.size _ _ ((rd_T28 x1_3 0).f0) from Kd.V_mk ul203_0 ge203_0)
                   clear hva_ hvn_ hvc_ ge203_0 ul203_0
                   clear hcc203 hce203
                   have qi203 : (0 < x1_3.length) = True := eq_true (by omega)
                   (try rw [show ((0 : Int)).toNat = 0 from rfl] at hx203_0)
                   (try rw [show 0 * 2 = 0 from rfl] at hx203_0)
                   (try rw [Addr.add_zero'] at hx203_0)
                   (try rw [show ((0 : Int)).toNat = 0 from rfl] at hx203_1)
                   (try rw [show 0 * 2 = 0 from rfl] at hx203_1)
                   (try rw [Addr.add_zero'] at hx203_1)
                   have HR203_0 := Aside0.mk hi203_0
                   have HC203_0 := Aside0.mk hl203_0
                   clear hi203_0 hl203_0
                   replace p203 := eq_true p203
                   replace q203 := eq_true q203
                   have p204 : 0 ≤ (0 : Int) := (by omega)
                   have q204 : 0 < (((rd_T28 x1_3 0).f0).length : Int) := of_decide_eq_true as_
                   obtain ⟨ad204, e204, hx204_0⟩ := Kd.at_string (by repeat (first | (with_reducible exact HR203_0.out) | (with_reducible refine Kd.C_alloc ?_ _) | (with_reducible refine Kd.C_drewN ?_ _) | (with_reducible refine Kd.C_drew ?_) | exact HR203_0.out)) 0 p204 q204
                   cases e204
                   have qi204 : (0 < ((rd_T28 x1_3 0).f0).length) = True := eq_true (by omega)
                   (try rw [show ((0 : Int)).toNat = 0 from rfl] at hx204_0)
                   (try rw [Addr.add_zero'] at hx204_0)
                   replace p204 := eq_true p204
                   replace q204 := eq_true q204
                   have q46 : (1 : Int) ≤ ((x1_3.length : Int) : Int) := of_decide_eq_true as_
                   obtain ⟨i046, hi046, _, hsz46, _⟩ := info_parts info28
                   have hroom46 : x1_3.length ≤ co45 := (Kd.V_reads' HO_1.out).2.1
                   have hC46 : Kd.F k28 _ _ (some ad203) x1_3.length x1_3 := (Kd.V_at (base := w.heap.size) HO_1.out).2.2
                   have hcut46 := cut_from (P := Tryd.prog) 25 28 .i64 Tryd.underlying25 hi046 2 hsz46 (some ad203) x1_3.length co45 1 (by omega) q46
                   have hr46 := Kd.F_cut (m := (1 : Int).toNat) (c := co45) hC46 (by omega) hroom46
                   obtain ⟨A46, hA46⟩ : ∃ A1, A1 = (if co45 = (1 : Int).toNat then (some ad203) else ((some ad203) : Option Addr).map (·.add ((1 : Int).toNat * 2))) := ⟨_, rfl⟩
                   obtain ⟨c46, hc46⟩ : ∃ c1, c1 = co45 - (1 : Int).toNat := ⟨_, rfl⟩
                   have hy46 : y205.length = x1_3.length - (1 : Int).toNat := (by rw [Ny205.out, List.length_drop] <;> omega)
                   rw [show (x1_3).drop (1 : Int).toNat = y205 from Ny205.out.symm] at hr46
                   replace hr46 : Kd.F k28 _ _ A46 y205.length y205 := (by rw [hA46]; exact hr46)
                   rw [← hy46, ← hA46, ← hc46] at hcut46
                   have HO209 := Aside0.mk (show Kd.V k28 28 _ w.heap.size _ (.slice A46 y205.length c46) y205 from Kd.V_mk (by rw [hy46, hc46]; exact Nat.sub_le_sub_right hroom46 _) hr46)
                   have HC209 := Aside0.mk (show y205.length ≤ c46 from by rw [hy46, hc46]; exact Nat.sub_le_sub_right hroom46 _)
                   clear hr46 hC46 hroom46 hi046 hsz46 hc46
                   have KY46 := Aside0.mk hy46
                   have KA46 := Aside0.mk hA46
                   clear hy46 hA46
                   replace q46 := eq_true q46
                   refine start_ (n := 12) (S := fun w' => w'.cell? ad203 = some (.slice (some ad204) ((rd_T28 x1_3 0).f0).length c203_0) ∧ w'.cell? ⟨ad203.block, ad203.off + 1, none⟩ = some (.bool ((rd_T28 x1_3 0).f1)) ∧ w'.cell? ad204 = some (.string (rdOf ByteArray.empty ((rd_T28 x1_3 0).f0) 0))) (ds := []) #[false, false, false, false, false, false, false, false, false, false, false, false] (by kernel_rfl) rfl rfl ⟨hx203_0, hx203_1, hx204_0⟩ (fun hHeld => ?_); refine with_tabW pattern_Substitute.tab21 pattern_Substitute.bits21 (fun HT_ HW_ => ?_)
                   generalize wr.drew = w44 at HO_1 HO_200000 BK191 BK192 BK199 HB HL203_0 HO209 HR203_0 hx203_0 hx203_1 hx204_0 hHeld ⊢
                   refine pu_ 0 (some 65) #[true, false, false, false, false, false, false, false, false, false, false, false] HT_ rfl rfl ?_
                   refine pu_ 1 (some 66) #[true, true, false, false, false, false, false, false, false, false, false, false] HT_ rfl rfl ?_
                   refine pu_ 2 (some 67) #[true, true, true, false, false, false, false, false, false, false, false, false] HT_ rfl rfl ?_
                   refine pu_ 6 (some 71) #[true, true, true, false, false, false, true, false, false, false, false, false] HT_ rfl rfl ?_
                   refine pu_ 8 (some 73) #[true, true, true, false, false, false, true, false, true, false, false, false] HT_ rfl rfl ?_
                   refine pu_ 9 (some 74) #[true, true, true, false, false, false, true, false, true, true, false, false] HT_ rfl rfl ?_
                   refine tk_ 3 (some 68) #[true, true, true, true, false, false, true, false, true, true, false, false] HT_ HW_ rfl rfl hHeld ?_
                   refine pu_ 4 (some 69) #[true, true, true, true, true, false, true, false, true, true, false, false] HT_ rfl rfl ?_
                   refine tk_ 5 (some 70) #[true, true, true, true, true, true, true, false, true, true, false, false] HT_ HW_ rfl rfl hHeld ?_
                   refine pu_ 7 (some 72) #[true, true, true, true, true, true, true, true, true, true, false, false] HT_ rfl rfl ?_
                   refine pu_ 10 (some 14) #[true, true, true, true, true, true, true, true, true, true, true, false] HT_ rfl rfl ?_
                   refine pu_ 11 (some 1) #[true, true, true, true, true, true, true, true, true, true, true, true] HT_ rfl rfl ?_
                   refine done_ (done_of HT_.out (by kernel_rfl)) ?_
                   have hnb47 := NB199_191.out
                   have hnc47 := NB191_199.out
                   have hnb48 := NB199_192.out
                   have hnc48 := NB192_199.out
                   obtain ⟨hcz49_0, hcz49_1, hfz49_0, hfz49_1⟩ := c2_ BK199
                   try go_wp2_with (first | ((with_reducible refine gate_builtin (b := .append) (xs := #[.tmp 76, .tmp 78]) rfl ?_); at_builtin; refine Kd.R_append Kd.string (w0 := w) w.heap.size rfl (.tmp 76) (.tmp 78) 22 9 (.string ⟨#[]⟩) 16 rfl Tryd.underlying22 info9 rfl (by decide) (by omega) u200000 x200000_3 ((rdOf ByteArray.empty ((rd_T28 x1_3 0).f0) 0) ++ t202) [.string ((rdOf ByteArray.empty ((rd_T28 x1_3 0).f0) 0) ++ t202)] (fun k_ => (w.heap.size ≤ k_)) (fun _ => False) rfl rfl ?aP (fun _ hk => hk.elim) ?aF ?aO ?aB ?aS ?aL ?_; (case aP => exact rfl); (case aB => exact hb_); (case aF => exact (fun k_ hk => (Nat.le_trans (below_size hb_) hk))); (case aO => exact (rp_ HO_200000)); (case aS => exact (below_size hb_)); (case aL => have := LMc43.out; omega); intro v211 w50 ho hb hg hat; rw [← Ny210.out] at ho; have n0_ := Aside0.mk (Kd.V_afterv (ok := (fun k_ => (P1_ k_ ∨ w.heap.size ≤ k_) ∧ k_ ≠ gb191 ∧ k_ ≠ gb192 ∧ k_ ≠ gb199)) (by (with_reducible repeat (first | apply Kd.V_alloc | apply Kd.V_drewN | apply Kd.V_drew)); exact Kd.V_mono HO_1.out (fun _ hk => ⟨⟨hk.1, ⟨hk.2.2.1, ⟨hk.2.2.2.1, hk.2.2.2.2⟩⟩⟩, hk.2.1⟩)) hg hat); have n1_ := Aside0.mk (blk_grown (g := gb191) (o := .cells #[.slice (some ad200) l0_0.length c0_0, .bool a0_1] 24 (0, 0)) bk_ hg (Kd.R_ne HO_200000.out BK191.out (by decide))); have n2_ := Aside0.mk (blk_grown (g := gb192) (o := .cells #[.slice none 0 0, .bool x193001_2] 24 (0, 0)) bk_ hg (Kd.R_ne HO_200000.out BK192.out (by decide))); have n3_ := Aside0.mk (blk_grown (g := gb199) (o := .cells #[u200000, .bool false] 24 (0, 0)) bk_ hg (Kd.R_ne HO_200000.out BK199.out (by decide))); have n4_ := Aside0.mk (Kd.V_afterv (ok := (fun k_ => (P1_ k_ ∨ w.heap.size ≤ k_) ∧ k_ ≠ gb191 ∧ k_ ≠ gb192 ∧ k_ ≠ gb199)) (by (with_reducible repeat (first | apply Kd.V_alloc | apply Kd.V_drewN | apply Kd.V_drew)); exact Kd.V_mono HL203_0.out (fun _ hk => ⟨⟨hk.1, ⟨hk.2.2.1, ⟨hk.2.2.2.1, hk.2.2.2.2⟩⟩⟩, hk.2.1⟩)) hg hat); have n5_ := Aside0.mk (Kd.V_afterv (ok := (fun k_ => (P1_ k_ ∨ w.heap.size ≤ k_) ∧ k_ ≠ gb191 ∧ k_ ≠ gb192 ∧ k_ ≠ gb199)) (by (with_reducible repeat (first | apply Kd.V_alloc | apply Kd.V_drewN | apply Kd.V_drew)); exact Kd.V_mono HO209.out (fun _ hk => ⟨⟨hk.1, ⟨hk.2.2.1, ⟨hk.2.2.2.1, hk.2.2.2.2⟩⟩⟩, hk.2.1⟩)) hg hat); have n6_ := Aside0.mk (hb); have n7_ := Aside0.mk (ho); clear HO_1 BK191 BK192 BK199 HL203_0 HO209 HB HO_200000; have HO_1 := n0_; have BK191 := n1_; have BK192 := n2_; have BK199 := n3_; have HL203_0 := n4_; have HO209 := n5_; have HB := n6_; have HO212 := n7_; clear n0_ n1_ n2_ n3_ n4_ n5_ n6_ n7_; clear ho hb hg hat; obtain ⟨Ao51, co51, eo51⟩ := Kd.R_slice HO212.out; subst eo51; obtain ⟨hcz52_0, hcz52_1, hfz52_0, hfz52_1⟩ := c2_ BK199))
                   go_roundg k3
                   case measure => have := HJ4.out; have := HK2.out; have := HK3.out; omega
                   case rel => exact ⟨(y205), (wrap64 (x54_3 + 1)), (y210), (.slice Ao51 y210.length co51), rs_, H', ⟨by have := HJ4.out; have := HK2.out; have := HK3.out; omega⟩, ⟨by (with_reducible repeat (first | apply Kd.V_alloc | apply Kd.V_drewN | apply Kd.V_drew)); exact Kd.V_mono (Kd.V_far (p := ⟨gb199, 0, none⟩) (Kd.V_mono HO209.out (fun k_ hk => (⟨hk, hk.1.2.2.2⟩ : _ ∧ k_ ≠ gb199))) (fun _ hk => hk.2) (.slice Ao51 y210.length co51)) (fun _ hk => ⟨hk.1.1.1, ⟨hk.1.2, ⟨hk.1.1.2.1, ⟨hk.1.1.2.2.1, hk.1.1.2.2.2⟩⟩⟩⟩)⟩, ⟨by (with_reducible repeat (first | apply Kd.R_alloc | apply Kd.R_drewN | apply Kd.R_drew)); exact Kd.R_mono (Kd.R_far (p := ⟨gb199, 0, none⟩) (Kd.R_types HO212.out BK199.out (by decide)) (fun _ hk => hk.2) (.slice Ao51 y210.length co51)) (fun _ hk => hk.1)⟩, ⟨by (with_reducible repeat (first | refine blk_drewN ?_ _ | refine blk_drew ?_ | refine blk_alloc ?_ _)); refine blk_far ?_ NB191_199.out _; (with_reducible repeat (first | refine blk_drewN ?_ _ | refine blk_drew ?_ | refine blk_alloc ?_ _)); exact BK191.out⟩, ⟨by (with_reducible repeat (first | refine blk_drewN ?_ _ | refine blk_drew ?_ | refine blk_alloc ?_ _)); refine blk_far ?_ NB192_199.out _; (with_reducible repeat (first | refine blk_drewN ?_ _ | refine blk_drew ?_ | refine blk_alloc ?_ _)); exact BK192.out⟩, ⟨by (with_reducible repeat (first | refine blk_drewN ?_ _ | refine blk_drew ?_ | refine blk_alloc ?_ _)); refine blk_put (cs := #[u200000, .bool false]) ?_ 0 _ rfl; (with_reducible repeat (first | refine blk_drewN ?_ _ | refine blk_drew ?_ | refine blk_alloc ?_ _)); exact BK199.out⟩, ⟨hb_⟩⟩
                  ·rw [if_neg c43] at H
                   exact absurd H (by simp)
                 ·rw [if_neg c42] at H
                  exact absurd H (by simp)
                ·rw [if_neg c41] at H
                 exact absurd H (by simp)
               ·rw [if_neg c40] at H
                exact absurd H (by simp)
              ·rw [if_neg c39] at H
               exact absurd H (by simp)
             ·rw [if_neg c38] at H
              have c38b0 := beq_eq_false_iff_ne.mpr c38
              have c38b1 := bne_iff_ne.mpr c38
              by_cases c53 : x200000_3.length < 8796093022208
              ·rw [if_pos c53] at H
               have LMc53 := Aside0.mk c53
               clear c53
               obtain ⟨y213, hy213⟩ : ∃ y_ : List ByteArray, y_ = (x200000_3 ++ [rdOf ByteArray.empty l0_0 x54_3]) := ⟨_, rfl⟩
               replace H : (pattern_Substitute.l1 k3 x1_3 t194 l0_0 (l0_0.length : Int) (wrap64 (x54_3 + 1)) y213 false) = some (r1, r2, r3) := by first | (rw [hy213]; with_reducible exact H) | (have H2_ := (Option.bind_some _ _).symm.trans H; rw [hy213]; with_reducible exact H2_) | (have H2_ := (Option.bind_some _ _).symm.trans H; with_reducible exact H2_) | with_reducible exact H | (rw [hy213]; exact H) | exact H
               have Ny213 := Aside0.mk hy213
               clear hy213
               have H' := Aside0.mk H
               clear H
               have p200 : 0 ≤ (x54_3 : Int) := of_decide_eq_true as_
               have q200 : x54_3 < (l0_0.length : Int) := of_decide_eq_true as_
               obtain ⟨ad200, e200, hx200_0⟩ := Kd.at_string HR0_0.out x54_3 p200 q200
               cases e200
               replace hx200_0 := (HB.out.cell (World.block_lt_of_cell? w _ hx200_0)).trans hx200_0
               replace p200 := eq_true p200
               replace q200 := eq_true q200
               go_wp2_with (first | ((with_reducible refine gate_callee (f := 39) rfl ?_); refine goesL_ (some 60) rfl rfl Tryd.func39 (by kernel_rfl) rfl #[.string (rdOf ByteArray.empty l0_0 x54_3)] rfl gl_ ?_; (with_reducible refine (pattern_formOf.calls k3 (rdOf ByteArray.empty l0_0 x54_3) t201 t202 _ A37.out).mono ?_); rintro e w' ⟨rfl, ⟨nd, rfl⟩⟩; refine ⟨_, rfl, ?_⟩; (try (rw [drewN_self wr]; generalize hq_ : World.drewN wr _ = wr; have n0_ : Aside0 (Kd.V k28 28 wr w.heap.size (fun k_ => (P1_ k_ ∨ w.heap.size ≤ k_) ∧ some k_ ≠ (u200000 : Value).ownBlock ∧ k_ ≠ gb191 ∧ k_ ≠ gb192 ∧ k_ ≠ gb199) u1 x1_3) := ⟨by rw [← hq_]; exact (by (with_reducible repeat (first | apply Kd.V_alloc | apply Kd.V_drewN | apply Kd.V_drew)); exact HO_1.out)⟩; have n1_ : Aside0 (Kd.R Kd.string 9 wr w.heap.size (fun k_ => (w.heap.size ≤ k_)) u200000 x200000_3) := ⟨by rw [← hq_]; exact (rp_ HO_200000)⟩; have n2_ : Aside0 (wr.heap[gb191]? = some (.cells #[.slice (some ad200) l0_0.length c0_0, .bool a0_1] 24 (0, 0))) := ⟨by rw [← hq_]; exact bk_⟩; have n3_ : Aside0 (wr.heap[gb192]? = some (.cells #[.slice none 0 0, .bool x193001_2] 24 (0, 0))) := ⟨by rw [← hq_]; exact bk_⟩; have n4_ : Aside0 (wr.heap[gb199]? = some (.cells #[u200000, .bool false] 24 (0, 0))) := ⟨by rw [← hq_]; exact bk_⟩; have n5_ : Aside0 (Below w.heap.size w wr) := ⟨by rw [← hq_]; exact hb_⟩; clear HO_1 HO_200000 BK191 BK192 BK199 HB hq_; have HO_1 := n0_; have HO_200000 := n1_; have BK191 := n2_; have BK192 := n3_; have BK199 := n4_; have HB := n5_; clear n0_ n1_ n2_ n3_ n4_ n5_)); have hnb54 := NB199_191.out; have hnc54 := NB191_199.out; have hnb55 := NB199_192.out; have hnc55 := NB192_199.out; obtain ⟨hcz56_0, hcz56_1, hfz56_0, hfz56_1⟩ := c2_ BK199) | ((with_reducible refine gate_builtin (b := .append) (xs := #[.tmp 76, .tmp 78]) rfl ?_); at_builtin; refine Kd.R_append Kd.string (w0 := w) w.heap.size rfl (.tmp 76) (.tmp 78) 22 9 (.string ⟨#[]⟩) 16 rfl Tryd.underlying22 info9 rfl (by decide) (by omega) u200000 x200000_3 (rdOf ByteArray.empty l0_0 x54_3) [.string (rdOf ByteArray.empty l0_0 x54_3)] (fun k_ => (w.heap.size ≤ k_)) (fun _ => False) rfl rfl ?aP (fun _ hk => hk.elim) ?aF ?aO ?aB ?aS ?aL ?_; (case aP => exact rfl); (case aB => exact hb_); (case aF => exact (fun k_ hk => (Nat.le_trans (below_size hb_) hk))); (case aO => exact (rp_ HO_200000)); (case aS => exact (below_size hb_)); (case aL => have := LMc53.out; omega); intro v214 w57 ho hb hg hat; rw [← Ny213.out] at ho; have n0_ := Aside0.mk (Kd.V_afterv (ok := (fun k_ => (P1_ k_ ∨ w.heap.size ≤ k_) ∧ k_ ≠ gb191 ∧ k_ ≠ gb192 ∧ k_ ≠ gb199)) (by (with_reducible repeat (first | apply Kd.V_alloc | apply Kd.V_drewN | apply Kd.V_drew)); exact Kd.V_mono HO_1.out (fun _ hk => ⟨⟨hk.1, ⟨hk.2.2.1, ⟨hk.2.2.2.1, hk.2.2.2.2⟩⟩⟩, hk.2.1⟩)) hg hat); have n1_ := Aside0.mk (blk_grown (g := gb191) (o := .cells #[.slice (some ad200) l0_0.length c0_0, .bool a0_1] 24 (0, 0)) bk_ hg (Kd.R_ne HO_200000.out BK191.out (by decide))); have n2_ := Aside0.mk (blk_grown (g := gb192) (o := .cells #[.slice none 0 0, .bool x193001_2] 24 (0, 0)) bk_ hg (Kd.R_ne HO_200000.out BK192.out (by decide))); have n3_ := Aside0.mk (blk_grown (g := gb199) (o := .cells #[u200000, .bool false] 24 (0, 0)) bk_ hg (Kd.R_ne HO_200000.out BK199.out (by decide))); have n4_ := Aside0.mk (hb); have n5_ := Aside0.mk (ho); clear HO_1 BK191 BK192 BK199 HB HO_200000; have HO_1 := n0_; have BK191 := n1_; have BK192 := n2_; have BK199 := n3_; have HB := n4_; have HO215 := n5_; clear n0_ n1_ n2_ n3_ n4_ n5_; clear ho hb hg hat; obtain ⟨Ao58, co58, eo58⟩ := Kd.R_slice HO215.out; subst eo58; obtain ⟨hcz59_0, hcz59_1, hfz59_0, hfz59_1⟩ := c2_ BK199))
               go_roundg k3
               case measure => have := HJ4.out; have := HK2.out; have := HK3.out; omega
               case rel => exact ⟨(x1_3), (wrap64 (x54_3 + 1)), (y213), (.slice Ao58 y213.length co58), rs_, H', ⟨by have := HJ4.out; have := HK2.out; have := HK3.out; omega⟩, ⟨by (with_reducible repeat (first | apply Kd.V_alloc | apply Kd.V_drewN | apply Kd.V_drew)); exact Kd.V_mono (Kd.V_far (p := ⟨gb199, 0, none⟩) (Kd.V_mono HO_1.out (fun k_ hk => (⟨hk, hk.1.2.2.2⟩ : _ ∧ k_ ≠ gb199))) (fun _ hk => hk.2) (.slice Ao58 y213.length co58)) (fun _ hk => ⟨hk.1.1.1, ⟨hk.1.2, ⟨hk.1.1.2.1, ⟨hk.1.1.2.2.1, hk.1.1.2.2.2⟩⟩⟩⟩)⟩, ⟨by (with_reducible repeat (first | apply Kd.R_alloc | apply Kd.R_drewN | apply Kd.R_drew)); exact Kd.R_mono (Kd.R_far (p := ⟨gb199, 0, none⟩) (Kd.R_types HO215.out BK199.out (by decide)) (fun _ hk => hk.2) (.slice Ao58 y213.length co58)) (fun _ hk => hk.1)⟩, ⟨by (with_reducible repeat (first | refine blk_drewN ?_ _ | refine blk_drew ?_ | refine blk_alloc ?_ _)); refine blk_far ?_ NB191_199.out _; (with_reducible repeat (first | refine blk_drewN ?_ _ | refine blk_drew ?_ | refine blk_alloc ?_ _)); exact BK191.out⟩, ⟨by (with_reducible repeat (first | refine blk_drewN ?_ _ | refine blk_drew ?_ | refine blk_alloc ?_ _)); refine blk_far ?_ NB192_199.out _; (with_reducible repeat (first | refine blk_drewN ?_ _ | refine blk_drew ?_ | refine blk_alloc ?_ _)); exact BK192.out⟩, ⟨by (with_reducible repeat (first | refine blk_drewN ?_ _ | refine blk_drew ?_ | refine blk_alloc ?_ _)); refine blk_put (cs := #[u200000, .bool false]) ?_ 0 _ rfl; (with_reducible repeat (first | refine blk_drewN ?_ _ | refine blk_drew ?_ | refine blk_alloc ?_ _)); exact BK199.out⟩, ⟨hb_⟩⟩
              ·rw [if_neg c53] at H
               exact absurd H (by simp)
            ·rw [if_neg c36] at H
             exact absurd H (by simp)
           ·rw [if_neg c35] at H
            exact absurd H (by simp)
          ·rw [if_neg c34] at H
           have c34b0 := decide_eq_false c34
           clear c34
           by_cases c60 : t194 = true
           ·subst c60
            replace H := ip_ H
            by_cases c61 : 0 < (x1_3.length : Int)
            ·rw [if_pos c61] at H
             have c61b0 := decide_eq_true c61
             have c61b1 : decide (0 < x1_3.length) = true := decide_eq_true (by omega)
             clear c61
             by_cases c62 : x200000_3.length + ((rd_T28 x1_3 0).f0).length < 8796093022208
             ·rw [if_pos c62] at H
              have LMc62 := Aside0.mk c62
              clear c62
              obtain ⟨y217, hy217⟩ : ∃ y_ : List ByteArray, y_ = (x200000_3 ++ ((rd_T28 x1_3 0).f0)) := ⟨_, rfl⟩
              replace H : (if (y217.length : Int) > 12 then (some (([] : List ByteArray), false, 31)) else (some (y217, (rd_T28 x1_3 0).f1, 0))) = some (r1, r2, r3) := by first | (rw [hy217]; with_reducible exact H) | (have H2_ := (Option.bind_some _ _).symm.trans H; rw [hy217]; with_reducible exact H2_) | (have H2_ := (Option.bind_some _ _).symm.trans H; with_reducible exact H2_) | with_reducible exact H | (rw [hy217]; exact H) | exact H
              have Ny217 := Aside0.mk hy217
              clear hy217
              by_cases c63 : (y217.length : Int) > 12
              ·rw [if_pos c63] at H
               have c63b0 := decide_eq_true c63
               have c63b1 : decide (12 < y217.length) = true := decide_eq_true (by omega)
               clear c63
               simp only [Option.some.injEq, Prod.mk.injEq] at H
               obtain ⟨rfl, rfl, rfl⟩ := H
               try go_wp2
               have n0_ := Aside0.mk (Kd.V_drew HO_1.out)
               have n1_ := Aside0.mk (Kd.R_drew HO_200000.out)
               have n2_ := Aside0.mk (blk_drew BK191.out)
               have n3_ := Aside0.mk (blk_drew BK192.out)
               have n4_ := Aside0.mk (blk_drew BK199.out)
               have n5_ := Aside0.mk (below_drew1 HB.out)
               clear HO_1 HO_200000 BK191 BK192 BK199 HB
               have HO_1 := n0_
               have HO_200000 := n1_
               have BK191 := n2_
               have BK192 := n3_
               have BK199 := n4_
               have HB := n5_
               clear n0_ n1_ n2_ n3_ n4_ n5_
               obtain ⟨Ao65, co65, eo65⟩ := Kd.V_slice HO_1.out
               (first | subst eo65 | (injection eo65 with f1_ f2_ f3_; have f4_ := f1_.symm; have f5_ := f3_.symm; clear f1_ f2_ f3_; subst f4_; subst f5_))
               have p216 : 0 ≤ (0 : Int) := (by omega)
               have q216 : 0 < (x1_3.length : Int) := of_decide_eq_true as_
               obtain ⟨ad216, A216_0, c216_0, e216, hx216_0, hx216_1, hl216_0, hi216_0⟩ := at_T28 (Kd.V_reads' HO_1.out).2.2 0 p216 q216
               cases e216
               obtain ⟨ce216, hce216, hMe216, hcc216⟩ := Kd.V_get HO_1.out z28 0 p216 (by first | exact q216 | exact of_decide_eq_true as_ | (have e_ := (Kd.V_reads' HO_1.out).1; omega))
               obtain ⟨ua216_0, uc216_0, rfl, ul216_0, ge216_0⟩ := k28_openF hMe216
               have hv216_0 := hcc216 0 _ rfl
               rw [Nat.add_zero] at hv216_0
               replace hv216_0 := Option.some.inj (hv216_0.symm.trans hx216_0)
               injection hv216_0 with hva_ hvn_ hvc_
               rw [hva_] at ge216_0
               rw [hvc_] at ul216_0
               have HL216_0 := Aside0.mk (show Kd.V Kd.string 9 _ w.heap.size _ _ ((rd_T28 x1_3 0).f0) from Kd.V_mk ul216_0 ge216_0)
               clear hva_ hvn_ hvc_ ge216_0 ul216_0
               clear hcc216 hce216
               have qi216 : (0 < x1_3.length) = True := eq_true (by omega)
               (try rw [show ((0 : Int)).toNat = 0 from rfl] at hx216_0)
               (try rw [show 0 * 2 = 0 from rfl] at hx216_0)
               (try rw [Addr.add_zero'] at hx216_0)
               (try rw [show ((0 : Int)).toNat = 0 from rfl] at hx216_1)
               (try rw [show 0 * 2 = 0 from rfl] at hx216_1)
               (try rw [Addr.add_zero'] at hx216_1)
               have HR216_0 := Aside0.mk hi216_0
               have HC216_0 := Aside0.mk hl216_0
               clear hi216_0 hl216_0
               replace p216 := eq_true p216
               replace q216 := eq_true q216
               have p220 : 0 ≤ (0 : Int) := (by omega)
               have q220 : 0 < (x1_3.length : Int) := of_decide_eq_true as_
               obtain ⟨ad220, A220_0, c220_0, e220, hx220_0, hx220_1, hl220_0, hi220_0⟩ := at_T28 (Kd.V_reads' HO_1.out).2.2 0 p220 q220
               obtain rfl : ad216 = ad220 := (by injection e220)
               obtain ⟨ce220, hce220, hMe220, hcc220⟩ := Kd.V_get HO_1.out z28 0 p220 (by first | exact q220 | exact of_decide_eq_true as_ | (have e_ := (Kd.V_reads' HO_1.out).1; omega))
               obtain ⟨ua220_0, uc220_0, rfl, ul220_0, ge220_0⟩ := k28_openF hMe220
               have hv220_0 := hcc220 0 _ rfl
               rw [Nat.add_zero] at hv220_0
               replace hv220_0 := Option.some.inj (hv220_0.symm.trans hx220_0)
               injection hv220_0 with hva_ hvn_ hvc_
               rw [hva_] at ge220_0
               rw [hvc_] at ul220_0
               have HL220_0 := Aside0.mk (show Kd.V Kd.string 9 _ w.heap.size _ _ ((rd_T28 x1_3 0).f0) from Kd.V_mk ul220_0 ge220_0)
               clear hva_ hvn_ hvc_ ge220_0 ul220_0
               clear hcc220 hce220
               have qi220 : (0 < x1_3.length) = True := eq_true (by omega)
               (try rw [show ((0 : Int)).toNat = 0 from rfl] at hx220_0)
               (try rw [show 0 * 2 = 0 from rfl] at hx220_0)
               (try rw [Addr.add_zero'] at hx220_0)
               (try rw [show ((0 : Int)).toNat = 0 from rfl] at hx220_1)
               (try rw [show 0 * 2 = 0 from rfl] at hx220_1)
               (try rw [Addr.add_zero'] at hx220_1)
               have HR220_0 := Aside0.mk hi220_0
               have HC220_0 := Aside0.mk hl220_0
               clear hi220_0 hl220_0
               replace p220 := eq_true p220
               replace q220 := eq_true q220
               have ea_ := Option.some.inj (hx216_0.symm.trans hx220_0)
               injection ea_ with ea_ en_ ec_
               subst ea_
               subst ec_
               clear en_
               have hneB199_ad216 : ¬ (ad216.block = gb199) := Kd.foot_neS (S := fun k_ => k_ = gb199) (fun W_ hk_ => (Kd.V_reads' (Kd.V_kept HO_1.out hk_ (fun _ hk => hk.2.2.2.2))).2.2) (by first | omega | (have h_ := of_eq_true q216; omega)) (by decide)
               have hneR0_ad216 : ¬ (some ad216.block = (u200000).ownBlock) := Kd.foot_neS (S := fun k_ => some k_ = (u200000).ownBlock) (fun W_ hk_ => (Kd.V_reads' (Kd.V_kept HO_1.out hk_ (fun _ hk => hk.2.1))).2.2) (by first | omega | (have h_ := of_eq_true q216; omega)) (by decide)
               refine start_ (n := 15) (S := fun w' => w'.cell? ad216 = some (.slice A216_0 ((rd_T28 x1_3 0).f0).length c216_0) ∧ w'.cell? ⟨ad216.block, ad216.off + 1, none⟩ = some (.bool ((rd_T28 x1_3 0).f1)) ∧ w'.cell? ad216 = some (.slice A216_0 ((rd_T28 x1_3 0).f0).length c216_0) ∧ w'.cell? ⟨ad216.block, ad216.off + 1, none⟩ = some (.bool ((rd_T28 x1_3 0).f1))) (ds := []) #[false, false, false, false, false, false, false, false, false, false, false, false, false, false, false] (by kernel_rfl) rfl rfl ⟨hx216_0, hx216_1, hx220_0, hx220_1⟩ (fun hHeld => ?_); refine with_tabW pattern_Substitute.tab25 pattern_Substitute.bits25 (fun HT_ HW_ => ?_)
               generalize wr.drew = w64 at HO_1 HO_200000 BK191 BK192 BK199 HB HL216_0 HL220_0 HR216_0 HR220_0 hx216_0 hx216_1 hx220_0 hx220_1 hHeld ⊢
               refine pu_ 0 (some 83) #[true, false, false, false, false, false, false, false, false, false, false, false, false, false, false] HT_ rfl rfl ?_
               refine pu_ 2 (some 85) #[true, false, true, false, false, false, false, false, false, false, false, false, false, false, false] HT_ rfl rfl ?_
               refine pu_ 3 (some 86) #[true, false, true, true, false, false, false, false, false, false, false, false, false, false, false] HT_ rfl rfl ?_
               refine pu_ 4 (some 87) #[true, false, true, true, true, false, false, false, false, false, false, false, false, false, false] HT_ rfl rfl ?_
               refine pu_ 7 (some 90) #[true, false, true, true, true, false, false, true, false, false, false, false, false, false, false] HT_ rfl rfl ?_
               refine pu_ 8 (some 91) #[true, false, true, true, true, false, false, true, true, false, false, false, false, false, false] HT_ rfl rfl ?_
               refine pu_ 9 (some 92) #[true, false, true, true, true, false, false, true, true, true, false, false, false, false, false] HT_ rfl rfl ?_
               refine tk_ 5 (some 88) #[true, false, true, true, true, true, false, true, true, true, false, false, false, false, false] HT_ HW_ rfl rfl hHeld ?_
               refine tk_ 10 (some 93) #[true, false, true, true, true, true, false, true, true, true, true, false, false, false, false] HT_ HW_ rfl rfl hHeld ?_
               refine one_ (i := 1) (N := some 84) #[true, true, true, true, true, true, false, true, true, true, true, false, false, false, false] rfl rfl (one_of HT_.out (by kernel_rfl)) (by decide) (fun K hK => ?_)
               have hv0_0_ : (_ : World).cell? ⟨gb199, 0, none⟩ = some (u200000) := (blk_cell BK199.out 0).trans rfl
               have hv0_1_ : (_ : World).cell? ⟨gb199, 1, none⟩ = some (.bool false) := (blk_cell BK199.out 1).trans rfl
               refine value_ (w1 := ?_) (v := ?_) (by rfl) rfl ?_ ?_
               rotate_left 2
               ·go_simp
                constructor
                ·rfl
                ·rfl
               refine hK.out _ _ ⟨hHeld.1, hHeld.2.1, hHeld.2.2.1, hHeld.2.2.2⟩ (fun hHeld => ?_)
               clear hK K
               refine norm_ (a' := ?_) ?_ ?_
               rotate_left
               ·show Act.put _ (some 84) _ = _
                simp only [Act.put, List.setIfInBounds_toArray, List.set_cons_zero, List.set_cons_succ, i64_w, i32_w]
                rfl
               refine one_ (i := 6) (N := some 89) #[true, true, true, true, true, true, true, true, true, true, true, false, false, false, false] rfl rfl (one_of HT_.out (by kernel_rfl)) (by decide) (fun K hK => ?_)
               refine Kd.R_append_rows_step Kd.string (w0 := w) w.heap.size (by rfl) (.tmp 84) (.tmp 88) 22 9 (.string ⟨#[]⟩) 16 rfl Tryd.underlying22 info9 rfl (by decide) (by omega) u200000 x200000_3 ((rd_T28 x1_3 0).f0) _ _ _ (fun k_ => (w.heap.size ≤ k_)) (fun _ => False) rfl rfl ?aO ?aR (fun _ _ h => h) (fun _ h => h.elim) ?aF ?aB ?aS ?aL ?_
               (case aR => repeat (first | exact (by repeat (first | (with_reducible exact HR216_0.out) | (with_reducible refine Kd.C_alloc ?_ _) | (with_reducible refine Kd.C_drewN ?_ _) | (with_reducible refine Kd.C_drew ?_) | exact HR216_0.out)) | (with_reducible refine Kd.C_alloc ?_ _) | (with_reducible refine Kd.C_drewN ?_ _) | (with_reducible refine Kd.C_drew ?_)))
               (case aB => exact hb_)
               (case aF => exact (fun k_ hk => (Nat.le_trans (below_size hb_) hk)))
               (case aO => exact (rp_ HO_200000))
               (case aS => exact (below_size hb_))
               (case aL => have := LMc62.out; omega)
               intro v218 w66 ho hb hg hat
               have HS0_ := cell_grown hg (hHeld.1) (show ¬ _ from by first | exact hneR0_ad216 | (show ¬ (some (Addr.add _ _).block = _); rw [add_block]; exact hneR0_ad216))
               have HS1_ := cell_grown hg (hHeld.2.1) (show ¬ _ from by first | exact hneR0_ad216 | (show ¬ (some (Addr.add _ _).block = _); rw [add_block]; exact hneR0_ad216))
               have HS2_ := cell_grown hg (hHeld.2.2.1) (show ¬ _ from by first | exact hneR0_ad216 | (show ¬ (some (Addr.add _ _).block = _); rw [add_block]; exact hneR0_ad216))
               have HS3_ := cell_grown hg (hHeld.2.2.2) (show ¬ _ from by first | exact hneR0_ad216 | (show ¬ (some (Addr.add _ _).block = _); rw [add_block]; exact hneR0_ad216))
               rw [← Ny217.out] at ho
               have n0_ := Aside0.mk (Kd.V_afterv (ok := (fun k_ => (P1_ k_ ∨ w.heap.size ≤ k_) ∧ k_ ≠ gb191 ∧ k_ ≠ gb192 ∧ k_ ≠ gb199)) (by (with_reducible repeat (first | apply Kd.V_alloc | apply Kd.V_drewN | apply Kd.V_drew)); exact Kd.V_mono HO_1.out (fun _ hk => ⟨⟨hk.1, ⟨hk.2.2.1, ⟨hk.2.2.2.1, hk.2.2.2.2⟩⟩⟩, hk.2.1⟩)) hg hat)
               have n1_ := Aside0.mk (blk_grown (g := gb191) (o := .cells #[.slice A0_0 l0_0.length c0_0, .bool a0_1] 24 (0, 0)) bk_ hg (Kd.R_ne HO_200000.out BK191.out (by decide)))
               have n2_ := Aside0.mk (blk_grown (g := gb192) (o := .cells #[.slice none 0 0, .bool x193001_2] 24 (0, 0)) bk_ hg (Kd.R_ne HO_200000.out BK192.out (by decide)))
               have n3_ := Aside0.mk (blk_grown (g := gb199) (o := .cells #[u200000, .bool false] 24 (0, 0)) bk_ hg (Kd.R_ne HO_200000.out BK199.out (by decide)))
               have n4_ := Aside0.mk (Kd.V_afterv (ok := (fun k_ => (P1_ k_ ∨ w.heap.size ≤ k_) ∧ k_ ≠ gb191 ∧ k_ ≠ gb192 ∧ k_ ≠ gb199)) (by (with_reducible repeat (first | apply Kd.V_alloc | apply Kd.V_drewN | apply Kd.V_drew)); exact Kd.V_mono HL216_0.out (fun _ hk => ⟨⟨hk.1, ⟨hk.2.2.1, ⟨hk.2.2.2.1, hk.2.2.2.2⟩⟩⟩, hk.2.1⟩)) hg hat)
               have n5_ := Aside0.mk (Kd.V_afterv (ok := (fun k_ => (P1_ k_ ∨ w.heap.size ≤ k_) ∧ k_ ≠ gb191 ∧ k_ ≠ gb192 ∧ k_ ≠ gb199)) (by (with_reducible repeat (first | apply Kd.V_alloc | apply Kd.V_drewN | apply Kd.V_drew)); exact Kd.V_mono HL220_0.out (fun _ hk => ⟨⟨hk.1, ⟨hk.2.2.1, ⟨hk.2.2.2.1, hk.2.2.2.2⟩⟩⟩, hk.2.1⟩)) hg hat)
               have n6_ := Aside0.mk (hb)
               have n7_ := Aside0.mk (ho)
               clear HO_1 BK191 BK192 BK199 HL216_0 HL220_0 HB HO_200000
               have HO_1 := n0_
               have BK191 := n1_
               have BK192 := n2_
               have BK199 := n3_
               have HL216_0 := n4_
               have HL220_0 := n5_
               have HB := n6_
               have HO219 := n7_
               clear n0_ n1_ n2_ n3_ n4_ n5_ n6_ n7_
               clear ho hb hg hat
               obtain ⟨Ao67, co67, eo67⟩ := Kd.R_slice HO219.out
               (first | subst eo67 | (injection eo67 with f1_ f2_ f3_; have f4_ := f1_.symm; have f5_ := f3_.symm; clear f1_ f2_ f3_; subst f4_; subst f5_))
               refine hK.out _ _ ⟨HS0_, HS1_, HS2_, HS3_⟩ (fun hHeld => ?_)
               clear hK K
               refine norm_ (a' := ?_) ?_ ?_
               rotate_left
               ·show Act.put _ (some 89) _ = _
                simp only [Act.put, List.setIfInBounds_toArray, List.set_cons_zero, List.set_cons_succ, i64_w, i32_w]
                rfl
               refine pu_ 11 (some 94) #[true, true, true, true, true, true, true, true, true, true, true, true, false, false, false] HT_ rfl rfl ?_
               refine one_ (i := 12) (N := none) #[true, true, true, true, true, true, true, true, true, true, true, true, true, false, false] rfl rfl (one_of HT_.out (by kernel_rfl)) (by decide) (fun K hK => ?_)
               have hs68 : w66.cell? ⟨gb199, 0, none⟩ = some (u200000) := (blk_cell BK199.out 0).trans rfl
               have hfs68 := blk_frozen BK199.out 0
               have hns68_0 := NB191_199.out
               have hns68_1 := NB192_199.out
               have hms68_0 := NB199_191.out
               have hms68_1 := NB199_192.out
               refine skip_ (w1 := ?_) (by rfl) rfl ?_ ?_
               rotate_left
               ·go_simp
                rfl
               refine hK.out _ _ ⟨((cell_far (p := ⟨gb199, _, none⟩) nb_ _).trans (hHeld.1)), ((cell_far (p := ⟨gb199, _, none⟩) nb_ _).trans (hHeld.2.1)), ((cell_far (p := ⟨gb199, _, none⟩) nb_ _).trans (hHeld.2.2.1)), ((cell_far (p := ⟨gb199, _, none⟩) nb_ _).trans (hHeld.2.2.2))⟩ (fun hHeld => ?_)
               clear hK K
               refine pu_ 13 (some 95) #[true, true, true, true, true, true, true, true, true, true, true, true, true, true, false] HT_ rfl rfl ?_
               refine one_ (i := 14) (N := none) #[true, true, true, true, true, true, true, true, true, true, true, true, true, true, true] rfl rfl (one_of HT_.out (by kernel_rfl)) (by decide) (fun K hK => ?_)
               have hs69 : w66.cell? ⟨gb199, 1, none⟩ = some (.bool false) := (blk_cell BK199.out 1).trans rfl
               have hfs69 := blk_frozen BK199.out 1
               have hns69_0 := NB191_199.out
               have hns69_1 := NB192_199.out
               have hms69_0 := NB199_191.out
               have hms69_1 := NB199_192.out
               refine skip_ (w1 := ?_) (by rfl) rfl ?_ ?_
               rotate_left
               ·go_simp
                rfl
               refine hK.out _ _ ⟨((cell_far (p := ⟨gb199, _, none⟩) nb_ _).trans (hHeld.1)), ((cell_far (p := ⟨gb199, _, none⟩) nb_ _).trans (hHeld.2.1)), ((cell_far (p := ⟨gb199, _, none⟩) nb_ _).trans (hHeld.2.2.1)), ((cell_far (p := ⟨gb199, _, none⟩) nb_ _).trans (hHeld.2.2.2))⟩ (fun hHeld => ?_)
               clear hK K
               refine done_ (done_of HT_.out (by kernel_rfl)) ?_
               have hnb70 := NB199_191.out
               have hnc70 := NB191_199.out
               have hnb71 := NB199_192.out
               have hnc71 := NB192_199.out
               obtain ⟨hcz72_0, hcz72_1, hfz72_0, hfz72_1⟩ := c2_ BK199
               have hnb73 := NB192_191.out
               have hnc73 := NB191_192.out
               obtain ⟨hcz74_0, hcz74_1, hfz74_0, hfz74_1⟩ := c2_ BK192
               try go_wp2
               refine bodyPost_ret (results_ct rfl _ _ gb192 24 #[.slice none 0 0, .bool false] (0, 0) _ rfl bz_ Tryd.underlying24 rfl (by kernel_rfl)) rfl ?_
               exact ⟨_, rt_, rn_, hb_⟩
              ·rw [if_neg c63] at H
               have c63b0 := decide_eq_false c63
               have c63b1 : decide (12 < y217.length) = false := decide_eq_false (by omega)
               clear c63
               simp only [Option.some.injEq, Prod.mk.injEq] at H
               obtain ⟨rfl, rfl, rfl⟩ := H
               try go_wp2
               have n0_ := Aside0.mk (Kd.V_drew HO_1.out)
               have n1_ := Aside0.mk (Kd.R_drew HO_200000.out)
               have n2_ := Aside0.mk (blk_drew BK191.out)
               have n3_ := Aside0.mk (blk_drew BK192.out)
               have n4_ := Aside0.mk (blk_drew BK199.out)
               have n5_ := Aside0.mk (below_drew1 HB.out)
               clear HO_1 HO_200000 BK191 BK192 BK199 HB
               have HO_1 := n0_
               have HO_200000 := n1_
               have BK191 := n2_
               have BK192 := n3_
               have BK199 := n4_
               have HB := n5_
               clear n0_ n1_ n2_ n3_ n4_ n5_
               obtain ⟨Ao76, co76, eo76⟩ := Kd.V_slice HO_1.out
               (first | subst eo76 | (injection eo76 with f1_ f2_ f3_; have f4_ := f1_.symm; have f5_ := f3_.symm; clear f1_ f2_ f3_; subst f4_; subst f5_))
               have p216 : 0 ≤ (0 : Int) := (by omega)
               have q216 : 0 < (x1_3.length : Int) := of_decide_eq_true as_
               obtain ⟨ad216, A216_0, c216_0, e216, hx216_0, hx216_1, hl216_0, hi216_0⟩ := at_T28 (Kd.V_reads' HO_1.out).2.2 0 p216 q216
               cases e216
               obtain ⟨ce216, hce216, hMe216, hcc216⟩ := Kd.V_get HO_1.out z28 0 p216 (by first | exact q216 | exact of_decide_eq_true as_ | (have e_ := (Kd.V_reads' HO_1.out).1; omega))
               obtain ⟨ua216_0, uc216_0, rfl, ul216_0, ge216_0⟩ := k28_openF hMe216
               have hv216_0 := hcc216 0 _ rfl
               rw [Nat.add_zero] at hv216_0
               replace hv216_0 := Option.some.inj (hv216_0.symm.trans hx216_0)
               injection hv216_0 with hva_ hvn_ hvc_
               rw [hva_] at ge216_0
               rw [hvc_] at ul216_0
               have HL216_0 := Aside0.mk (show Kd.V Kd.string 9 _ w.heap.size _ _ ((rd_T28 x1_3 0).f0) from Kd.V_mk ul216_0 ge216_0)
               clear hva_ hvn_ hvc_ ge216_0 ul216_0
               clear hcc216 hce216
               have qi216 : (0 < x1_3.length) = True := eq_true (by omega)
               (try rw [show ((0 : Int)).toNat = 0 from rfl] at hx216_0)
               (try rw [show 0 * 2 = 0 from rfl] at hx216_0)
               (try rw [Addr.add_zero'] at hx216_0)
               (try rw [show ((0 : Int)).toNat = 0 from rfl] at hx216_1)
               (try rw [show 0 * 2 = 0 from rfl] at hx216_1)
               (try rw [Addr.add_zero'] at hx216_1)
               have HR216_0 := Aside0.mk hi216_0
               have HC216_0 := Aside0.mk hl216_0
               clear hi216_0 hl216_0
               replace p216 := eq_true p216
               replace q216 := eq_true q216
               have p220 : 0 ≤ (0 : Int) := (by omega)
               have q220 : 0 < (x1_3.length : Int) := of_decide_eq_true as_
               obtain ⟨ad220, A220_0, c220_0, e220, hx220_0, hx220_1, hl220_0, hi220_0⟩ := at_T28 (Kd.V_reads' HO_1.out).2.2 0 p220 q220
               obtain rfl : ad216 = ad220 := (by injection e220)
               obtain ⟨ce220, hce220, hMe220, hcc220⟩ := Kd.V_get HO_1.out z28 0 p220 (by first | exact q220 | exact of_decide_eq_true as_ | (have e_ := (Kd.V_reads' HO_1.out).1; omega))
               obtain ⟨ua220_0, uc220_0, rfl, ul220_0, ge220_0⟩ := k28_openF hMe220
               have hv220_0 := hcc220 0 _ rfl
               rw [Nat.add_zero] at hv220_0
               replace hv220_0 := Option.some.inj (hv220_0.symm.trans hx220_0)
               injection hv220_0 with hva_ hvn_ hvc_
               rw [hva_] at ge220_0
               rw [hvc_] at ul220_0
               have HL220_0 := Aside0.mk (show Kd.V Kd.string 9 _ w.heap.size _ _ ((rd_T28 x1_3 0).f0) from Kd.V_mk ul220_0 ge220_0)
               clear hva_ hvn_ hvc_ ge220_0 ul220_0
               clear hcc220 hce220
               have qi220 : (0 < x1_3.length) = True := eq_true (by omega)
               (try rw [show ((0 : Int)).toNat = 0 from rfl] at hx220_0)
               (try rw [show 0 * 2 = 0 from rfl] at hx220_0)
               (try rw [Addr.add_zero'] at hx220_0)
               (try rw [show ((0 : Int)).toNat = 0 from rfl] at hx220_1)
               (try rw [show 0 * 2 = 0 from rfl] at hx220_1)
               (try rw [Addr.add_zero'] at hx220_1)
               have HR220_0 := Aside0.mk hi220_0
               have HC220_0 := Aside0.mk hl220_0
               clear hi220_0 hl220_0
               replace p220 := eq_true p220
               replace q220 := eq_true q220
               have ea_ := Option.some.inj (hx216_0.symm.trans hx220_0)
               injection ea_ with ea_ en_ ec_
               subst ea_
               subst ec_
               clear en_
               have hneB199_ad216 : ¬ (ad216.block = gb199) := Kd.foot_neS (S := fun k_ => k_ = gb199) (fun W_ hk_ => (Kd.V_reads' (Kd.V_kept HO_1.out hk_ (fun _ hk => hk.2.2.2.2))).2.2) (by first | omega | (have h_ := of_eq_true q216; omega)) (by decide)
               have hneR0_ad216 : ¬ (some ad216.block = (u200000).ownBlock) := Kd.foot_neS (S := fun k_ => some k_ = (u200000).ownBlock) (fun W_ hk_ => (Kd.V_reads' (Kd.V_kept HO_1.out hk_ (fun _ hk => hk.2.1))).2.2) (by first | omega | (have h_ := of_eq_true q216; omega)) (by decide)
               refine start_ (n := 15) (S := fun w' => w'.cell? ad216 = some (.slice A216_0 ((rd_T28 x1_3 0).f0).length c216_0) ∧ w'.cell? ⟨ad216.block, ad216.off + 1, none⟩ = some (.bool ((rd_T28 x1_3 0).f1)) ∧ w'.cell? ad216 = some (.slice A216_0 ((rd_T28 x1_3 0).f0).length c216_0) ∧ w'.cell? ⟨ad216.block, ad216.off + 1, none⟩ = some (.bool ((rd_T28 x1_3 0).f1))) (ds := []) #[false, false, false, false, false, false, false, false, false, false, false, false, false, false, false] (by kernel_rfl) rfl rfl ⟨hx216_0, hx216_1, hx220_0, hx220_1⟩ (fun hHeld => ?_); refine with_tabW pattern_Substitute.tab25 pattern_Substitute.bits25 (fun HT_ HW_ => ?_)
               generalize wr.drew = w75 at HO_1 HO_200000 BK191 BK192 BK199 HB HL216_0 HL220_0 HR216_0 HR220_0 hx216_0 hx216_1 hx220_0 hx220_1 hHeld ⊢
               refine pu_ 0 (some 83) #[true, false, false, false, false, false, false, false, false, false, false, false, false, false, false] HT_ rfl rfl ?_
               refine pu_ 2 (some 85) #[true, false, true, false, false, false, false, false, false, false, false, false, false, false, false] HT_ rfl rfl ?_
               refine pu_ 3 (some 86) #[true, false, true, true, false, false, false, false, false, false, false, false, false, false, false] HT_ rfl rfl ?_
               refine pu_ 4 (some 87) #[true, false, true, true, true, false, false, false, false, false, false, false, false, false, false] HT_ rfl rfl ?_
               refine pu_ 7 (some 90) #[true, false, true, true, true, false, false, true, false, false, false, false, false, false, false] HT_ rfl rfl ?_
               refine pu_ 8 (some 91) #[true, false, true, true, true, false, false, true, true, false, false, false, false, false, false] HT_ rfl rfl ?_
               refine pu_ 9 (some 92) #[true, false, true, true, true, false, false, true, true, true, false, false, false, false, false] HT_ rfl rfl ?_
               refine tk_ 5 (some 88) #[true, false, true, true, true, true, false, true, true, true, false, false, false, false, false] HT_ HW_ rfl rfl hHeld ?_
               refine tk_ 10 (some 93) #[true, false, true, true, true, true, false, true, true, true, true, false, false, false, false] HT_ HW_ rfl rfl hHeld ?_
               refine one_ (i := 1) (N := some 84) #[true, true, true, true, true, true, false, true, true, true, true, false, false, false, false] rfl rfl (one_of HT_.out (by kernel_rfl)) (by decide) (fun K hK => ?_)
               have hv0_0_ : (_ : World).cell? ⟨gb199, 0, none⟩ = some (u200000) := (blk_cell BK199.out 0).trans rfl
               have hv0_1_ : (_ : World).cell? ⟨gb199, 1, none⟩ = some (.bool false) := (blk_cell BK199.out 1).trans rfl
               refine value_ (w1 := ?_) (v := ?_) (by rfl) rfl ?_ ?_
               rotate_left 2
               ·go_simp
                constructor
                ·rfl
                ·rfl
               refine hK.out _ _ ⟨hHeld.1, hHeld.2.1, hHeld.2.2.1, hHeld.2.2.2⟩ (fun hHeld => ?_)
               clear hK K
               refine norm_ (a' := ?_) ?_ ?_
               rotate_left
               ·show Act.put _ (some 84) _ = _
                simp only [Act.put, List.setIfInBounds_toArray, List.set_cons_zero, List.set_cons_succ, i64_w, i32_w]
                rfl
               refine one_ (i := 6) (N := some 89) #[true, true, true, true, true, true, true, true, true, true, true, false, false, false, false] rfl rfl (one_of HT_.out (by kernel_rfl)) (by decide) (fun K hK => ?_)
               refine Kd.R_append_rows_step Kd.string (w0 := w) w.heap.size (by rfl) (.tmp 84) (.tmp 88) 22 9 (.string ⟨#[]⟩) 16 rfl Tryd.underlying22 info9 rfl (by decide) (by omega) u200000 x200000_3 ((rd_T28 x1_3 0).f0) _ _ _ (fun k_ => (w.heap.size ≤ k_)) (fun _ => False) rfl rfl ?aO ?aR (fun _ _ h => h) (fun _ h => h.elim) ?aF ?aB ?aS ?aL ?_
               (case aR => repeat (first | exact (by repeat (first | (with_reducible exact HR216_0.out) | (with_reducible refine Kd.C_alloc ?_ _) | (with_reducible refine Kd.C_drewN ?_ _) | (with_reducible refine Kd.C_drew ?_) | exact HR216_0.out)) | (with_reducible refine Kd.C_alloc ?_ _) | (with_reducible refine Kd.C_drewN ?_ _) | (with_reducible refine Kd.C_drew ?_)))
               (case aB => exact hb_)
               (case aF => exact (fun k_ hk => (Nat.le_trans (below_size hb_) hk)))
               (case aO => exact (rp_ HO_200000))
               (case aS => exact (below_size hb_))
               (case aL => have := LMc62.out; omega)
               intro v218 w77 ho hb hg hat
               have HS0_ := cell_grown hg (hHeld.1) (show ¬ _ from by first | exact hneR0_ad216 | (show ¬ (some (Addr.add _ _).block = _); rw [add_block]; exact hneR0_ad216))
               have HS1_ := cell_grown hg (hHeld.2.1) (show ¬ _ from by first | exact hneR0_ad216 | (show ¬ (some (Addr.add _ _).block = _); rw [add_block]; exact hneR0_ad216))
               have HS2_ := cell_grown hg (hHeld.2.2.1) (show ¬ _ from by first | exact hneR0_ad216 | (show ¬ (some (Addr.add _ _).block = _); rw [add_block]; exact hneR0_ad216))
               have HS3_ := cell_grown hg (hHeld.2.2.2) (show ¬ _ from by first | exact hneR0_ad216 | (show ¬ (some (Addr.add _ _).block = _); rw [add_block]; exact hneR0_ad216))
               rw [← Ny217.out] at ho
               have n0_ := Aside0.mk (Kd.V_afterv (ok := (fun k_ => (P1_ k_ ∨ w.heap.size ≤ k_) ∧ k_ ≠ gb191 ∧ k_ ≠ gb192 ∧ k_ ≠ gb199)) (by (with_reducible repeat (first | apply Kd.V_alloc | apply Kd.V_drewN | apply Kd.V_drew)); exact Kd.V_mono HO_1.out (fun _ hk => ⟨⟨hk.1, ⟨hk.2.2.1, ⟨hk.2.2.2.1, hk.2.2.2.2⟩⟩⟩, hk.2.1⟩)) hg hat)
               have n1_ := Aside0.mk (blk_grown (g := gb191) (o := .cells #[.slice A0_0 l0_0.length c0_0, .bool a0_1] 24 (0, 0)) bk_ hg (Kd.R_ne HO_200000.out BK191.out (by decide)))
               have n2_ := Aside0.mk (blk_grown (g := gb192) (o := .cells #[.slice none 0 0, .bool x193001_2] 24 (0, 0)) bk_ hg (Kd.R_ne HO_200000.out BK192.out (by decide)))
               have n3_ := Aside0.mk (blk_grown (g := gb199) (o := .cells #[u200000, .bool false] 24 (0, 0)) bk_ hg (Kd.R_ne HO_200000.out BK199.out (by decide)))
               have n4_ := Aside0.mk (Kd.V_afterv (ok := (fun k_ => (P1_ k_ ∨ w.heap.size ≤ k_) ∧ k_ ≠ gb191 ∧ k_ ≠ gb192 ∧ k_ ≠ gb199)) (by (with_reducible repeat (first | apply Kd.V_alloc | apply Kd.V_drewN | apply Kd.V_drew)); exact Kd.V_mono HL216_0.out (fun _ hk => ⟨⟨hk.1, ⟨hk.2.2.1, ⟨hk.2.2.2.1, hk.2.2.2.2⟩⟩⟩, hk.2.1⟩)) hg hat)
               have n5_ := Aside0.mk (Kd.V_afterv (ok := (fun k_ => (P1_ k_ ∨ w.heap.size ≤ k_) ∧ k_ ≠ gb191 ∧ k_ ≠ gb192 ∧ k_ ≠ gb199)) (by (with_reducible repeat (first | apply Kd.V_alloc | apply Kd.V_drewN | apply Kd.V_drew)); exact Kd.V_mono HL220_0.out (fun _ hk => ⟨⟨hk.1, ⟨hk.2.2.1, ⟨hk.2.2.2.1, hk.2.2.2.2⟩⟩⟩, hk.2.1⟩)) hg hat)
               have n6_ := Aside0.mk (hb)
               have n7_ := Aside0.mk (ho)
               clear HO_1 BK191 BK192 BK199 HL216_0 HL220_0 HB HO_200000
               have HO_1 := n0_
               have BK191 := n1_
               have BK192 := n2_
               have BK199 := n3_
               have HL216_0 := n4_
               have HL220_0 := n5_
               have HB := n6_
               have HO219 := n7_
               clear n0_ n1_ n2_ n3_ n4_ n5_ n6_ n7_
               clear ho hb hg hat
               obtain ⟨Ao78, co78, eo78⟩ := Kd.R_slice HO219.out
               (first | subst eo78 | (injection eo78 with f1_ f2_ f3_; have f4_ := f1_.symm; have f5_ := f3_.symm; clear f1_ f2_ f3_; subst f4_; subst f5_))
               refine hK.out _ _ ⟨HS0_, HS1_, HS2_, HS3_⟩ (fun hHeld => ?_)
               clear hK K
               refine norm_ (a' := ?_) ?_ ?_
               rotate_left
               ·show Act.put _ (some 89) _ = _
                simp only [Act.put, List.setIfInBounds_toArray, List.set_cons_zero, List.set_cons_succ, i64_w, i32_w]
                rfl
               refine pu_ 11 (some 94) #[true, true, true, true, true, true, true, true, true, true, true, true, false, false, false] HT_ rfl rfl ?_
               refine one_ (i := 12) (N := none) #[true, true, true, true, true, true, true, true, true, true, true, true, true, false, false] rfl rfl (one_of HT_.out (by kernel_rfl)) (by decide) (fun K hK => ?_)
               have hs79 : w77.cell? ⟨gb199, 0, none⟩ = some (u200000) := (blk_cell BK199.out 0).trans rfl
               have hfs79 := blk_frozen BK199.out 0
               have hns79_0 := NB191_199.out
               have hns79_1 := NB192_199.out
               have hms79_0 := NB199_191.out
               have hms79_1 := NB199_192.out
               refine skip_ (w1 := ?_) (by rfl) rfl ?_ ?_
               rotate_left
               ·go_simp
                rfl
               refine hK.out _ _ ⟨((cell_far (p := ⟨gb199, _, none⟩) nb_ _).trans (hHeld.1)), ((cell_far (p := ⟨gb199, _, none⟩) nb_ _).trans (hHeld.2.1)), ((cell_far (p := ⟨gb199, _, none⟩) nb_ _).trans (hHeld.2.2.1)), ((cell_far (p := ⟨gb199, _, none⟩) nb_ _).trans (hHeld.2.2.2))⟩ (fun hHeld => ?_)
               clear hK K
               refine pu_ 13 (some 95) #[true, true, true, true, true, true, true, true, true, true, true, true, true, true, false] HT_ rfl rfl ?_
               refine one_ (i := 14) (N := none) #[true, true, true, true, true, true, true, true, true, true, true, true, true, true, true] rfl rfl (one_of HT_.out (by kernel_rfl)) (by decide) (fun K hK => ?_)
               have hs80 : w77.cell? ⟨gb199, 1, none⟩ = some (.bool false) := (blk_cell BK199.out 1).trans rfl
               have hfs80 := blk_frozen BK199.out 1
               have hns80_0 := NB191_199.out
               have hns80_1 := NB192_199.out
               have hms80_0 := NB199_191.out
               have hms80_1 := NB199_192.out
               refine skip_ (w1 := ?_) (by rfl) rfl ?_ ?_
               rotate_left
               ·go_simp
                rfl
               refine hK.out _ _ ⟨((cell_far (p := ⟨gb199, _, none⟩) nb_ _).trans (hHeld.1)), ((cell_far (p := ⟨gb199, _, none⟩) nb_ _).trans (hHeld.2.1)), ((cell_far (p := ⟨gb199, _, none⟩) nb_ _).trans (hHeld.2.2.1)), ((cell_far (p := ⟨gb199, _, none⟩) nb_ _).trans (hHeld.2.2.2))⟩ (fun hHeld => ?_)
               clear hK K
               refine done_ (done_of HT_.out (by kernel_rfl)) ?_
               have hnb81 := NB199_191.out
               have hnc81 := NB191_199.out
               have hnb82 := NB199_192.out
               have hnc82 := NB192_199.out
               obtain ⟨hcz83_0, hcz83_1, hfz83_0, hfz83_1⟩ := c2_ BK199
               have hnb84 := NB192_191.out
               have hnc84 := NB191_192.out
               obtain ⟨hcz85_0, hcz85_1, hfz85_0, hfz85_1⟩ := c2_ BK192
               try go_wp2
               refine bodyPost_ret (results_ct rfl _ _ gb192 24 #[.slice Ao78 y217.length co78, .bool ((rd_T28 x1_3 0).f1)] (0, 0) _ rfl bz_ Tryd.underlying24 rfl (by kernel_rfl)) rfl ?_
               exact ⟨_, rt_, by (with_reducible repeat (first | apply Kd.R_alloc | apply Kd.R_drewN | apply Kd.R_drew)); exact Kd.R_mono (Kd.R_far (p := ⟨gb192, 1, none⟩) (Kd.R_far (p := ⟨gb192, 0, none⟩) (Kd.R_far (p := ⟨gb199, 1, none⟩) (Kd.R_far (p := ⟨gb199, 0, none⟩) (Kd.R_types (Kd.R_types HO219.out BK199.out (by decide)) BK192.out (by decide)) (fun _ hk => hk.1.2) (.slice Ao78 y217.length co78)) (fun _ hk => hk.1.2) (.bool ((rd_T28 x1_3 0).f1))) (fun _ hk => hk.2) (.slice Ao78 y217.length co78)) (fun _ hk => hk.2) (.bool ((rd_T28 x1_3 0).f1))) (fun _ hk => hk.1.1), hb_⟩
             ·rw [if_neg c62] at H
              exact absurd H (by simp)
            ·rw [if_neg c61] at H
             exact absurd H (by simp)
           ·replace c60 := Bool.eq_false_iff.mpr c60
            subst c60
            replace H := in_ H
            by_cases c86 : (x200000_3.length : Int) > 12
            ·rw [if_pos c86] at H
             have c86b0 := decide_eq_true c86
             have c86b1 : decide (12 < x200000_3.length) = true := decide_eq_true (by omega)
             clear c86
             simp only [Option.some.injEq, Prod.mk.injEq] at H
             obtain ⟨rfl, rfl, rfl⟩ := H
             have hnb87 := NB199_191.out
             have hnc87 := NB191_199.out
             have hnb88 := NB199_192.out
             have hnc88 := NB192_199.out
             obtain ⟨hcz89_0, hcz89_1, hfz89_0, hfz89_1⟩ := c2_ BK199
             obtain ⟨Ao90, co90, eo90⟩ := Kd.R_slice HO_200000.out
             subst eo90
             have hnb91 := NB192_191.out
             have hnc91 := NB191_192.out
             obtain ⟨hcz92_0, hcz92_1, hfz92_0, hfz92_1⟩ := c2_ BK192
             go_wp2
             refine bodyPost_ret (results_ct rfl _ _ gb192 24 #[.slice none 0 0, .bool false] (0, 0) _ rfl bz_ Tryd.underlying24 rfl (by kernel_rfl)) rfl ?_
             exact ⟨_, rt_, rn_, hb_⟩
            ·rw [if_neg c86] at H
             have c86b0 := decide_eq_false c86
             have c86b1 : decide (12 < x200000_3.length) = false := decide_eq_false (by omega)
             clear c86
             simp only [Option.some.injEq, Prod.mk.injEq] at H
             obtain ⟨rfl, rfl, rfl⟩ := H
             have hnb93 := NB199_191.out
             have hnc93 := NB191_199.out
             have hnb94 := NB199_192.out
             have hnc94 := NB192_199.out
             obtain ⟨hcz95_0, hcz95_1, hfz95_0, hfz95_1⟩ := c2_ BK199
             obtain ⟨Ao96, co96, eo96⟩ := Kd.R_slice HO_200000.out
             subst eo96
             have hnb97 := NB192_191.out
             have hnc97 := NB191_192.out
             obtain ⟨hcz98_0, hcz98_1, hfz98_0, hfz98_1⟩ := c2_ BK192
             go_wp2
             refine bodyPost_ret (results_ct rfl _ _ gb192 24 #[.slice Ao96 x200000_3.length co96, .bool false] (0, 0) _ rfl bz_ Tryd.underlying24 rfl (by kernel_rfl)) rfl ?_
             exact ⟨_, rt_, by (with_reducible repeat (first | apply Kd.R_alloc | apply Kd.R_drewN | apply Kd.R_drew)); exact Kd.R_mono (Kd.R_far (p := ⟨gb192, 1, none⟩) (Kd.R_far (p := ⟨gb192, 0, none⟩) (Kd.R_types HO_200000.out BK192.out (by decide)) (fun _ hk => hk.2) (.slice Ao96 x200000_3.length co96)) (fun _ hk => hk.2) (.bool false)) (fun _ hk => hk.1), hb_⟩
    ·rw [if_neg c12] at H
     have c12b0 := beq_eq_false_iff_ne.mpr c12
     have c12b1 := bne_iff_ne.mpr c12
     simp only [Option.some.injEq, Prod.mk.injEq] at H
     obtain ⟨rfl, rfl, rfl⟩ := H
     have hnb99 := NB192_191.out
     have hnc99 := NB191_192.out
     obtain ⟨hcz100_0, hcz100_1, hfz100_0, hfz100_1⟩ := c2_ BK192
     go_wp2
     refine bodyPost_ret (results_ct rfl _ _ gb192 24 #[.slice none 0 0, .bool false] (0, 0) _ rfl bz_ Tryd.underlying24 rfl (by kernel_rfl)) rfl ?_
     exact ⟨_, rt_, rn_, hb_⟩
 ·rw [if_neg c4] at H
  have c4b0 := beq_eq_false_iff_ne.mpr c4
  have c4b1 := bne_iff_ne.mpr c4
  simp only [Option.some.injEq, Prod.mk.injEq] at H
  obtain ⟨rfl, rfl, rfl⟩ := H
  go_enter Tryd.func15, Tryd.ntmps15
  go_wp2_with (first | ((with_reducible refine gate_dst (N := 2) rfl ?_); refine box_event ?hg (N := 2) ?hd (cs := #[.slice A0_0 l0_0.length c0_0, .bool a0_1]) (t := 24) ?hr ?_; (case hd => rfl); (case hg => rfl); (case hr => first | (go_simp; done) | (go_simp; rfl)); intro gb191 hg w101 hbox hb; have n0_ := Aside0.mk (Kd.V_below (Kd.V_elderB (by (with_reducible repeat (first | apply Kd.V_alloc | apply Kd.V_drewN | apply Kd.V_drew)); exact HO1.out) gb191 (Nat.le_of_eq hg.symm)) hb); have BK191 := Aside0.mk hbox; have GW191 := gw_ HB hg; have GE191 := gw_ HB hg; replace HB := hs_ HB hb; clear HO1; have HO1 := n0_; clear n0_; clear hb hbox hg) | ((with_reducible refine gate_dst (N := 4) rfl ?_); refine box_event ?hg (N := 4) ?hd (cs := #[.slice none 0 0, .bool false]) (t := 24) ?hr ?_; (case hd => rfl); (case hg => rfl); (case hr => first | (go_simp; done) | (go_simp; rfl)); intro gb192 hg w102 hbox hb; have n0_ := Aside0.mk (Kd.V_below (Kd.V_elderB (by (with_reducible repeat (first | apply Kd.V_alloc | apply Kd.V_drewN | apply Kd.V_drew)); exact HO1.out) gb192 (Nat.le_of_eq hg.symm)) hb); have BK192 := Aside0.mk hbox; have GW192 := gw_ HB hg; have GE192 := gw_ HB hg; have NB191_192 := nl_ BK191 hg; have NB192_191 := nr_ BK191 hg; replace BK191 := bb_ BK191 hb; replace HB := hs_ HB hb; clear HO1; have HO1 := n0_; clear n0_; clear hb hbox hg; have hnb103 := NB191_192.out; have hnc103 := NB192_191.out; obtain ⟨hcz104_0, hcz104_1, hfz104_0, hfz104_1⟩ := c2_ BK191) | ((with_reducible refine gate_callee (f := 37) rfl ?_); refine goesL_ (some 19) rfl rfl Tryd.func37 (by kernel_rfl) rfl #[.agg #[.slice A0_0 l0_0.length c0_0, .bool a0_1]] rfl gl_ ?_; (with_reducible refine (pattern_Kinds.calls k _ _ l0_0 a0_1 t193 t194 t195 _ ?side1 ?side2 A3.out).mono ?_); (case side1 => exact sd_); (case side2 => exact HC0_0.out); rintro e w105 ⟨rfl, hb⟩; refine ⟨_, rfl, ?_⟩; have n0_ := Aside0.mk (Kd.V_below (by (with_reducible repeat (first | apply Kd.V_alloc | apply Kd.V_drewN | apply Kd.V_drew)); exact HO1.out) hb); replace BK191 := bb_ BK191 hb; replace BK192 := bb_ BK192 hb; replace HB := hs_ HB hb; clear HO1; have HO1 := n0_; clear n0_; (try clear hb); obtain ⟨hcz106_0, hcz106_1, hfz106_0, hfz106_1⟩ := c2_ BK192))
  refine bodyPost_ret (results_ct rfl _ _ gb192 24 #[.slice none 0 0, .bool false] (0, 0) _ rfl bz_ Tryd.underlying24 rfl (by kernel_rfl)) rfl ?_
  exact ⟨_, rt_, rn_, hb_⟩

end Go.Proofs.YthclkdplihchjaaDoor.P

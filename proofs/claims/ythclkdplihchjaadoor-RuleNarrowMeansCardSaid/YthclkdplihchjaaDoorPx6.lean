-- Written by a program of this session (wip/gen.py) over the kit's print: each Go function as a plain Lean function, and the proof that the Go code comes to it. Nothing here is trusted: Lean checks it.
import Derived.Test.YthclkdplihchjaaDoorPx0
import Derived.Test.YthclkdplihchjaaDoorPx1
import Derived.Test.YthclkdplihchjaaDoorSq
namespace Go.Proofs.YthclkdplihchjaaDoor.P
open Go.RowKit Go.Proofs.YthclkdplihchjaaDoorW.PrintWords Go.Proofs.YthclkdplihchjaaDoorW.PrintLast Go.Proofs.YthclkdplihchjaaDoorW.PrintMore
attribute [local go_sem] str_gtr str_leq str_geq max2_int min2_int max_two min_two max_three min_three max_four min_four   -- for this text's walks alone
set_option linter.unusedVariables false
set_option linter.unusedSimpArgs false

/-! ### pattern_narrower: function 69 -/
def pattern_narrower.j0 : Nat → ByteArray → ByteArray → Int → ByteArray → Int → ByteArray → Bool → Option (ByteArray × Bool)
  | 0, _, _, _, _, _, _, _ => none
  | k + 1, x0, x1, x6, x7, x8, x9, x28 => if x28 = true then (some (x0, (x0.toList == x1.toList))) else (if x6 = 1 then ((pattern_capture.f x0 x9).bind fun bt296 => (some (x0, bt296.2))) else (if x8 = 1 then ((pattern_capture.f x1 x7).bind fun bt298 => (some (x1, bt298.2))) else ((strings_HasSuffix.f x7 x9).bind fun t300 => (if t300 = true then (some (x0, true)) else ((strings_HasSuffix.f x9 x7).bind fun t301 => (some (x1, t301)))))))
def pattern_narrower.f (k : Nat) (a0 : ByteArray) (a1 : ByteArray) : Option (ByteArray × Bool) := (pattern_formOf.f k a0).bind fun bt292 => ((pattern_formOf.f k a1).bind fun bt294 => (if bt292.1 = 1 then (pattern_narrower.j0 k a0 a1 bt292.1 bt292.2 bt294.1 bt294.2 (bt294.1 == 1)) else (pattern_narrower.j0 k a0 a1 bt292.1 bt292.2 bt294.1 bt294.2 false)))
set_option maxHeartbeats 8000000 in
set_option maxRecDepth 100000 in
theorem pattern_narrower.calls (k : Nat) (a0 : ByteArray) (a1 : ByteArray) (r1 : ByteArray) (r2 : Bool) (w : World) (h : pattern_narrower.f k a0 a1 = some (r1, r2)) :
  Calls Tryd.prog 69 #[.string a0, .string a1] w fun e w' => e = .returned (.tuple #[.string r1, .bool r2]) ∧ Drawn0 w w' := by
 have H : ((pattern_formOf.f k a0).bind fun bt292 => ((pattern_formOf.f k a1).bind fun bt294 => (if bt292.1 = 1 then (pattern_narrower.j0 k a0 a1 bt292.1 bt292.2 bt294.1 bt294.2 (bt294.1 == 1)) else (pattern_narrower.j0 k a0 a1 bt292.1 bt292.2 bt294.1 bt294.2 false)))) = some (r1, r2) := h
 clear h
 replace H := Option.bind_eq_some_iff.mp H
 obtain ⟨⟨t292, t293⟩, A30, H⟩ := H
 replace H : ((pattern_formOf.f k a1).bind fun bt294 => (if t292 = 1 then (pattern_narrower.j0 k a0 a1 t292 t293 bt294.1 bt294.2 (bt294.1 == 1)) else (pattern_narrower.j0 k a0 a1 t292 t293 bt294.1 bt294.2 false))) = some (r1, r2) := H
 have A3 := Aside0.mk A30
 clear A30
 replace H := Option.bind_eq_some_iff.mp H
 obtain ⟨⟨t294, t295⟩, A40, H⟩ := H
 replace H : (if t292 = 1 then (pattern_narrower.j0 k a0 a1 t292 t293 t294 t295 (t294 == 1)) else (pattern_narrower.j0 k a0 a1 t292 t293 t294 t295 false)) = some (r1, r2) := H
 have A4 := Aside0.mk A40
 clear A40
 have HC5 := Aside0.mk H
 clear H
 go_enter Tryd.func69, Tryd.ntmps69
 go_upto_region 4 with (first | ((with_reducible refine gate_callee (f := 39) rfl ?_); refine goesL_ (some 16) rfl rfl Tryd.func39 (by kernel_rfl) rfl #[.string a0] rfl gl_ ?_; (with_reducible refine (pattern_formOf.calls k a0 t292 t293 _ A3.out).mono ?_); rintro e w' ⟨rfl, ⟨nd, rfl⟩⟩; refine ⟨_, rfl, ?_⟩) | ((with_reducible refine gate_callee (f := 39) rfl ?_); refine goesL_ (some 21) rfl rfl Tryd.func39 (by kernel_rfl) rfl #[.string a1] rfl gl_ ?_; (with_reducible refine (pattern_formOf.calls k a1 t294 t295 _ A4.out).mono ?_); rintro e w' ⟨rfl, ⟨nd, rfl⟩⟩; refine ⟨_, rfl, ?_⟩))
 (try simp only [Act.put, List.setIfInBounds_toArray, List.set_cons_zero, List.set_cons_succ])
 go_cut [28] (fun v28 wc => ∃ (kq : Nat) (x28_4 : Bool), v28 = .bool x28_4 ∧ Aside0 (pattern_narrower.j0 kq a0 a1 t292 t293 t294 t295 x28_4 = some (r1, r2)) ∧ Aside0 (kq ≤ k) ∧ Drawn0 w wc)
 case first =>
  have H := HC5.out
  clear HC5
  by_cases c6 : t292 = 1
  ·rw [if_pos c6] at H
   have c6b0 := beq_iff_eq.mpr c6
   have c6b1 := bne_eq_false_iff_eq.mpr c6
   clear c6
   (first | rw [c6b0] | (simp only [i64_w, i32_w]; rw [c6b0]) | skip)
   have H' := Aside0.mk H
   clear H
   go_wp2
   go_meet
   case rel => exact ⟨_, ((t294 == 1)), rs_, H', ⟨om_⟩, dr_⟩
  ·rw [if_neg c6] at H
   have c6b0 := beq_eq_false_iff_ne.mpr c6
   have c6b1 := bne_iff_ne.mpr c6
   (first | rw [c6b0] | (simp only [i64_w, i32_w]; rw [c6b0]) | skip)
   have H' := Aside0.mk H
   clear H
   go_wp2
   go_meet
   case rel => exact ⟨_, (false), rs_, H', ⟨om_⟩, dr_⟩
 case rest =>
  clear HC5
  obtain ⟨kq, x28_4, rfl, HA, HJ4, ⟨mc4, rfl⟩⟩ := hcut
  cases kq with
  | zero => exact absurd HA.out (by simp [pattern_narrower.j0])
  | succ kj4 =>
   have H := HA.out
   clear HA
   simp only [pattern_narrower.j0] at H
   by_cases c7 : x28_4 = true
   ·subst c7
    replace H := ip_ H
    simp only [Option.some.injEq, Prod.mk.injEq] at H
    obtain ⟨rfl, rfl⟩ := H
    go_wp2
    go_ret2
    exact ⟨by first | rfl | (simp; done) | (simp [*]; done), dr_⟩
   ·replace c7 := Bool.eq_false_iff.mpr c7
    subst c7
    replace H := in_ H
    by_cases c8 : t292 = 1
    rw [if_pos c8] at H
    have c8b0 := beq_iff_eq.mpr c8
    have c8b1 := bne_eq_false_iff_eq.mpr c8
    clear c8
    replace H := Option.bind_eq_some_iff.mp H
    obtain ⟨⟨t296, t297⟩, A90, H⟩ := H
    replace H : (some (a0, t297)) = some (r1, r2) := H
    have A9 := Aside0.mk A90
    clear A90
    simp only [Option.some.injEq, Prod.mk.injEq] at H
    obtain ⟨rfl, rfl⟩ := H
    rotate_left
    rw [if_neg c8] at H
    have c8b0 := beq_eq_false_iff_ne.mpr c8
    have c8b1 := bne_iff_ne.mpr c8
    by_cases c10 : t294 = 1
    rw [if_pos c10] at H
    have c10b0 := beq_iff_eq.mpr c10
    have c10b1 := bne_eq_false_iff_eq.mpr c10
    clear c10
    replace H := Option.bind_eq_some_iff.mp H
    obtain ⟨⟨t298, t299⟩, A110, H⟩ := H
    replace H : (some (a1, t299)) = some (r1, r2) := H
    have A11 := Aside0.mk A110
    clear A110
    simp only [Option.some.injEq, Prod.mk.injEq] at H
    obtain ⟨rfl, rfl⟩ := H
    rotate_left
    rw [if_neg c10] at H
    have c10b0 := beq_eq_false_iff_ne.mpr c10
    have c10b1 := bne_iff_ne.mpr c10
    replace H := Option.bind_eq_some_iff.mp H
    obtain ⟨t300, A120, H⟩ := H
    replace H : (if t300 = true then (some (a0, true)) else ((strings_HasSuffix.f t295 t293).bind fun t301 => (some (a1, t301)))) = some (r1, r2) := H
    have A12 := Aside0.mk A120
    clear A120
    by_cases c13 : t300 = true
    subst c13
    replace H := ip_ H
    simp only [Option.some.injEq, Prod.mk.injEq] at H
    obtain ⟨rfl, rfl⟩ := H
    rotate_left
    replace c13 := Bool.eq_false_iff.mpr c13
    subst c13
    replace H := in_ H
    replace H := Option.bind_eq_some_iff.mp H
    obtain ⟨t301, A140, H⟩ := H
    replace H : (some (a1, t301)) = some (r1, r2) := H
    have A14 := Aside0.mk A140
    clear A140
    simp only [Option.some.injEq, Prod.mk.injEq] at H
    obtain ⟨rfl, rfl⟩ := H
    rotate_left
    all_goals go_wp2_with (first | ((with_reducible refine gate_callee (f := 79) rfl ?_); refine goesL_ (some 64) rfl rfl Tryd.func79 (by kernel_rfl) rfl #[.string t293, .string t295] rfl gl_ ?_; (with_reducible refine (strings_HasSuffix.calls t293 t295 false _ A12.out).mono ?_); rintro e w' ⟨rfl, ⟨nd, rfl⟩⟩; refine ⟨_, rfl, ?_⟩) | ((with_reducible refine gate_callee (f := 79) rfl ?_); refine goesL_ (some 27) rfl rfl Tryd.func79 (by kernel_rfl) rfl #[.string t295, .string t293] rfl gl_ ?_; (with_reducible refine (strings_HasSuffix.calls t295 t293 t301 _ A14.out).mono ?_); rintro e w' ⟨rfl, ⟨nd, rfl⟩⟩; refine ⟨_, rfl, ?_⟩) | ((with_reducible refine gate_callee (f := 63) rfl ?_); refine goesL_ (some 45) rfl rfl Tryd.func63 (by kernel_rfl) rfl #[.string a0, .string t295] rfl gl_ ?_; (with_reducible refine (pattern_capture.calls a0 t295 t296 t297 _ A9.out).mono ?_); rintro e w' ⟨rfl, ⟨nd, rfl⟩⟩; refine ⟨_, rfl, ?_⟩) | ((with_reducible refine gate_callee (f := 63) rfl ?_); refine goesL_ (some 56) rfl rfl Tryd.func63 (by kernel_rfl) rfl #[.string a1, .string t293] rfl gl_ ?_; (with_reducible refine (pattern_capture.calls a1 t293 t298 t299 _ A11.out).mono ?_); rintro e w' ⟨rfl, ⟨nd, rfl⟩⟩; refine ⟨_, rfl, ?_⟩) | ((with_reducible refine gate_callee (f := 79) rfl ?_); refine goesL_ (some 64) rfl rfl Tryd.func79 (by kernel_rfl) rfl #[.string t293, .string t295] rfl gl_ ?_; (with_reducible refine (strings_HasSuffix.calls t293 t295 true _ A12.out).mono ?_); rintro e w' ⟨rfl, ⟨nd, rfl⟩⟩; refine ⟨_, rfl, ?_⟩))
    ·go_ret2
     exact ⟨by first | rfl | (simp; done) | (simp [*]; done), dr_⟩
    ·go_ret2
     exact ⟨by first | rfl | (simp; done) | (simp [*]; done), dr_⟩
    ·go_ret2
     exact ⟨by first | rfl | (simp; done) | (simp [*]; done), dr_⟩
    ·go_ret2
     exact ⟨by first | rfl | (simp; done) | (simp [*]; done), dr_⟩

/-! ### pattern_Meet: function 44 -/
theorem hb_b {P : Prop} (p : P := by repeat (first | (with_reducible first | exact HB.out | apply below_alloc | apply pw_below_drewN | apply below_drew1 | refine below_set ?_ (Aside0.out (by assumption))) | exact HB.out)) : P := p
theorem bk_b {P : Prop} (p : P := by (with_reducible repeat (first | refine blk_drewN ?_ _ | refine blk_drew ?_ | refine blk_alloc ?_ _)); exact Aside0.out (by assumption)) : P := p
mutual
def pattern_Meet.j0 : Nat → Bool → List ByteArray → Bool → List ByteArray → Bool → Option (List ByteArray × Bool × Bool)
  | 0, _, _, _, _, _ => none
  | k + 1, x19, x303000, x303001, x304000, x304001 => if x19 = true then (some (([] : List ByteArray), false, false)) else (if (x303000.length : Int) > (x304000.length : Int) then (if (x304000.length : Int) < (x303000.length : Int) then (pattern_Meet.j1 k (x304000.length : Int) (!x304001) x304000 x304001 x303000 x303001) else (pattern_Meet.j1 k (x304000.length : Int) false x304000 x304001 x303000 x303001)) else (if (x303000.length : Int) < (x304000.length : Int) then (pattern_Meet.j4 k (x303000.length : Int) (!x303001) x303000 x303001 x304000 x304001) else (pattern_Meet.j4 k (x303000.length : Int) false x303000 x303001 x304000 x304001)))
def pattern_Meet.j2 : Nat → Int → List ByteArray → Bool → List ByteArray → Bool → Option (List ByteArray × Bool × Bool)
  | 0, _, _, _, _, _ => none
  | k + 1, x6, x303000, x303001, x304000, x304001 => if 0 ≤ (x304000.length : Int) then (if ((x304000.length : Int) : Int).toNat ≤ 17592186044416 then (pattern_Meet.l0 k x6 (List.replicate 0 (⟨#[]⟩ : ByteArray)) x303000 (x303000.length : Int) 0 x304000 x304001) else (none)) else (none)
def pattern_Meet.l0 : Nat → Int → List ByteArray → List ByteArray → Int → Int → List ByteArray → Bool → Option (List ByteArray × Bool × Bool)
  | 0, _, _, _, _, _, _, _ => none
  | k + 1, x6, x7, x64, x65, x66, x304000, x304001 => if x66 < x65 then (if 0 ≤ x66 then (if x66 < (x64.length : Int) then (if x66 < (x304000.length : Int) then ((pattern_narrower.f k (rdOf ByteArray.empty x64 x66) (rdOf ByteArray.empty x304000 x66)).bind fun bt312 => (if bt312.2 = true then (if x7.length < 8796093022208 then (pattern_Meet.l0 k x6 (x7 ++ [bt312.1]) x64 x65 (wrap64 (x66 + 1)) x304000 x304001) else (none)) else (some (([] : List ByteArray), false, false)))) else (none)) else (none)) else (none)) else (if 0 ≤ x6 then (if x6 ≤ (x7.length : Int) then (if (x7.length : Int) ≤ x6 then ((some (x7.take (x6 : Int).toNat : List ByteArray)).bind fun y317 => (if x6 ≤ (x304000.length : Int) then (if y317.length + (x304000.drop (x6 : Int).toNat).length < 8796093022208 then (some ((y317 ++ (x304000.drop (x6 : Int).toNat)), x304001, true)) else (none)) else (none))) else (none)) else (none)) else (none))
def pattern_Meet.j1 : Nat → Int → Bool → List ByteArray → Bool → List ByteArray → Bool → Option (List ByteArray × Bool × Bool)
  | 0, _, _, _, _, _, _ => none
  | k + 1, x6, x33, x303000, x303001, x304000, x304001 => if x33 = true then (some (([] : List ByteArray), false, false)) else (if x6 = (x304000.length : Int) then (if (x303001 != x304001) = true then (some (([] : List ByteArray), false, false)) else (pattern_Meet.j2 k x6 x303000 x303001 x304000 x304001)) else (pattern_Meet.j2 k x6 x303000 x303001 x304000 x304001))
def pattern_Meet.j5 : Nat → Int → List ByteArray → Bool → List ByteArray → Bool → Option (List ByteArray × Bool × Bool)
  | 0, _, _, _, _, _ => none
  | k + 1, x6, x303000, x303001, x304000, x304001 => if 0 ≤ (x304000.length : Int) then (if ((x304000.length : Int) : Int).toNat ≤ 17592186044416 then (pattern_Meet.l100 k x6 (List.replicate 0 (⟨#[]⟩ : ByteArray)) x303000 (x303000.length : Int) 0 x304000 x304001) else (none)) else (none)
def pattern_Meet.l100 : Nat → Int → List ByteArray → List ByteArray → Int → Int → List ByteArray → Bool → Option (List ByteArray × Bool × Bool)
  | 0, _, _, _, _, _, _, _ => none
  | k + 1, x6, x7, x64, x65, x66, x304000, x304001 => if x66 < x65 then (if 0 ≤ x66 then (if x66 < (x64.length : Int) then (if x66 < (x304000.length : Int) then ((pattern_narrower.f k (rdOf ByteArray.empty x64 x66) (rdOf ByteArray.empty x304000 x66)).bind fun bt329 => (if bt329.2 = true then (if x7.length < 8796093022208 then (pattern_Meet.l100 k x6 (x7 ++ [bt329.1]) x64 x65 (wrap64 (x66 + 1)) x304000 x304001) else (none)) else (some (([] : List ByteArray), false, false)))) else (none)) else (none)) else (none)) else (if 0 ≤ x6 then (if x6 ≤ (x7.length : Int) then (if (x7.length : Int) ≤ x6 then ((some (x7.take (x6 : Int).toNat : List ByteArray)).bind fun y334 => (if x6 ≤ (x304000.length : Int) then (if y334.length + (x304000.drop (x6 : Int).toNat).length < 8796093022208 then (some ((y334 ++ (x304000.drop (x6 : Int).toNat)), x304001, true)) else (none)) else (none))) else (none)) else (none)) else (none))
def pattern_Meet.j4 : Nat → Int → Bool → List ByteArray → Bool → List ByteArray → Bool → Option (List ByteArray × Bool × Bool)
  | 0, _, _, _, _, _, _ => none
  | k + 1, x6, x33, x303000, x303001, x304000, x304001 => if x33 = true then (some (([] : List ByteArray), false, false)) else (if x6 = (x304000.length : Int) then (if (x303001 != x304001) = true then (some (([] : List ByteArray), false, false)) else (pattern_Meet.j5 k x6 x303000 x303001 x304000 x304001)) else (pattern_Meet.j5 k x6 x303000 x303001 x304000 x304001))
end
def pattern_Meet.f (k : Nat) (l0_0 : List ByteArray) (a0_1 : Bool) (l1_0 : List ByteArray) (a1_1 : Bool) : Option (List ByteArray × Bool × Bool) := (pattern_Check.f k l0_0 a0_1).bind fun t305 => (if t305 = 0 then ((pattern_Check.f k l1_0 a1_1).bind fun t306 => (pattern_Meet.j0 k (t306 != 0) l0_0 a0_1 l1_0 a1_1)) else (pattern_Meet.j0 k true l0_0 a0_1 l1_0 a1_1))
def pattern_Meet.T19 : Bool × List (List Nat × List Nat) := (true, [([], []), ([], []), ([], []), ([0, 1, 2], [0, 1, 2]), ([], []), ([4], [4]), ([], []), ([5, 6], [5, 6]), ([3, 7], [3, 7]), ([8, 8, 0, 1, 2, 3, 4, 5, 6, 7, 8], [0, 8])])
def pattern_Meet.B19 : List Nat := [0, 0, 0, 7, 0, 16, 0, 112, 255, 511]
theorem pattern_Meet.tab19 : rtab .any (opsOf Tryd.f44 19) = pattern_Meet.T19 := by kernel_rfl
theorem pattern_Meet.bits19 : waitsOk pattern_Meet.T19.2 pattern_Meet.B19 = true := by kernel_rfl
set_option maxHeartbeats 8000000 in
set_option maxRecDepth 100000 in
theorem pattern_Meet.calls (k : Nat) (A0_0 : Option Addr) (c0_0 : Nat) (l0_0 : List ByteArray) (a0_1 : Bool) (A1_0 : Option Addr) (c1_0 : Nat) (l1_0 : List ByteArray) (a1_1 : Bool) (r1 : List ByteArray) (r2 : Bool) (r3 : Bool) (w : World) (hr0_0 : Kd.C Kd.string w A0_0 l0_0.length l0_0) (hc0_0 : l0_0.length ≤ c0_0) (hr1_0 : Kd.C Kd.string w A1_0 l1_0.length l1_0) (hc1_0 : l1_0.length ≤ c1_0) (h : pattern_Meet.f k l0_0 a0_1 l1_0 a1_1 = some (r1, r2, r3)) :
  Calls Tryd.prog 44 #[.agg #[.slice A0_0 l0_0.length c0_0, .bool a0_1], .agg #[.slice A1_0 l1_0.length c1_0, .bool a1_1]] w fun e w' => ∃ v0_ : Value, e = .returned (.tuple #[.agg #[v0_, .bool r2], .bool r3]) ∧ Kd.R Kd.string 9 w' w.heap.size (fun _ => True) v0_ r1 ∧ Below w.heap.size w w' := by
 have hu24 := Tryd.underlying24
 have HR0_0 := Aside0.mk hr0_0
 have HC0_0 := Aside0.mk hc0_0
 clear hr0_0 hc0_0
 have HR1_0 := Aside0.mk hr1_0
 have HC1_0 := Aside0.mk hc1_0
 clear hr1_0 hc1_0
 have HB := Aside0.mk (Below.refl w.heap.size w)
 have H : ((pattern_Check.f k l0_0 a0_1).bind fun t305 => (if t305 = 0 then ((pattern_Check.f k l1_0 a1_1).bind fun t306 => (pattern_Meet.j0 k (t306 != 0) l0_0 a0_1 l1_0 a1_1)) else (pattern_Meet.j0 k true l0_0 a0_1 l1_0 a1_1))) = some (r1, r2, r3) := h
 clear h
 have HC3 := Aside0.mk H
 clear H
 go_enter Tryd.func44, Tryd.ntmps44
 go_upto_region 1 with (first | ((with_reducible refine gate_dst (N := 2) rfl ?_); refine box_event ?hg (N := 2) ?hd (cs := #[.slice A0_0 l0_0.length c0_0, .bool a0_1]) (t := 24) ?hr ?_; (case hd => rfl); (case hg => rfl); (case hr => first | (go_simp; done) | (go_simp; rfl)); intro gb302 hg w4 hbox hb; have n0_ := Aside0.mk (below_step hb_b hb); have n2_ := Aside0.mk ((by rw [hg]; exact (below_size hb_b) : w.heap.size ≤ gb302)); have n3_ := Aside0.mk ((by rw [hg]; exact (below_size hb_b) : w.heap.size ≤ gb302)); have BK302 := Aside0.mk hbox; clear HB; have HB := n0_; have GW302 := n2_; have GE302 := n3_; clear n0_ n2_ n3_; clear hb hbox hg) | ((with_reducible refine gate_dst (N := 3) rfl ?_); refine box_event ?hg (N := 3) ?hd (cs := #[.slice A1_0 l1_0.length c1_0, .bool a1_1]) (t := 24) ?hr ?_; (case hd => rfl); (case hg => rfl); (case hr => first | (go_simp; done) | (go_simp; rfl)); intro gb303 hg w5 hbox hb; have n0_ := Aside0.mk (blk_below (g := gb302) (o := .cells #[.slice A0_0 l0_0.length c0_0, .bool a0_1] 24 (0, 0)) bk_b hb); have n1_ := Aside0.mk (below_step hb_b hb); have n3_ := Aside0.mk ((by rw [hg]; exact (below_size hb_b) : w.heap.size ≤ gb303)); have n4_ := Aside0.mk ((by rw [hg]; exact (below_size hb_b) : w.heap.size ≤ gb303)); have n5_ := Aside0.mk ((by rw [hg]; exact Nat.ne_of_lt (blk_lt (g := gb302) (o := .cells #[.slice A0_0 l0_0.length c0_0, .bool a0_1] 24 (0, 0)) bk_b) : gb302 ≠ gb303)); have n6_ := Aside0.mk ((by rw [hg]; exact Nat.ne_of_gt (blk_lt (g := gb302) (o := .cells #[.slice A0_0 l0_0.length c0_0, .bool a0_1] 24 (0, 0)) bk_b) : gb303 ≠ gb302)); have BK303 := Aside0.mk hbox; clear BK302 HB; have BK302 := n0_; have HB := n1_; have GW303 := n3_; have GE303 := n4_; have NB302_303 := n5_; have NB303_302 := n6_; clear n0_ n1_ n3_ n4_ n5_ n6_; clear hb hbox hg) | ((with_reducible refine gate_dst (N := 4) rfl ?_); refine box_event ?hg (N := 4) ?hd (cs := #[.slice none 0 0, .bool false]) (t := 24) ?hr ?_; (case hd => rfl); (case hg => rfl); (case hr => first | (go_simp; done) | (go_simp; rfl)); intro gb304 hg w6 hbox hb; have n0_ := Aside0.mk (blk_below (g := gb302) (o := .cells #[.slice A0_0 l0_0.length c0_0, .bool a0_1] 24 (0, 0)) bk_b hb); have n1_ := Aside0.mk (blk_below (g := gb303) (o := .cells #[.slice A1_0 l1_0.length c1_0, .bool a1_1] 24 (0, 0)) bk_b hb); have n2_ := Aside0.mk (below_step hb_b hb); have n4_ := Aside0.mk ((by rw [hg]; exact (below_size hb_b) : w.heap.size ≤ gb304)); have n5_ := Aside0.mk ((by rw [hg]; exact (below_size hb_b) : w.heap.size ≤ gb304)); have n6_ := Aside0.mk ((by rw [hg]; exact Nat.ne_of_lt (blk_lt (g := gb302) (o := .cells #[.slice A0_0 l0_0.length c0_0, .bool a0_1] 24 (0, 0)) bk_b) : gb302 ≠ gb304)); have n7_ := Aside0.mk ((by rw [hg]; exact Nat.ne_of_gt (blk_lt (g := gb302) (o := .cells #[.slice A0_0 l0_0.length c0_0, .bool a0_1] 24 (0, 0)) bk_b) : gb304 ≠ gb302)); have n8_ := Aside0.mk ((by rw [hg]; exact Nat.ne_of_lt (blk_lt (g := gb303) (o := .cells #[.slice A1_0 l1_0.length c1_0, .bool a1_1] 24 (0, 0)) bk_b) : gb303 ≠ gb304)); have n9_ := Aside0.mk ((by rw [hg]; exact Nat.ne_of_gt (blk_lt (g := gb303) (o := .cells #[.slice A1_0 l1_0.length c1_0, .bool a1_1] 24 (0, 0)) bk_b) : gb304 ≠ gb303)); have BK304 := Aside0.mk hbox; clear BK302 BK303 HB; have BK302 := n0_; have BK303 := n1_; have HB := n2_; have GW304 := n4_; have GE304 := n5_; have NB302_304 := n6_; have NB304_302 := n7_; have NB303_304 := n8_; have NB304_303 := n9_; clear n0_ n1_ n2_ n4_ n5_ n6_ n7_ n8_ n9_; clear hb hbox hg))
 (try simp only [Act.put, List.setIfInBounds_toArray, List.set_cons_zero, List.set_cons_succ])
 go_cut [19] (fun v19 wc => ∃ (kq : Nat) (x19_2 : Bool), v19 = .bool x19_2 ∧ Aside0 (pattern_Meet.j0 kq x19_2 l0_0 a0_1 l1_0 a1_1 = some (r1, r2, r3)) ∧ Aside0 (kq ≤ k) ∧ Aside0 (wc.heap[gb302]? = some (.cells #[(.slice A0_0 l0_0.length c0_0), .bool a0_1] 24 (0, 0))) ∧ Aside0 (wc.heap[gb303]? = some (.cells #[(.slice A1_0 l1_0.length c1_0), .bool a1_1] 24 (0, 0))) ∧ Aside0 (wc.heap[gb304]? = some (.cells #[(.slice none 0 0), .bool false] 24 (0, 0))) ∧ Aside0 (Below w.heap.size w wc))
 case first =>
  have H := HC3.out
  clear HC3
  replace H := Option.bind_eq_some_iff.mp H
  obtain ⟨t305, A70, H⟩ := H
  replace H : (if t305 = 0 then ((pattern_Check.f k l1_0 a1_1).bind fun t306 => (pattern_Meet.j0 k (t306 != 0) l0_0 a0_1 l1_0 a1_1)) else (pattern_Meet.j0 k true l0_0 a0_1 l1_0 a1_1)) = some (r1, r2, r3) := H
  have A7 := Aside0.mk A70
  clear A70
  by_cases c8 : t305 = 0
  ·rw [if_pos c8] at H
   have c8b0 := beq_iff_eq.mpr c8
   have c8b1 := bne_eq_false_iff_eq.mpr c8
   clear c8
   (first | rw [c8b0] | (simp only [i64_w, i32_w]; rw [c8b0]) | skip)
   replace H := Option.bind_eq_some_iff.mp H
   obtain ⟨t306, A90, H⟩ := H
   replace H : (pattern_Meet.j0 k (t306 != 0) l0_0 a0_1 l1_0 a1_1) = some (r1, r2, r3) := H
   have A9 := Aside0.mk A90
   clear A90
   have H' := Aside0.mk H
   clear H
   have hnb10 := NB302_303.out
   have hnc10 := NB303_302.out
   have hnb11 := NB302_304.out
   have hnc11 := NB304_302.out
   obtain ⟨hcz12_0, hcz12_1, hfz12_0, hfz12_1⟩ := c2_ BK302
   go_wp2_with (first | ((with_reducible refine gate_callee (f := 48) rfl ?_); refine goesL_ (some 13) rfl rfl Tryd.func48 (by kernel_rfl) rfl #[.agg #[.slice A0_0 l0_0.length c0_0, .bool a0_1]] rfl gl_ ?_; (with_reducible refine (pattern_Check.calls k _ _ l0_0 a0_1 t305 _ ?side1 ?side2 A7.out).mono ?_); (case side1 => exact sd_); (case side2 => exact HC0_0.out); rintro e w13 ⟨rfl, hb⟩; refine ⟨_, rfl, ?_⟩; have n0_ := Aside0.mk (blk_below (g := gb302) (o := .cells #[.slice A0_0 l0_0.length c0_0, .bool a0_1] 24 (0, 0)) bk_b hb); have n1_ := Aside0.mk (blk_below (g := gb303) (o := .cells #[.slice A1_0 l1_0.length c1_0, .bool a1_1] 24 (0, 0)) bk_b hb); have n2_ := Aside0.mk (blk_below (g := gb304) (o := .cells #[.slice none 0 0, .bool false] 24 (0, 0)) bk_b hb); have n3_ := Aside0.mk (below_step hb_b hb); clear BK302 BK303 BK304 HB; have BK302 := n0_; have BK303 := n1_; have BK304 := n2_; have HB := n3_; clear n0_ n1_ n2_ n3_; (try clear hb); have hnb14 := NB303_304.out; have hnc14 := NB304_303.out; obtain ⟨hcz15_0, hcz15_1, hfz15_0, hfz15_1⟩ := c2_ BK303) | (go_at_call 48; (with_reducible refine (pattern_Check.calls k _ _ l1_0 a1_1 t306 _ ?side1 ?side2 A9.out).mono ?_); (case side1 => exact sd_); (case side2 => exact HC1_0.out); rintro e w16 ⟨rfl, hb⟩; have n0_ := Aside0.mk (blk_below (g := gb302) (o := .cells #[.slice A0_0 l0_0.length c0_0, .bool a0_1] 24 (0, 0)) bk_b hb); have n1_ := Aside0.mk (blk_below (g := gb303) (o := .cells #[.slice A1_0 l1_0.length c1_0, .bool a1_1] 24 (0, 0)) bk_b hb); have n2_ := Aside0.mk (blk_below (g := gb304) (o := .cells #[.slice none 0 0, .bool false] 24 (0, 0)) bk_b hb); have n3_ := Aside0.mk (below_step hb_b hb); clear BK302 BK303 BK304 HB; have BK302 := n0_; have BK303 := n1_; have BK304 := n2_; have HB := n3_; clear n0_ n1_ n2_ n3_; (try clear hb)))
   go_meet
   case rel => exact ⟨_, ((t306 != 0)), rs_, H', ⟨om_⟩, ⟨bk_b⟩, ⟨bk_b⟩, ⟨bk_b⟩, ⟨hb_b⟩⟩
  ·rw [if_neg c8] at H
   have c8b0 := beq_eq_false_iff_ne.mpr c8
   have c8b1 := bne_iff_ne.mpr c8
   (first | rw [c8b0] | (simp only [i64_w, i32_w]; rw [c8b0]) | skip)
   have H' := Aside0.mk H
   clear H
   have hnb17 := NB302_303.out
   have hnc17 := NB303_302.out
   have hnb18 := NB302_304.out
   have hnc18 := NB304_302.out
   obtain ⟨hcz19_0, hcz19_1, hfz19_0, hfz19_1⟩ := c2_ BK302
   go_wp2_with (first | ((with_reducible refine gate_callee (f := 48) rfl ?_); refine goesL_ (some 13) rfl rfl Tryd.func48 (by kernel_rfl) rfl #[.agg #[.slice A0_0 l0_0.length c0_0, .bool a0_1]] rfl gl_ ?_; (with_reducible refine (pattern_Check.calls k _ _ l0_0 a0_1 t305 _ ?side1 ?side2 A7.out).mono ?_); (case side1 => exact sd_); (case side2 => exact HC0_0.out); rintro e w20 ⟨rfl, hb⟩; refine ⟨_, rfl, ?_⟩; have n0_ := Aside0.mk (blk_below (g := gb302) (o := .cells #[.slice A0_0 l0_0.length c0_0, .bool a0_1] 24 (0, 0)) bk_b hb); have n1_ := Aside0.mk (blk_below (g := gb303) (o := .cells #[.slice A1_0 l1_0.length c1_0, .bool a1_1] 24 (0, 0)) bk_b hb); have n2_ := Aside0.mk (blk_below (g := gb304) (o := .cells #[.slice none 0 0, .bool false] 24 (0, 0)) bk_b hb); have n3_ := Aside0.mk (below_step hb_b hb); clear BK302 BK303 BK304 HB; have BK302 := n0_; have BK303 := n1_; have BK304 := n2_; have HB := n3_; clear n0_ n1_ n2_ n3_; (try clear hb)))
   go_meet
   case rel => exact ⟨_, (true), rs_, H', ⟨om_⟩, ⟨bk_b⟩, ⟨bk_b⟩, ⟨bk_b⟩, ⟨hb_b⟩⟩
 case rest =>
  clear HC3
  (try clear BK302); (try clear BK303); (try clear BK304); (try clear HB)
  obtain ⟨kq, x19_2, rfl, HA, HJ2, BK302, BK303, BK304, HB⟩ := hcut
  cases kq with
  | zero => exact absurd HA.out (by simp [pattern_Meet.j0])
  | succ kj2 =>
   have H := HA.out
   clear HA
   simp only [pattern_Meet.j0] at H
   by_cases c21 : x19_2 = true
   ·subst c21
    replace H := ip_ H
    simp only [Option.some.injEq, Prod.mk.injEq] at H
    obtain ⟨rfl, rfl, rfl⟩ := H
    have hnb22 := NB304_302.out
    have hnc22 := NB302_304.out
    have hnb23 := NB304_303.out
    have hnc23 := NB303_304.out
    obtain ⟨hcz24_0, hcz24_1, hfz24_0, hfz24_1⟩ := c2_ BK304
    go_wp2
    refine bodyPost_ret (results_ct rfl _ _ gb304 24 #[.slice none 0 0, .bool false] (0, 0) _ rfl bz_ Tryd.underlying24 rfl (by kernel_rfl)) rfl ?_
    exact ⟨_, rt_, rn_, hb_b⟩
   ·replace c21 := Bool.eq_false_iff.mpr c21
    subst c21
    replace H := in_ H
    by_cases c25 : (l0_0.length : Int) > (l1_0.length : Int)
    ·rw [if_pos c25] at H
     have c25b0 := decide_eq_true c25
     have c25b1 : decide (l1_0.length < l0_0.length) = true := decide_eq_true (Int.ofNat_lt.mp c25)
     clear c25
     have HC26 := Aside0.mk H
     clear H
     have hnb27 := NB302_303.out
     have hnc27 := NB303_302.out
     have hnb28 := NB302_304.out
     have hnc28 := NB304_302.out
     obtain ⟨hcz29_0, hcz29_1, hfz29_0, hfz29_1⟩ := c2_ BK302
     have hnb30 := NB303_304.out
     have hnc30 := NB304_303.out
     obtain ⟨hcz31_0, hcz31_1, hfz31_0, hfz31_1⟩ := c2_ BK303
     go_upto_block 0 with (fail)
     go_cut [] (fun wc => ∃ (kq : Nat) (x305001_25 : Bool), Aside0 (pattern_Meet.j2 kq (l1_0.length : Int) l1_0 a1_1 l0_0 a0_1 = some (r1, r2, r3)) ∧ Aside0 (kq ≤ kj2) ∧ Aside0 (wc.heap[gb302]? = some (.cells #[(.slice A1_0 l1_0.length c1_0), .bool a1_1] 24 (0, 0))) ∧ Aside0 (wc.heap[gb303]? = some (.cells #[(.slice A0_0 l0_0.length c0_0), .bool a0_1] 24 (0, 0))) ∧ Aside0 (wc.heap[gb304]? = some (.cells #[(.slice none 0 0), .bool x305001_25] 24 (0, 0))) ∧ Aside0 (Below w.heap.size w wc))
     case first =>
      have H := HC26.out
      clear HC26
      have HC32 := Aside0.mk H
      clear H
      go_upto_region 6 with (fail)
      go_cut [33] (fun v33 wc => ∃ (kq : Nat) (x33_31 : Bool), v33 = .bool x33_31 ∧ Aside0 (pattern_Meet.j1 kq (l1_0.length : Int) x33_31 l1_0 a1_1 l0_0 a0_1 = some (r1, r2, r3)) ∧ Aside0 (kq ≤ kj2) ∧ Aside0 (wc.heap[gb302]? = some (.cells #[(.slice A1_0 l1_0.length c1_0), .bool a1_1] 24 (0, 0))) ∧ Aside0 (wc.heap[gb303]? = some (.cells #[(.slice A0_0 l0_0.length c0_0), .bool a0_1] 24 (0, 0))) ∧ Aside0 (wc.heap[gb304]? = some (.cells #[(.slice none 0 0), .bool false] 24 (0, 0))) ∧ Aside0 (Below w.heap.size w wc))
      case first =>
       have H := HC32.out
       clear HC32
       by_cases c33 : (l1_0.length : Int) < (l0_0.length : Int)
       ·rw [if_pos c33] at H
        have c33b0 := decide_eq_true c33
        have c33b1 : decide (l1_0.length < l0_0.length) = true := decide_eq_true (Int.ofNat_lt.mp c33)
        clear c33
        (first | rw [c33b0] | (simp only [i64_w, i32_w]; rw [c33b0]) | skip)
        have H' := Aside0.mk H
        clear H
        have hnb34 := NB303_302.out
        have hnc34 := NB302_303.out
        have hnb35 := NB303_304.out
        have hnc35 := NB304_303.out
        obtain ⟨hcz36_0, hcz36_1, hfz36_0, hfz36_1⟩ := c2_ BK303
        have hnb37 := NB302_304.out
        have hnc37 := NB304_302.out
        obtain ⟨hcz38_0, hcz38_1, hfz38_0, hfz38_1⟩ := c2_ BK302
        go_wp2
        go_meet
        case rel => exact ⟨_, (!a1_1), rs_, H', ⟨by have := HJ2.out; first | omega | exact Nat.le_refl _⟩, ⟨by (with_reducible repeat (first | refine blk_drewN ?_ _ | refine blk_drew ?_ | refine blk_alloc ?_ _)); refine blk_far ?_ NB302_303.out _; (with_reducible repeat (first | refine blk_drewN ?_ _ | refine blk_drew ?_ | refine blk_alloc ?_ _)); refine blk_far ?_ NB302_303.out _; (with_reducible repeat (first | refine blk_drewN ?_ _ | refine blk_drew ?_ | refine blk_alloc ?_ _)); refine blk_put (cs := #[.slice A1_0 l1_0.length c1_0, .bool a0_1]) ?_ 1 _ rfl; (with_reducible repeat (first | refine blk_drewN ?_ _ | refine blk_drew ?_ | refine blk_alloc ?_ _)); refine blk_put (cs := #[.slice A0_0 l0_0.length c0_0, .bool a0_1]) ?_ 0 _ rfl; (with_reducible repeat (first | refine blk_drewN ?_ _ | refine blk_drew ?_ | refine blk_alloc ?_ _)); exact BK302.out⟩, ⟨by (with_reducible repeat (first | refine blk_drewN ?_ _ | refine blk_drew ?_ | refine blk_alloc ?_ _)); refine blk_put (cs := #[.slice A0_0 l0_0.length c0_0, .bool a1_1]) ?_ 1 _ rfl; (with_reducible repeat (first | refine blk_drewN ?_ _ | refine blk_drew ?_ | refine blk_alloc ?_ _)); refine blk_put (cs := #[.slice A1_0 l1_0.length c1_0, .bool a1_1]) ?_ 0 _ rfl; (with_reducible repeat (first | refine blk_drewN ?_ _ | refine blk_drew ?_ | refine blk_alloc ?_ _)); refine blk_far ?_ NB303_302.out _; (with_reducible repeat (first | refine blk_drewN ?_ _ | refine blk_drew ?_ | refine blk_alloc ?_ _)); refine blk_far ?_ NB303_302.out _; (with_reducible repeat (first | refine blk_drewN ?_ _ | refine blk_drew ?_ | refine blk_alloc ?_ _)); exact BK303.out⟩, ⟨by (with_reducible repeat (first | refine blk_drewN ?_ _ | refine blk_drew ?_ | refine blk_alloc ?_ _)); refine blk_far ?_ NB304_303.out _; (with_reducible repeat (first | refine blk_drewN ?_ _ | refine blk_drew ?_ | refine blk_alloc ?_ _)); refine blk_far ?_ NB304_303.out _; (with_reducible repeat (first | refine blk_drewN ?_ _ | refine blk_drew ?_ | refine blk_alloc ?_ _)); refine blk_far ?_ NB304_302.out _; (with_reducible repeat (first | refine blk_drewN ?_ _ | refine blk_drew ?_ | refine blk_alloc ?_ _)); refine blk_far ?_ NB304_302.out _; (with_reducible repeat (first | refine blk_drewN ?_ _ | refine blk_drew ?_ | refine blk_alloc ?_ _)); exact BK304.out⟩, ⟨hb_b⟩⟩
       ·exact absurd (show (l1_0.length : Int) < (l0_0.length : Int) from (of_decide_eq_true as_)) c33
      case rest =>
       clear HC32; (try clear c21); (try clear c25); (try clear c25b0); (try clear c25b1); (try clear hcz29_0); (try clear hcz29_1); (try clear hcz31_0); (try clear hcz31_1); (try clear hfz29_0); (try clear hfz29_1); (try clear hfz31_0); (try clear hfz31_1)
       (try clear BK302); (try clear BK303); (try clear BK304); (try clear HB)
       obtain ⟨kq, x33_31, rfl, HA, HJ31, BK302, BK303, BK304, HB⟩ := hcut
       cases kq with
       | zero => exact absurd HA.out (by simp [pattern_Meet.j1])
       | succ kj31 =>
        have H := HA.out
        clear HA
        simp only [pattern_Meet.j1] at H
        by_cases c42 : x33_31 = true
        ·subst c42
         replace H := ip_ H
         simp only [Option.some.injEq, Prod.mk.injEq] at H
         obtain ⟨rfl, rfl, rfl⟩ := H
         have hnb43 := NB304_302.out
         have hnc43 := NB302_304.out
         have hnb44 := NB304_303.out
         have hnc44 := NB303_304.out
         obtain ⟨hcz45_0, hcz45_1, hfz45_0, hfz45_1⟩ := c2_ BK304
         go_wp2
         refine bodyPost_ret (results_ct rfl _ _ gb304 24 #[.slice none 0 0, .bool false] (0, 0) _ rfl bz_ Tryd.underlying24 rfl (by kernel_rfl)) rfl ?_
         exact ⟨_, rt_, rn_, hb_b⟩
        ·replace c42 := Bool.eq_false_iff.mpr c42
         subst c42
         replace H := in_ H
         by_cases c46 : (l1_0.length : Int) = (l0_0.length : Int)
         ·rw [if_pos c46] at H
          have c46b0 := beq_iff_eq.mpr c46
          have c46b1 := bne_eq_false_iff_eq.mpr c46
          have c46b2 : (l1_0.length == l0_0.length) = true := by first | simpa using c46 | (simp at c46 ⊢; omega)
          clear c46
          by_cases c47 : (a1_1 != a0_1) = true
          ·rw [if_pos c47] at H
           have c47b0 : (a1_1 != a0_1) = true := c47
           (try (have c47b1 : decide (a1_1 = a0_1) = false := by simpa using c47))
           (try (have c47b2 : (a1_1 == a0_1) = false := by simpa using c47))
           (try (have c47b3 : ¬ (a1_1 = a0_1) := by simpa using c47))
           clear c47
           simp only [Option.some.injEq, Prod.mk.injEq] at H
           obtain ⟨rfl, rfl, rfl⟩ := H
           have hnb48 := NB303_302.out
           have hnc48 := NB302_303.out
           have hnb49 := NB303_304.out
           have hnc49 := NB304_303.out
           obtain ⟨hcz50_0, hcz50_1, hfz50_0, hfz50_1⟩ := c2_ BK303
           have hnb51 := NB302_304.out
           have hnc51 := NB304_302.out
           obtain ⟨hcz52_0, hcz52_1, hfz52_0, hfz52_1⟩ := c2_ BK302
           obtain ⟨hcz53_0, hcz53_1, hfz53_0, hfz53_1⟩ := c2_ BK304
           go_wp2
           refine bodyPost_ret (results_ct rfl _ _ gb304 24 #[.slice none 0 0, .bool false] (0, 0) _ rfl bz_ Tryd.underlying24 rfl (by kernel_rfl)) rfl ?_
           exact ⟨_, rt_, rn_, hb_b⟩
          ·rw [if_neg c47] at H
           have c47b0 : (a1_1 != a0_1) = false := by simpa using c47
           (try (have c47b1 : decide (a1_1 = a0_1) = true := by simpa using c47))
           (try (have c47b2 : (a1_1 == a0_1) = true := by simpa using c47))
           clear c47
           have H' := Aside0.mk H
           clear H
           have hnb54 := NB303_302.out
           have hnc54 := NB302_303.out
           have hnb55 := NB303_304.out
           have hnc55 := NB304_303.out
           obtain ⟨hcz56_0, hcz56_1, hfz56_0, hfz56_1⟩ := c2_ BK303
           have hnb57 := NB302_304.out
           have hnc57 := NB304_302.out
           obtain ⟨hcz58_0, hcz58_1, hfz58_0, hfz58_1⟩ := c2_ BK302
           go_wp2
           go_meet
           case rel => exact ⟨_, (false), H', ⟨by have := HJ2.out; have := HJ31.out; first | omega | exact Nat.le_refl _⟩, ⟨bk_b⟩, ⟨bk_b⟩, ⟨bk_b⟩, ⟨hb_b⟩⟩
         ·rw [if_neg c46] at H
          have c46b0 := beq_eq_false_iff_ne.mpr c46
          have c46b1 := bne_iff_ne.mpr c46
          have c46b2 : (l1_0.length == l0_0.length) = false := by first | simpa using c46 | (simp at c46 ⊢; omega)
          have H' := Aside0.mk H
          clear H
          have hnb59 := NB303_302.out
          have hnc59 := NB302_303.out
          have hnb60 := NB303_304.out
          have hnc60 := NB304_303.out
          obtain ⟨hcz61_0, hcz61_1, hfz61_0, hfz61_1⟩ := c2_ BK303
          go_wp2
          go_meet
          case rel => exact ⟨_, (false), H', ⟨by have := HJ2.out; have := HJ31.out; first | omega | exact Nat.le_refl _⟩, ⟨bk_b⟩, ⟨bk_b⟩, ⟨bk_b⟩, ⟨hb_b⟩⟩
     case rest =>
      clear HC26; (try clear c21); (try clear c25); (try clear c25b0); (try clear c25b1); (try clear hcz29_0); (try clear hcz29_1); (try clear hcz31_0); (try clear hcz31_1); (try clear hfz29_0); (try clear hfz29_1); (try clear hfz31_0); (try clear hfz31_1)
      (try clear BK302); (try clear BK303); (try clear BK304); (try clear HB)
      obtain ⟨kq, x305001_25, HA, HJ25, BK302, BK303, BK304, HB⟩ := hcut
      cases kq with
      | zero => exact absurd HA.out (by simp [pattern_Meet.j2])
      | succ kj25 =>
       have H := HA.out
       clear HA
       simp only [pattern_Meet.j2] at H
       by_cases c62 : 0 ≤ (l0_0.length : Int)
       ·rw [if_pos c62] at H
        have c62b0 := eq_true c62
        have c62b1 := decide_eq_true c62
        clear c62
        by_cases c63 : ((l0_0.length : Int) : Int).toNat ≤ 17592186044416
        ·rw [if_pos c63] at H
         have c63b0 := eq_true c63
         have c63b1 := decide_eq_true c63
         clear c63
         obtain ⟨y307, hy307⟩ : ∃ y_ : List ByteArray, y_ = (List.replicate 0 (⟨#[]⟩ : ByteArray)) := ⟨_, rfl⟩
         replace H : (pattern_Meet.l0 kj25 (l1_0.length : Int) y307 l1_0 (l1_0.length : Int) 0 l0_0 a0_1) = some (r1, r2, r3) := by first | (rw [hy307]; with_reducible exact H) | (have H2_ := (Option.bind_some _ _).symm.trans H; rw [hy307]; with_reducible exact H2_) | (have H2_ := (Option.bind_some _ _).symm.trans H; with_reducible exact H2_) | with_reducible exact H | (rw [hy307]; exact H) | exact H
         have Ny307 := Aside0.mk hy307
         clear hy307
         have H' := Aside0.mk H
         clear H
         have hnb64 := NB303_302.out
         have hnc64 := NB302_303.out
         have hnb65 := NB303_304.out
         have hnc65 := NB304_303.out
         obtain ⟨hcz66_0, hcz66_1, hfz66_0, hfz66_1⟩ := c2_ BK303
         go_wp2_with (first | ((with_reducible refine gate_dst (N := 62) rfl ?_); refine R_make_room Kd.string _ 9 rfl (N := 62) rfl 22 _ _ rfl (l0_0.length : Int) rfl rfl Tryd.underlying22 (.string ⟨#[]⟩) 16 info9 rfl (by decide) (by omega) (⟨#[]⟩ : ByteArray) (ok := fun _ => True) (okp := fun _ => True) (fun _ hk => hk) trivial (of_decide_eq_true as_) (Nat.le_trans (Nat.mul_le_mul_right _ (of_decide_eq_true as_ : ((l0_0.length : Int) : Int).toNat ≤ 17592186044416)) (by omega)) (Below.refl _ _) (Nat.le_refl _) ?_; intro v308 w67 ho68 hb hg_ hnew_ hrm_; have HRM_ := Aside0.mk hrm_; clear hg_ hnew_ hrm_; (first | rw [← Ny307.out] at ho68 | (simp only [Int.reduceToNat] at ho68; rw [← Ny307.out] at ho68)); have n0_ := Aside0.mk (Kd.R_lower ho68 (below_size hb_b)); have n1_ := Aside0.mk (blk_below (g := gb302) (o := .cells #[.slice A1_0 l1_0.length c1_0, .bool a1_1] 24 (0, 0)) bk_b hb); have n2_ := Aside0.mk (blk_below (g := gb303) (o := .cells #[.slice A0_0 l0_0.length c0_0, .bool a0_1] 24 (0, 0)) bk_b hb); have n3_ := Aside0.mk (blk_below (g := gb304) (o := .cells #[.slice none 0 0, .bool x305001_25] 24 (0, 0)) bk_b hb); have n4_ := Aside0.mk (below_step hb_b hb); clear BK302 BK303 BK304 HB; have HO309 := n0_; have BK302 := n1_; have BK303 := n2_; have BK304 := n3_; have HB := n4_; clear n0_ n1_ n2_ n3_ n4_; clear hb ho68; have hnb69 := NB302_304.out; have hnc69 := NB304_302.out; obtain ⟨hcz70_0, hcz70_1, hfz70_0, hfz70_1⟩ := c2_ BK302))
         go_loopg [7, 66] kj25 (fun kq v7 v66 w' => ∃ (x7_3 : List ByteArray) (x66_3 : Int) (x305001_3 : Bool), v66 = .int .i64 x66_3 ∧ Aside0 (pattern_Meet.l0 kq (l1_0.length : Int) x7_3 l1_0 (l1_0.length : Int) x66_3 l0_0 a0_1 = some (r1, r2, r3)) ∧ Aside0 (kq ≤ kj25) ∧ Aside0 (Kd.R Kd.string 9 w' w.heap.size (fun _ => True) v7 x7_3) ∧ Aside0 (Held v7 l0_0.length x7_3.length x66_3) ∧ Aside0 (w'.heap[gb302]? = some (.cells #[(.slice A1_0 l1_0.length c1_0), .bool a1_1] 24 (0, 0))) ∧ Aside0 (w'.heap[gb303]? = some (.cells #[(.slice A0_0 l0_0.length c0_0), .bool a0_1] 24 (0, 0))) ∧ Aside0 (w'.heap[gb304]? = some (.cells #[(.slice none 0 0), .bool x305001_3] 24 (0, 0))) ∧ Aside0 (Below w.heap.size w w'))
         case atStart => exact ⟨(y307), (0), (x305001_25), rs_, H', ⟨Nat.le_refl _⟩, ⟨by (with_reducible repeat (first | apply Kd.R_alloc | apply Kd.R_drewN | apply Kd.R_drew)); exact HO309.out⟩, ⟨⟨by simpa using HRM_.out, by rw [Ny307.out]; exact Int.le_refl _, by have h_ : ((l0_0.length : Int) : Int).toNat ≤ 17592186044416 := (of_decide_eq_true as_); omega⟩⟩, ⟨bk_b⟩, ⟨bk_b⟩, ⟨bk_b⟩, ⟨hb_b⟩⟩
         case round =>
          clear H'
          (try clear c21); (try clear c25); (try clear c25b0); (try clear c25b1); (try clear c62); (try clear c62b0); (try clear c62b1); (try clear c63); (try clear c63b0); (try clear c63b1); (try clear hcz29_0); (try clear hcz29_1); (try clear hcz31_0); (try clear hcz31_1); (try clear hcz66_0); (try clear hcz66_1); (try clear hcz70_0); (try clear hcz70_1); (try clear hfz29_0); (try clear hfz29_1); (try clear hfz31_0); (try clear hfz31_1); (try clear hfz66_0); (try clear hfz66_1); (try clear hfz70_0); (try clear hfz70_1)
          (try clear BK302); (try clear BK303); (try clear BK304); (try clear HB)
          obtain ⟨x7_3, x66_3, x305001_3, rfl, HA, HK3, HO_7, HH_, BK302, BK303, BK304, HB⟩ := hrel
          cases gk with
          | zero => exact absurd HA.out (by simp [pattern_Meet.l0])
          | succ k3 =>
           have H := HA.out
           clear HA
           simp only [pattern_Meet.l0] at H
           by_cases c71 : x66_3 < (l1_0.length : Int)
           ·rw [if_pos c71] at H
            have c71b0 := decide_eq_true c71
            clear c71
            by_cases c72 : 0 ≤ x66_3
            ·rw [if_pos c72] at H
             have c72b0 := decide_eq_true c72
             clear c72
             by_cases c73 : x66_3 < (l1_0.length : Int)
             ·rw [if_pos c73] at H
              have c73b0 := decide_eq_true c73
              clear c73
              by_cases c74 : x66_3 < (l0_0.length : Int)
              ·rw [if_pos c74] at H
               have c74b0 := decide_eq_true c74
               clear c74
               replace H := Option.bind_eq_some_iff.mp H
               obtain ⟨⟨t312, t313⟩, A750, H⟩ := H
               replace H : (if t313 = true then (if x7_3.length < 8796093022208 then (pattern_Meet.l0 k3 (l1_0.length : Int) (x7_3 ++ [t312]) l1_0 (l1_0.length : Int) (wrap64 (x66_3 + 1)) l0_0 a0_1) else (none)) else (some (([] : List ByteArray), false, false))) = some (r1, r2, r3) := H
               have A75 := Aside0.mk A750
               clear A750
               by_cases c76 : t313 = true
               ·subst c76
                replace H := ip_ H
                by_cases c77 : x7_3.length < 8796093022208
                ·rw [if_pos c77] at H
                 have LMc77 := Aside0.mk c77
                 clear c77
                 obtain ⟨y314, hy314⟩ : ∃ y_ : List ByteArray, y_ = (x7_3 ++ [t312]) := ⟨_, rfl⟩
                 replace H : (pattern_Meet.l0 k3 (l1_0.length : Int) y314 l1_0 (l1_0.length : Int) (wrap64 (x66_3 + 1)) l0_0 a0_1) = some (r1, r2, r3) := by first | (rw [hy314]; with_reducible exact H) | (have H2_ := (Option.bind_some _ _).symm.trans H; rw [hy314]; with_reducible exact H2_) | (have H2_ := (Option.bind_some _ _).symm.trans H; with_reducible exact H2_) | with_reducible exact H | (rw [hy314]; exact H) | exact H
                 have Ny314 := Aside0.mk hy314
                 clear hy314
                 have H' := Aside0.mk H
                 clear H
                 have p310 : 0 ≤ (x66_3 : Int) := of_decide_eq_true as_
                 have q310 : x66_3 < (l1_0.length : Int) := of_decide_eq_true as_
                 obtain ⟨ad310, e310, hx310_0⟩ := Kd.at_string HR1_0.out x66_3 p310 q310
                 cases e310
                 replace hx310_0 := (HB.out.cell (World.block_lt_of_cell? w _ hx310_0)).trans hx310_0
                 replace p310 := eq_true p310
                 replace q310 := eq_true q310
                 have hnb78 := NB303_302.out
                 have hnc78 := NB302_303.out
                 have hnb79 := NB303_304.out
                 have hnc79 := NB304_303.out
                 obtain ⟨hcz80_0, hcz80_1, hfz80_0, hfz80_1⟩ := c2_ BK303
                 have p311 : 0 ≤ (x66_3 : Int) := of_decide_eq_true as_
                 have q311 : x66_3 < (l0_0.length : Int) := of_decide_eq_true as_
                 obtain ⟨ad311, e311, hx311_0⟩ := Kd.at_string HR0_0.out x66_3 p311 q311
                 cases e311
                 replace hx311_0 := (HB.out.cell (World.block_lt_of_cell? w _ hx311_0)).trans hx311_0
                 replace p311 := eq_true p311
                 replace q311 := eq_true q311
                 go_wp2_with (first | ((with_reducible refine gate_callee (f := 69) rfl ?_); refine goesL_ (some 78) rfl rfl Tryd.func69 (by kernel_rfl) rfl #[.string (rdOf ByteArray.empty l1_0 x66_3), .string (rdOf ByteArray.empty l0_0 x66_3)] rfl gl_ ?_; (with_reducible refine (pattern_narrower.calls k3 (rdOf ByteArray.empty l1_0 x66_3) (rdOf ByteArray.empty l0_0 x66_3) t312 true _ A75.out).mono ?_); rintro e w' ⟨rfl, ⟨nd, rfl⟩⟩; refine ⟨_, rfl, ?_⟩) | ((with_reducible refine gate_builtin (b := .append) (xs := #[.tmp 84, .tmp 86]) rfl ?_); at_builtin; refine R_append_room Kd.string (w0 := w) w.heap.size rfl (.tmp 84) (.tmp 86) 22 9 (.string ⟨#[]⟩) 16 rfl Tryd.underlying22 info9 rfl (by decide) (by omega) u7 x7_3 t312 [.string t312] (fun _ => True) (fun _ => False) rfl rfl ?aP (fun _ hk => hk.elim) ?aF ?aO ?aB ?aS ?aL l0_0.length ?aRm ?_; (case aRm => exact HH_.out.1); (case aP => exact rfl); (case aB => exact hb_b); (case aF => exact (fun _ _ => trivial)); (case aO => exact (rp_ HO_7)); (case aS => exact (below_size hb_b)); (case aL => have := LMc77.out; omega); intro v315 w81 ho hb hg hat hrm_; have HH2_ := Aside0.mk (Held.step (m := y314.length) HH_.out (of_decide_eq_true as_) (by rw [Ny314.out, List.length_append]; rfl) hrm_); clear hrm_; rw [← Ny314.out] at ho; have n0_ := Aside0.mk (blk_grown (g := gb302) (o := .cells #[.slice (some ad310) l1_0.length c1_0, .bool a1_1] 24 (0, 0)) bk_b hg (Kd.R_ne HO_7.out BK302.out (by decide))); have n1_ := Aside0.mk (blk_grown (g := gb303) (o := .cells #[.slice (some ad311) l0_0.length c0_0, .bool a0_1] 24 (0, 0)) bk_b hg (Kd.R_ne HO_7.out BK303.out (by decide))); have n2_ := Aside0.mk (blk_grown (g := gb304) (o := .cells #[.slice none 0 0, .bool x305001_3] 24 (0, 0)) bk_b hg (Kd.R_ne HO_7.out BK304.out (by decide))); have n3_ := Aside0.mk (hb); have n4_ := Aside0.mk (ho); clear BK302 BK303 BK304 HB HO_7; have BK302 := n0_; have BK303 := n1_; have BK304 := n2_; have HB := n3_; have HO316 := n4_; clear n0_ n1_ n2_ n3_ n4_; clear ho hb hg hat))
                 go_roundg k3
                 case measure => have := HJ2.out; have := HJ25.out; have := HK3.out; omega
                 case rel => exact ⟨(y314), (wrap64 (x66_3 + 1)), (x305001_3), rs_, H', ⟨by have := HJ2.out; have := HJ25.out; have := HK3.out; omega⟩, ⟨by (with_reducible repeat (first | apply Kd.R_alloc | apply Kd.R_drewN | apply Kd.R_drew)); exact HO316.out⟩, HH2_, ⟨bk_b⟩, ⟨bk_b⟩, ⟨bk_b⟩, ⟨hb_b⟩⟩
                ·rw [if_neg c77] at H
                 exact absurd H (by simp)
               ·replace c76 := Bool.eq_false_iff.mpr c76
                subst c76
                replace H := in_ H
                simp only [Option.some.injEq, Prod.mk.injEq] at H
                obtain ⟨rfl, rfl, rfl⟩ := H
                have p310 : 0 ≤ (x66_3 : Int) := of_decide_eq_true as_
                have q310 : x66_3 < (l1_0.length : Int) := of_decide_eq_true as_
                obtain ⟨ad310, e310, hx310_0⟩ := Kd.at_string HR1_0.out x66_3 p310 q310
                cases e310
                replace hx310_0 := (HB.out.cell (World.block_lt_of_cell? w _ hx310_0)).trans hx310_0
                replace p310 := eq_true p310
                replace q310 := eq_true q310
                have hnb82 := NB303_302.out
                have hnc82 := NB302_303.out
                have hnb83 := NB303_304.out
                have hnc83 := NB304_303.out
                obtain ⟨hcz84_0, hcz84_1, hfz84_0, hfz84_1⟩ := c2_ BK303
                have p311 : 0 ≤ (x66_3 : Int) := of_decide_eq_true as_
                have q311 : x66_3 < (l0_0.length : Int) := of_decide_eq_true as_
                obtain ⟨ad311, e311, hx311_0⟩ := Kd.at_string HR0_0.out x66_3 p311 q311
                cases e311
                replace hx311_0 := (HB.out.cell (World.block_lt_of_cell? w _ hx311_0)).trans hx311_0
                replace p311 := eq_true p311
                replace q311 := eq_true q311
                go_wp2_with (first | ((with_reducible refine gate_callee (f := 69) rfl ?_); refine goesL_ (some 78) rfl rfl Tryd.func69 (by kernel_rfl) rfl #[.string (rdOf ByteArray.empty l1_0 x66_3), .string (rdOf ByteArray.empty l0_0 x66_3)] rfl gl_ ?_; (with_reducible refine (pattern_narrower.calls k3 (rdOf ByteArray.empty l1_0 x66_3) (rdOf ByteArray.empty l0_0 x66_3) t312 false _ A75.out).mono ?_); rintro e w' ⟨rfl, ⟨nd, rfl⟩⟩; refine ⟨_, rfl, ?_⟩; (try (rw [drewN_self wr]; generalize hq_ : World.drewN wr _ = wr; have n0_ : Aside0 (Kd.R Kd.string 9 wr w.heap.size (fun _ => True) u7 x7_3) := ⟨by rw [← hq_]; exact (rp_ HO_7)⟩; have n1_ : Aside0 (wr.heap[gb302]? = some (.cells #[.slice (some ad310) l1_0.length c1_0, .bool a1_1] 24 (0, 0))) := ⟨by rw [← hq_]; exact bk_b⟩; have n2_ : Aside0 (wr.heap[gb303]? = some (.cells #[.slice (some ad311) l0_0.length c0_0, .bool a0_1] 24 (0, 0))) := ⟨by rw [← hq_]; exact bk_b⟩; have n3_ : Aside0 (wr.heap[gb304]? = some (.cells #[.slice none 0 0, .bool x305001_3] 24 (0, 0))) := ⟨by rw [← hq_]; exact bk_b⟩; have n4_ : Aside0 (Below w.heap.size w wr) := ⟨by rw [← hq_]; exact hb_b⟩; clear HO_7 BK302 BK303 BK304 HB hq_; have HO_7 := n0_; have BK302 := n1_; have BK303 := n2_; have BK304 := n3_; have HB := n4_; clear n0_ n1_ n2_ n3_ n4_)); have hnb85 := NB304_302.out; have hnc85 := NB302_304.out; obtain ⟨hcz86_0, hcz86_1, hfz86_0, hfz86_1⟩ := c2_ BK304))
                refine bodyPost_ret (results_ct rfl _ _ gb304 24 #[.slice none 0 0, .bool false] (0, 0) _ rfl bz_ Tryd.underlying24 rfl (by kernel_rfl)) rfl ?_
                exact ⟨_, rt_, rn_, hb_b⟩
              ·rw [if_neg c74] at H
               exact absurd H (by simp)
             ·rw [if_neg c73] at H
              exact absurd H (by simp)
            ·rw [if_neg c72] at H
             exact absurd H (by simp)
           ·rw [if_neg c71] at H
            have c71b0 := decide_eq_false c71
            clear c71
            by_cases c87 : 0 ≤ (l1_0.length : Int)
            ·rw [if_pos c87] at H
             have c87b0 := eq_true c87
             have c87b1 := decide_eq_true c87
             clear c87
             by_cases c88 : (l1_0.length : Int) ≤ (x7_3.length : Int)
             ·rw [if_pos c88] at H
              have c88b0 := eq_true c88
              have c88b1 := decide_eq_true c88
              clear c88
              by_cases c89 : (x7_3.length : Int) ≤ (l1_0.length : Int)
              ·rw [if_pos c89] at H
               have c89b0 := eq_true c89
               have c89b1 := decide_eq_true c89
               clear c89
               obtain ⟨y317, hy317⟩ : ∃ y_ : List ByteArray, y_ = (x7_3.take ((l1_0.length : Int) : Int).toNat) := ⟨_, rfl⟩
               replace H : (if (l1_0.length : Int) ≤ (l0_0.length : Int) then (if y317.length + (l0_0.drop ((l1_0.length : Int) : Int).toNat).length < 8796093022208 then (some ((y317 ++ (l0_0.drop ((l1_0.length : Int) : Int).toNat)), a0_1, true)) else (none)) else (none)) = some (r1, r2, r3) := by first | (rw [hy317]; with_reducible exact H) | (have H2_ := (Option.bind_some _ _).symm.trans H; rw [hy317]; with_reducible exact H2_) | (have H2_ := (Option.bind_some _ _).symm.trans H; with_reducible exact H2_) | with_reducible exact H | (rw [hy317]; exact H) | exact H
               have Ny317 := Aside0.mk hy317
               clear hy317
               have c90b0 := eq_true (of_decide_eq_true as_ : 0 ≤ (l1_0.length : Int))
               by_cases c91 : (l1_0.length : Int) ≤ (l0_0.length : Int)
               ·rw [if_pos c91] at H
                have c91b0 := eq_true c91
                have c91b1 := decide_eq_true c91
                clear c91
                by_cases c92 : y317.length + (l0_0.drop ((l1_0.length : Int) : Int).toNat).length < 8796093022208
                ·rw [if_pos c92] at H
                 have LMc92 := Aside0.mk c92
                 clear c92
                 obtain ⟨y321, hy321⟩ : ∃ y_ : List ByteArray, y_ = (y317 ++ (l0_0.drop ((l1_0.length : Int) : Int).toNat)) := ⟨_, rfl⟩
                 replace H : (some (y321, a0_1, true)) = some (r1, r2, r3) := by first | (rw [hy321]; with_reducible exact H) | (have H2_ := (Option.bind_some _ _).symm.trans H; rw [hy321]; with_reducible exact H2_) | (have H2_ := (Option.bind_some _ _).symm.trans H; with_reducible exact H2_) | with_reducible exact H | (rw [hy321]; exact H) | exact H
                 have Ny321 := Aside0.mk hy321
                 clear hy321
                 simp only [Option.some.injEq, Prod.mk.injEq] at H
                 obtain ⟨rfl, rfl, rfl⟩ := H
                 try go_wp2
                 have n0_ := Aside0.mk (Kd.R_drew HO_7.out)
                 have n1_ := Aside0.mk (blk_drew BK302.out)
                 have n2_ := Aside0.mk (blk_drew BK303.out)
                 have n3_ := Aside0.mk (blk_drew BK304.out)
                 have n4_ := Aside0.mk (below_drew1 HB.out)
                 clear HO_7; clear BK302; clear BK303; clear BK304; clear HB
                 have HO_7 := n0_
                 have BK302 := n1_
                 have BK303 := n2_
                 have BK304 := n3_
                 have HB := n4_
                 clear n0_ n1_ n2_ n3_ n4_
                 obtain ⟨Ao94, co94, eo94⟩ := Kd.R_slice HO_7.out
                 (first | subst eo94 | (injection eo94 with f1_ f2_ f3_; have f4_ := f1_.symm; have f5_ := f3_.symm; clear f1_ f2_ f3_; subst f4_; subst f5_))
                 have q95 : ((l1_0.length : Int) : Int) ≤ ((x7_3.length : Int) : Int) := of_decide_eq_true as_
                 have qr95 : ((x7_3.length : Int) : Int) ≤ ((l1_0.length : Int) : Int) := of_decide_eq_true as_
                 obtain ⟨i095, hi095, _, hsz95, _⟩ := info_parts info9
                 have hcut95 := cut_full (P := Tryd.prog) 22 9 .i64 Tryd.underlying22 hi095 Ao94 x7_3.length co94 (l1_0.length : Int) (of_decide_eq_true as_) q95 qr95 (Kd.R_reads' HO_7.out).2.1
                 have hr95 := Kd.R_take (m := ((l1_0.length : Int) : Int).toNat) HO_7.out (by omega)
                 have hy95 : y317.length = ((l1_0.length : Int) : Int).toNat := (by rw [Ny317.out, List.length_take]; omega)
                 rw [← Ny317.out] at hr95
                 rw [← hy95] at hr95 hcut95
                 clear hy95 hi095 hsz95 HO_7
                 have HO319 := Aside0.mk hr95
                 clear hr95
                 replace q95 := eq_true q95
                 clear qr95
                 obtain ⟨i096, hi096, _, hsz96, _⟩ := info_parts info9
                 obtain ⟨A96, hcut96, hA96, hC96⟩ := print_drop_of (P := Tryd.prog) Value.string (⟨#[]⟩ : ByteArray) 22 9 .i64 Tryd.underlying22 hi096 hsz96 A0_0 c0_0 l0_0 (l1_0.length : Int) (of_decide_eq_true as_) (of_decide_eq_true as_) HC0_0.out
                 have HR320 := Aside0.mk (Kd.C_of_reads (h1 := fun _ => rfl) (hA96 _ (Kd.reads_of_C HR0_0.out)))
                 have HC320 := Aside0.mk hC96
                 clear hA96 hC96 hi096 hsz96
                 refine start_ (n := 10) (S := fun w' => w'.cell? ⟨gb303, 0, none⟩ = some (.slice A0_0 l0_0.length c0_0) ∧ w'.cell? ⟨gb303, 1, none⟩ = some (.bool a0_1)) (ds := []) #[false, false, false, false, false, false, false, false, false, false] (by kernel_rfl) rfl rfl ⟨(blk_cell BK303.out 0).trans rfl, (blk_cell BK303.out 1).trans rfl⟩ (fun hHeld => ?_); refine with_tabW pattern_Meet.tab19 pattern_Meet.bits19 (fun HT_ HW_ => ?_)
                 generalize wr.drew = w93 at BK302 BK303 BK304 HB HO319 HR320 hHeld ⊢
                 refine pu_ 0 (some 89) #[true, false, false, false, false, false, false, false, false, false] HT_ rfl rfl ?_
                 refine pu_ 1 (some 90) #[true, true, false, false, false, false, false, false, false, false] HT_ rfl rfl ?_
                 refine pu_ 2 (some 91) #[true, true, true, false, false, false, false, false, false, false] HT_ rfl rfl ?_
                 refine pu_ 3 (some 92) #[true, true, true, true, false, false, false, false, false, false] HT_ rfl rfl ?_
                 refine pu_ 4 (some 93) #[true, true, true, true, true, false, false, false, false, false] HT_ rfl rfl ?_
                 refine pu_ 6 (some 95) #[true, true, true, true, true, false, true, false, false, false] HT_ rfl rfl ?_
                 refine tk_ 5 (some 94) #[true, true, true, true, true, true, true, false, false, false] HT_ HW_ rfl rfl hHeld ?_
                 refine pu_ 7 (some 96) #[true, true, true, true, true, true, true, true, false, false] HT_ rfl rfl ?_
                 refine one_ (i := 8) (N := some 97) #[true, true, true, true, true, true, true, true, true, false] rfl rfl (one_of HT_.out (by kernel_rfl)) (by decide) (fun K hK => ?_)
                 refine R_append_cut_step Kd.string (w0 := w) w.heap.size (by rfl) (.tmp 92) (.tmp 96) 22 9 (.string ⟨#[]⟩) 16 rfl Tryd.underlying22 info9 rfl (by decide) (by omega) Ao94 co94 y317 (l0_0.drop ((l1_0.length : Int) : Int).toNat) _ _ _ (fun _ => True) (fun _ => False) rfl rfl ?aO ?aQ ?aR (fun _ _ h => h) (fun _ h => h.elim) ?aF ?aB ?aS ?aL ?_
                 (case aR => first | (rw [show (l0_0.length - l1_0.length) = (l0_0.drop ((l1_0.length : Int) : Int).toNat).length from List.length_drop.symm]; repeat (first | exact (Kd.C_below HR320.out HB.out) | (with_reducible refine Kd.C_alloc ?_ _) | (with_reducible refine Kd.C_drewN ?_ _) | (with_reducible refine Kd.C_drew ?_))) | (rw [← show (l0_0.drop ((l1_0.length : Int) : Int).toNat).length = (l0_0.length - (l1_0.length : Int).toNat) from List.length_drop]; repeat (first | exact (Kd.C_below HR320.out HB.out) | (with_reducible refine Kd.C_alloc ?_ _) | (with_reducible refine Kd.C_drewN ?_ _) | (with_reducible refine Kd.C_drew ?_))) | (repeat (first | exact (Kd.C_below HR320.out HB.out) | (with_reducible refine Kd.C_alloc ?_ _) | (with_reducible refine Kd.C_drewN ?_ _) | (with_reducible refine Kd.C_drew ?_))))
                 (case aQ => exact (fun h_ => by have e_ := room_of HH_.out.1; (try rw [List.length_drop] at h_); have h1_ : (l1_0.length : Int) ≤ (l0_0.length : Int) := (of_decide_eq_true as_); have h2_ := of_eq_true q95; rw [e_, Ny317.out, List.length_take]; omega))
                 (case aB => exact hb_b)
                 (case aF => exact (fun _ _ => trivial))
                 (case aO => exact (rp_ HO319))
                 (case aS => exact (below_size hb_b))
                 (case aL => have := LMc92.out; have hlx_ := (show (l0_0.drop ((l1_0.length : Int) : Int).toNat).length = (l0_0.length - (l1_0.length : Int).toNat) from List.length_drop); omega)
                 intro v322 w97 ho hb hg hat
                 rw [← Ny321.out] at ho
                 have n0_ := Aside0.mk (blk_grown (g := gb302) (o := .cells #[.slice A1_0 l1_0.length c1_0, .bool a1_1] 24 (0, 0)) bk_b hg (Kd.R_ne HO319.out BK302.out (by decide)))
                 have n1_ := Aside0.mk (blk_grown (g := gb303) (o := .cells #[.slice A0_0 l0_0.length c0_0, .bool a0_1] 24 (0, 0)) bk_b hg (Kd.R_ne HO319.out BK303.out (by decide)))
                 have n2_ := Aside0.mk (blk_grown (g := gb304) (o := .cells #[.slice none 0 0, .bool x305001_3] 24 (0, 0)) bk_b hg (Kd.R_ne HO319.out BK304.out (by decide)))
                 have n3_ := Aside0.mk (hb)
                 have n4_ := Aside0.mk (ho)
                 clear BK302; clear BK303; clear BK304; clear HB; clear HO319
                 have BK302 := n0_
                 have BK303 := n1_
                 have BK304 := n2_
                 have HB := n3_
                 have HO323 := n4_
                 clear n0_ n1_ n2_ n3_ n4_
                 clear ho hb hg hat
                 refine hK.out _ _ ⟨(blk_cell BK303.out 0).trans rfl, (blk_cell BK303.out 1).trans rfl⟩ (fun hHeld => ?_)
                 clear hK K
                 refine norm_ (a' := ?_) ?_ ?_
                 rotate_left
                 ·show Act.put _ (some 97) _ = _
                  simp only [Act.put, List.setIfInBounds_toArray, List.set_cons_zero, List.set_cons_succ, i64_w, i32_w]
                  rfl
                 refine pu_ 9 (some 7) #[true, true, true, true, true, true, true, true, true, true] HT_ rfl rfl ?_
                 refine done_ (done_of HT_.out (by kernel_rfl)) ?_
                 have hnb98 := NB303_302.out
                 have hnc98 := NB302_303.out
                 have hnb99 := NB303_304.out
                 have hnc99 := NB304_303.out
                 obtain ⟨hcz100_0, hcz100_1, hfz100_0, hfz100_1⟩ := c2_ BK303
                 obtain ⟨Ao101, co101, eo101⟩ := Kd.R_slice HO323.out
                 subst eo101
                 have hnb102 := NB304_302.out
                 have hnc102 := NB302_304.out
                 obtain ⟨hcz103_0, hcz103_1, hfz103_0, hfz103_1⟩ := c2_ BK304
                 try go_wp2
                 refine bodyPost_ret (results_ct rfl _ _ gb304 24 #[.slice Ao101 y321.length co101, .bool a0_1] (0, 0) _ rfl bz_ Tryd.underlying24 rfl (by kernel_rfl)) rfl ?_
                 exact ⟨_, rt_, by (with_reducible repeat (first | apply Kd.R_alloc | apply Kd.R_drewN | apply Kd.R_drew)); exact Kd.R_mono (Kd.R_far (p := ⟨gb304, 1, none⟩) (Kd.R_far (p := ⟨gb304, 0, none⟩) (Kd.R_types HO323.out BK304.out (by decide)) (fun _ hk => hk.2) (.slice Ao101 y321.length co101)) (fun _ hk => hk.2) (.bool a0_1)) (fun _ hk => trivial), hb_b⟩
                ·rw [if_neg c92] at H
                 exact absurd H (by simp)
               ·rw [if_neg c91] at H
                exact absurd H (by simp)
              ·rw [if_neg c89] at H
               exact absurd H (by simp)
             ·rw [if_neg c88] at H
              exact absurd H (by simp)
            ·rw [if_neg c87] at H
             exact absurd H (by simp)
        ·rw [if_neg c63] at H
         exact absurd H (by simp)
       ·rw [if_neg c62] at H
        exact absurd H (by simp)
    ·rw [if_neg c25] at H
     have c25b0 := decide_eq_false c25
     have c25b1 : decide (l1_0.length < l0_0.length) = false := decide_eq_false (fun h => c25 (Int.ofNat_lt.mpr h))
     clear c25
     have HC104 := Aside0.mk H
     clear H
     have hnb105 := NB302_303.out
     have hnc105 := NB303_302.out
     have hnb106 := NB302_304.out
     have hnc106 := NB304_302.out
     obtain ⟨hcz107_0, hcz107_1, hfz107_0, hfz107_1⟩ := c2_ BK302
     have hnb108 := NB303_304.out
     have hnc108 := NB304_303.out
     obtain ⟨hcz109_0, hcz109_1, hfz109_0, hfz109_1⟩ := c2_ BK303
     go_upto_block 0 with (fail)
     go_cut [] (fun wc => ∃ (kq : Nat) (x305001_103 : Bool), Aside0 (pattern_Meet.j5 kq (l0_0.length : Int) l0_0 a0_1 l1_0 a1_1 = some (r1, r2, r3)) ∧ Aside0 (kq ≤ kj2) ∧ Aside0 (wc.heap[gb302]? = some (.cells #[(.slice A0_0 l0_0.length c0_0), .bool a0_1] 24 (0, 0))) ∧ Aside0 (wc.heap[gb303]? = some (.cells #[(.slice A1_0 l1_0.length c1_0), .bool a1_1] 24 (0, 0))) ∧ Aside0 (wc.heap[gb304]? = some (.cells #[(.slice none 0 0), .bool x305001_103] 24 (0, 0))) ∧ Aside0 (Below w.heap.size w wc))
     case first =>
      have H := HC104.out
      clear HC104
      have HC110 := Aside0.mk H
      clear H
      go_upto_region 6 with (fail)
      go_cut [33] (fun v33 wc => ∃ (kq : Nat) (x33_109 : Bool), v33 = .bool x33_109 ∧ Aside0 (pattern_Meet.j4 kq (l0_0.length : Int) x33_109 l0_0 a0_1 l1_0 a1_1 = some (r1, r2, r3)) ∧ Aside0 (kq ≤ kj2) ∧ Aside0 (wc.heap[gb302]? = some (.cells #[(.slice A0_0 l0_0.length c0_0), .bool a0_1] 24 (0, 0))) ∧ Aside0 (wc.heap[gb303]? = some (.cells #[(.slice A1_0 l1_0.length c1_0), .bool a1_1] 24 (0, 0))) ∧ Aside0 (wc.heap[gb304]? = some (.cells #[(.slice none 0 0), .bool false] 24 (0, 0))) ∧ Aside0 (Below w.heap.size w wc))
      case first =>
       have H := HC110.out
       clear HC110
       by_cases c111 : (l0_0.length : Int) < (l1_0.length : Int)
       ·rw [if_pos c111] at H
        have c111b0 := decide_eq_true c111
        have c111b1 : decide (l0_0.length < l1_0.length) = true := decide_eq_true (Int.ofNat_lt.mp c111)
        clear c111
        (first | rw [c111b0] | (simp only [i64_w, i32_w]; rw [c111b0]) | skip)
        have H' := Aside0.mk H
        clear H
        have hnb112 := NB303_302.out
        have hnc112 := NB302_303.out
        have hnb113 := NB303_304.out
        have hnc113 := NB304_303.out
        obtain ⟨hcz114_0, hcz114_1, hfz114_0, hfz114_1⟩ := c2_ BK303
        have hnb115 := NB302_304.out
        have hnc115 := NB304_302.out
        obtain ⟨hcz116_0, hcz116_1, hfz116_0, hfz116_1⟩ := c2_ BK302
        go_wp2
        go_meet
        case rel => exact ⟨_, (!a0_1), rs_, H', ⟨by have := HJ2.out; first | omega | exact Nat.le_refl _⟩, ⟨bk_b⟩, ⟨bk_b⟩, ⟨bk_b⟩, ⟨hb_b⟩⟩
       ·rw [if_neg c111] at H
        have c111b0 := decide_eq_false c111
        have c111b1 : decide (l0_0.length < l1_0.length) = false := decide_eq_false (fun h => c111 (Int.ofNat_lt.mpr h))
        clear c111
        (first | rw [c111b0] | (simp only [i64_w, i32_w]; rw [c111b0]) | skip)
        have H' := Aside0.mk H
        clear H
        have hnb117 := NB303_302.out
        have hnc117 := NB302_303.out
        have hnb118 := NB303_304.out
        have hnc118 := NB304_303.out
        obtain ⟨hcz119_0, hcz119_1, hfz119_0, hfz119_1⟩ := c2_ BK303
        go_wp2
        go_meet
        case rel => exact ⟨_, (false), rs_, H', ⟨by have := HJ2.out; first | omega | exact Nat.le_refl _⟩, ⟨bk_b⟩, ⟨bk_b⟩, ⟨bk_b⟩, ⟨hb_b⟩⟩
      case rest =>
       clear HC110; (try clear c21); (try clear c25); (try clear c25b0); (try clear c25b1); (try clear hcz107_0); (try clear hcz107_1); (try clear hcz109_0); (try clear hcz109_1); (try clear hfz107_0); (try clear hfz107_1); (try clear hfz109_0); (try clear hfz109_1)
       (try clear BK302); (try clear BK303); (try clear BK304); (try clear HB)
       obtain ⟨kq, x33_109, rfl, HA, HJ109, BK302, BK303, BK304, HB⟩ := hcut
       cases kq with
       | zero => exact absurd HA.out (by simp [pattern_Meet.j4])
       | succ kj109 =>
        have H := HA.out
        clear HA
        simp only [pattern_Meet.j4] at H
        by_cases c120 : x33_109 = true
        ·subst c120
         replace H := ip_ H
         simp only [Option.some.injEq, Prod.mk.injEq] at H
         obtain ⟨rfl, rfl, rfl⟩ := H
         have hnb121 := NB304_302.out
         have hnc121 := NB302_304.out
         have hnb122 := NB304_303.out
         have hnc122 := NB303_304.out
         obtain ⟨hcz123_0, hcz123_1, hfz123_0, hfz123_1⟩ := c2_ BK304
         go_wp2
         refine bodyPost_ret (results_ct rfl _ _ gb304 24 #[.slice none 0 0, .bool false] (0, 0) _ rfl bz_ Tryd.underlying24 rfl (by kernel_rfl)) rfl ?_
         exact ⟨_, rt_, rn_, hb_b⟩
        ·replace c120 := Bool.eq_false_iff.mpr c120
         subst c120
         replace H := in_ H
         by_cases c124 : (l0_0.length : Int) = (l1_0.length : Int)
         ·rw [if_pos c124] at H
          have c124b0 := beq_iff_eq.mpr c124
          have c124b1 := bne_eq_false_iff_eq.mpr c124
          have c124b2 : (l0_0.length == l1_0.length) = true := by first | simpa using c124 | (simp at c124 ⊢; omega)
          clear c124
          by_cases c125 : (a0_1 != a1_1) = true
          ·rw [if_pos c125] at H
           have c125b0 : (a0_1 != a1_1) = true := c125
           (try (have c125b1 : decide (a0_1 = a1_1) = false := by simpa using c125))
           (try (have c125b2 : (a0_1 == a1_1) = false := by simpa using c125))
           (try (have c125b3 : ¬ (a0_1 = a1_1) := by simpa using c125))
           clear c125
           simp only [Option.some.injEq, Prod.mk.injEq] at H
           obtain ⟨rfl, rfl, rfl⟩ := H
           have hnb126 := NB303_302.out
           have hnc126 := NB302_303.out
           have hnb127 := NB303_304.out
           have hnc127 := NB304_303.out
           obtain ⟨hcz128_0, hcz128_1, hfz128_0, hfz128_1⟩ := c2_ BK303
           have hnb129 := NB302_304.out
           have hnc129 := NB304_302.out
           obtain ⟨hcz130_0, hcz130_1, hfz130_0, hfz130_1⟩ := c2_ BK302
           obtain ⟨hcz131_0, hcz131_1, hfz131_0, hfz131_1⟩ := c2_ BK304
           go_wp2
           refine bodyPost_ret (results_ct rfl _ _ gb304 24 #[.slice none 0 0, .bool false] (0, 0) _ rfl bz_ Tryd.underlying24 rfl (by kernel_rfl)) rfl ?_
           exact ⟨_, rt_, rn_, hb_b⟩
          ·rw [if_neg c125] at H
           have c125b0 : (a0_1 != a1_1) = false := by simpa using c125
           (try (have c125b1 : decide (a0_1 = a1_1) = true := by simpa using c125))
           (try (have c125b2 : (a0_1 == a1_1) = true := by simpa using c125))
           clear c125
           have H' := Aside0.mk H
           clear H
           have hnb132 := NB303_302.out
           have hnc132 := NB302_303.out
           have hnb133 := NB303_304.out
           have hnc133 := NB304_303.out
           obtain ⟨hcz134_0, hcz134_1, hfz134_0, hfz134_1⟩ := c2_ BK303
           have hnb135 := NB302_304.out
           have hnc135 := NB304_302.out
           obtain ⟨hcz136_0, hcz136_1, hfz136_0, hfz136_1⟩ := c2_ BK302
           go_wp2
           go_meet
           case rel => exact ⟨_, (false), H', ⟨by have := HJ2.out; have := HJ109.out; first | omega | exact Nat.le_refl _⟩, ⟨bk_b⟩, ⟨bk_b⟩, ⟨bk_b⟩, ⟨hb_b⟩⟩
         ·rw [if_neg c124] at H
          have c124b0 := beq_eq_false_iff_ne.mpr c124
          have c124b1 := bne_iff_ne.mpr c124
          have c124b2 : (l0_0.length == l1_0.length) = false := by first | simpa using c124 | (simp at c124 ⊢; omega)
          have H' := Aside0.mk H
          clear H
          have hnb137 := NB303_302.out
          have hnc137 := NB302_303.out
          have hnb138 := NB303_304.out
          have hnc138 := NB304_303.out
          obtain ⟨hcz139_0, hcz139_1, hfz139_0, hfz139_1⟩ := c2_ BK303
          go_wp2
          go_meet
          case rel => exact ⟨_, (false), H', ⟨by have := HJ2.out; have := HJ109.out; first | omega | exact Nat.le_refl _⟩, ⟨bk_b⟩, ⟨bk_b⟩, ⟨bk_b⟩, ⟨hb_b⟩⟩
     case rest =>
      clear HC104; (try clear c21); (try clear c25); (try clear c25b0); (try clear c25b1); (try clear hcz107_0); (try clear hcz107_1); (try clear hcz109_0); (try clear hcz109_1); (try clear hfz107_0); (try clear hfz107_1); (try clear hfz109_0); (try clear hfz109_1)
      (try clear BK302); (try clear BK303); (try clear BK304); (try clear HB)
      obtain ⟨kq, x305001_103, HA, HJ103, BK302, BK303, BK304, HB⟩ := hcut
      cases kq with
      | zero => exact absurd HA.out (by simp [pattern_Meet.j5])
      | succ kj103 =>
       have H := HA.out
       clear HA
       simp only [pattern_Meet.j5] at H
       by_cases c140 : 0 ≤ (l1_0.length : Int)
       ·rw [if_pos c140] at H
        have c140b0 := eq_true c140
        have c140b1 := decide_eq_true c140
        clear c140
        by_cases c141 : ((l1_0.length : Int) : Int).toNat ≤ 17592186044416
        ·rw [if_pos c141] at H
         have c141b0 := eq_true c141
         have c141b1 := decide_eq_true c141
         clear c141
         obtain ⟨y324, hy324⟩ : ∃ y_ : List ByteArray, y_ = (List.replicate 0 (⟨#[]⟩ : ByteArray)) := ⟨_, rfl⟩
         replace H : (pattern_Meet.l100 kj103 (l0_0.length : Int) y324 l0_0 (l0_0.length : Int) 0 l1_0 a1_1) = some (r1, r2, r3) := by first | (rw [hy324]; with_reducible exact H) | (have H2_ := (Option.bind_some _ _).symm.trans H; rw [hy324]; with_reducible exact H2_) | (have H2_ := (Option.bind_some _ _).symm.trans H; with_reducible exact H2_) | with_reducible exact H | (rw [hy324]; exact H) | exact H
         have Ny324 := Aside0.mk hy324
         clear hy324
         have H' := Aside0.mk H
         clear H
         have hnb142 := NB303_302.out
         have hnc142 := NB302_303.out
         have hnb143 := NB303_304.out
         have hnc143 := NB304_303.out
         obtain ⟨hcz144_0, hcz144_1, hfz144_0, hfz144_1⟩ := c2_ BK303
         go_wp2_with (first | ((with_reducible refine gate_dst (N := 62) rfl ?_); refine R_make_room Kd.string _ 9 rfl (N := 62) rfl 22 _ _ rfl (l1_0.length : Int) rfl rfl Tryd.underlying22 (.string ⟨#[]⟩) 16 info9 rfl (by decide) (by omega) (⟨#[]⟩ : ByteArray) (ok := fun _ => True) (okp := fun _ => True) (fun _ hk => hk) trivial (of_decide_eq_true as_) (Nat.le_trans (Nat.mul_le_mul_right _ (of_decide_eq_true as_ : ((l1_0.length : Int) : Int).toNat ≤ 17592186044416)) (by omega)) (Below.refl _ _) (Nat.le_refl _) ?_; intro v325 w145 ho146 hb hg_ hnew_ hrm_; have HRM_ := Aside0.mk hrm_; clear hg_ hnew_ hrm_; (first | rw [← Ny324.out] at ho146 | (simp only [Int.reduceToNat] at ho146; rw [← Ny324.out] at ho146)); have n0_ := Aside0.mk (Kd.R_lower ho146 (below_size hb_b)); have n1_ := Aside0.mk (blk_below (g := gb302) (o := .cells #[.slice A0_0 l0_0.length c0_0, .bool a0_1] 24 (0, 0)) bk_b hb); have n2_ := Aside0.mk (blk_below (g := gb303) (o := .cells #[.slice A1_0 l1_0.length c1_0, .bool a1_1] 24 (0, 0)) bk_b hb); have n3_ := Aside0.mk (blk_below (g := gb304) (o := .cells #[.slice none 0 0, .bool x305001_103] 24 (0, 0)) bk_b hb); have n4_ := Aside0.mk (below_step hb_b hb); clear BK302 BK303 BK304 HB; have HO326 := n0_; have BK302 := n1_; have BK303 := n2_; have BK304 := n3_; have HB := n4_; clear n0_ n1_ n2_ n3_ n4_; clear hb ho146; have hnb147 := NB302_304.out; have hnc147 := NB304_302.out; obtain ⟨hcz148_0, hcz148_1, hfz148_0, hfz148_1⟩ := c2_ BK302))
         go_loopg [7, 66] kj103 (fun kq v7 v66 w' => ∃ (x7_3 : List ByteArray) (x66_3 : Int) (x305001_3 : Bool), v66 = .int .i64 x66_3 ∧ Aside0 (pattern_Meet.l100 kq (l0_0.length : Int) x7_3 l0_0 (l0_0.length : Int) x66_3 l1_0 a1_1 = some (r1, r2, r3)) ∧ Aside0 (kq ≤ kj103) ∧ Aside0 (Kd.R Kd.string 9 w' w.heap.size (fun _ => True) v7 x7_3) ∧ Aside0 (Held v7 l1_0.length x7_3.length x66_3) ∧ Aside0 (w'.heap[gb302]? = some (.cells #[(.slice A0_0 l0_0.length c0_0), .bool a0_1] 24 (0, 0))) ∧ Aside0 (w'.heap[gb303]? = some (.cells #[(.slice A1_0 l1_0.length c1_0), .bool a1_1] 24 (0, 0))) ∧ Aside0 (w'.heap[gb304]? = some (.cells #[(.slice none 0 0), .bool x305001_3] 24 (0, 0))) ∧ Aside0 (Below w.heap.size w w'))
         case atStart => exact ⟨(y324), (0), (x305001_103), rs_, H', ⟨Nat.le_refl _⟩, ⟨by (with_reducible repeat (first | apply Kd.R_alloc | apply Kd.R_drewN | apply Kd.R_drew)); exact HO326.out⟩, ⟨⟨by simpa using HRM_.out, by rw [Ny324.out]; exact Int.le_refl _, by have h_ : ((l1_0.length : Int) : Int).toNat ≤ 17592186044416 := (of_decide_eq_true as_); omega⟩⟩, ⟨bk_b⟩, ⟨bk_b⟩, ⟨bk_b⟩, ⟨hb_b⟩⟩
         case round =>
          clear H'
          (try clear c21); (try clear c25); (try clear c25b0); (try clear c25b1); (try clear c140); (try clear c140b0); (try clear c140b1); (try clear c141); (try clear c141b0); (try clear c141b1); (try clear hcz107_0); (try clear hcz107_1); (try clear hcz109_0); (try clear hcz109_1); (try clear hcz144_0); (try clear hcz144_1); (try clear hcz148_0); (try clear hcz148_1); (try clear hfz107_0); (try clear hfz107_1); (try clear hfz109_0); (try clear hfz109_1); (try clear hfz144_0); (try clear hfz144_1); (try clear hfz148_0); (try clear hfz148_1)
          (try clear BK302); (try clear BK303); (try clear BK304); (try clear HB)
          obtain ⟨x7_3, x66_3, x305001_3, rfl, HA, HK3, HO_7, HH_, BK302, BK303, BK304, HB⟩ := hrel
          cases gk with
          | zero => exact absurd HA.out (by simp [pattern_Meet.l100])
          | succ k3 =>
           have H := HA.out
           clear HA
           simp only [pattern_Meet.l100] at H
           by_cases c149 : x66_3 < (l0_0.length : Int)
           ·rw [if_pos c149] at H
            have c149b0 := decide_eq_true c149
            clear c149
            by_cases c150 : 0 ≤ x66_3
            ·rw [if_pos c150] at H
             have c150b0 := decide_eq_true c150
             clear c150
             by_cases c151 : x66_3 < (l0_0.length : Int)
             ·rw [if_pos c151] at H
              have c151b0 := decide_eq_true c151
              clear c151
              by_cases c152 : x66_3 < (l1_0.length : Int)
              ·rw [if_pos c152] at H
               have c152b0 := decide_eq_true c152
               clear c152
               replace H := Option.bind_eq_some_iff.mp H
               obtain ⟨⟨t329, t330⟩, A1530, H⟩ := H
               replace H : (if t330 = true then (if x7_3.length < 8796093022208 then (pattern_Meet.l100 k3 (l0_0.length : Int) (x7_3 ++ [t329]) l0_0 (l0_0.length : Int) (wrap64 (x66_3 + 1)) l1_0 a1_1) else (none)) else (some (([] : List ByteArray), false, false))) = some (r1, r2, r3) := H
               have A153 := Aside0.mk A1530
               clear A1530
               by_cases c154 : t330 = true
               ·subst c154
                replace H := ip_ H
                by_cases c155 : x7_3.length < 8796093022208
                ·rw [if_pos c155] at H
                 have LMc155 := Aside0.mk c155
                 clear c155
                 obtain ⟨y331, hy331⟩ : ∃ y_ : List ByteArray, y_ = (x7_3 ++ [t329]) := ⟨_, rfl⟩
                 replace H : (pattern_Meet.l100 k3 (l0_0.length : Int) y331 l0_0 (l0_0.length : Int) (wrap64 (x66_3 + 1)) l1_0 a1_1) = some (r1, r2, r3) := by first | (rw [hy331]; with_reducible exact H) | (have H2_ := (Option.bind_some _ _).symm.trans H; rw [hy331]; with_reducible exact H2_) | (have H2_ := (Option.bind_some _ _).symm.trans H; with_reducible exact H2_) | with_reducible exact H | (rw [hy331]; exact H) | exact H
                 have Ny331 := Aside0.mk hy331
                 clear hy331
                 have H' := Aside0.mk H
                 clear H
                 have p327 : 0 ≤ (x66_3 : Int) := of_decide_eq_true as_
                 have q327 : x66_3 < (l0_0.length : Int) := of_decide_eq_true as_
                 obtain ⟨ad327, e327, hx327_0⟩ := Kd.at_string HR0_0.out x66_3 p327 q327
                 cases e327
                 replace hx327_0 := (HB.out.cell (World.block_lt_of_cell? w _ hx327_0)).trans hx327_0
                 replace p327 := eq_true p327
                 replace q327 := eq_true q327
                 have hnb156 := NB303_302.out
                 have hnc156 := NB302_303.out
                 have hnb157 := NB303_304.out
                 have hnc157 := NB304_303.out
                 obtain ⟨hcz158_0, hcz158_1, hfz158_0, hfz158_1⟩ := c2_ BK303
                 have p328 : 0 ≤ (x66_3 : Int) := of_decide_eq_true as_
                 have q328 : x66_3 < (l1_0.length : Int) := of_decide_eq_true as_
                 obtain ⟨ad328, e328, hx328_0⟩ := Kd.at_string HR1_0.out x66_3 p328 q328
                 cases e328
                 replace hx328_0 := (HB.out.cell (World.block_lt_of_cell? w _ hx328_0)).trans hx328_0
                 replace p328 := eq_true p328
                 replace q328 := eq_true q328
                 go_wp2_with (first | ((with_reducible refine gate_callee (f := 69) rfl ?_); refine goesL_ (some 78) rfl rfl Tryd.func69 (by kernel_rfl) rfl #[.string (rdOf ByteArray.empty l0_0 x66_3), .string (rdOf ByteArray.empty l1_0 x66_3)] rfl gl_ ?_; (with_reducible refine (pattern_narrower.calls k3 (rdOf ByteArray.empty l0_0 x66_3) (rdOf ByteArray.empty l1_0 x66_3) t329 true _ A153.out).mono ?_); rintro e w' ⟨rfl, ⟨nd, rfl⟩⟩; refine ⟨_, rfl, ?_⟩) | ((with_reducible refine gate_builtin (b := .append) (xs := #[.tmp 84, .tmp 86]) rfl ?_); at_builtin; refine R_append_room Kd.string (w0 := w) w.heap.size rfl (.tmp 84) (.tmp 86) 22 9 (.string ⟨#[]⟩) 16 rfl Tryd.underlying22 info9 rfl (by decide) (by omega) u7 x7_3 t329 [.string t329] (fun _ => True) (fun _ => False) rfl rfl ?aP (fun _ hk => hk.elim) ?aF ?aO ?aB ?aS ?aL l1_0.length ?aRm ?_; (case aRm => exact HH_.out.1); (case aP => exact rfl); (case aB => exact hb_b); (case aF => exact (fun _ _ => trivial)); (case aO => exact (rp_ HO_7)); (case aS => exact (below_size hb_b)); (case aL => have := LMc155.out; omega); intro v332 w159 ho hb hg hat hrm_; have HH2_ := Aside0.mk (Held.step (m := y331.length) HH_.out (of_decide_eq_true as_) (by rw [Ny331.out, List.length_append]; rfl) hrm_); clear hrm_; rw [← Ny331.out] at ho; have n0_ := Aside0.mk (blk_grown (g := gb302) (o := .cells #[.slice (some ad327) l0_0.length c0_0, .bool a0_1] 24 (0, 0)) bk_b hg (Kd.R_ne HO_7.out BK302.out (by decide))); have n1_ := Aside0.mk (blk_grown (g := gb303) (o := .cells #[.slice (some ad328) l1_0.length c1_0, .bool a1_1] 24 (0, 0)) bk_b hg (Kd.R_ne HO_7.out BK303.out (by decide))); have n2_ := Aside0.mk (blk_grown (g := gb304) (o := .cells #[.slice none 0 0, .bool x305001_3] 24 (0, 0)) bk_b hg (Kd.R_ne HO_7.out BK304.out (by decide))); have n3_ := Aside0.mk (hb); have n4_ := Aside0.mk (ho); clear BK302 BK303 BK304 HB HO_7; have BK302 := n0_; have BK303 := n1_; have BK304 := n2_; have HB := n3_; have HO333 := n4_; clear n0_ n1_ n2_ n3_ n4_; clear ho hb hg hat))
                 go_roundg k3
                 case measure => have := HJ2.out; have := HJ103.out; have := HK3.out; omega
                 case rel => exact ⟨(y331), (wrap64 (x66_3 + 1)), (x305001_3), rs_, H', ⟨by have := HJ2.out; have := HJ103.out; have := HK3.out; omega⟩, ⟨by (with_reducible repeat (first | apply Kd.R_alloc | apply Kd.R_drewN | apply Kd.R_drew)); exact HO333.out⟩, HH2_, ⟨bk_b⟩, ⟨bk_b⟩, ⟨bk_b⟩, ⟨hb_b⟩⟩
                ·rw [if_neg c155] at H
                 exact absurd H (by simp)
               ·replace c154 := Bool.eq_false_iff.mpr c154
                subst c154
                replace H := in_ H
                simp only [Option.some.injEq, Prod.mk.injEq] at H
                obtain ⟨rfl, rfl, rfl⟩ := H
                have p327 : 0 ≤ (x66_3 : Int) := of_decide_eq_true as_
                have q327 : x66_3 < (l0_0.length : Int) := of_decide_eq_true as_
                obtain ⟨ad327, e327, hx327_0⟩ := Kd.at_string HR0_0.out x66_3 p327 q327
                cases e327
                replace hx327_0 := (HB.out.cell (World.block_lt_of_cell? w _ hx327_0)).trans hx327_0
                replace p327 := eq_true p327
                replace q327 := eq_true q327
                have hnb160 := NB303_302.out
                have hnc160 := NB302_303.out
                have hnb161 := NB303_304.out
                have hnc161 := NB304_303.out
                obtain ⟨hcz162_0, hcz162_1, hfz162_0, hfz162_1⟩ := c2_ BK303
                have p328 : 0 ≤ (x66_3 : Int) := of_decide_eq_true as_
                have q328 : x66_3 < (l1_0.length : Int) := of_decide_eq_true as_
                obtain ⟨ad328, e328, hx328_0⟩ := Kd.at_string HR1_0.out x66_3 p328 q328
                cases e328
                replace hx328_0 := (HB.out.cell (World.block_lt_of_cell? w _ hx328_0)).trans hx328_0
                replace p328 := eq_true p328
                replace q328 := eq_true q328
                go_wp2_with (first | ((with_reducible refine gate_callee (f := 69) rfl ?_); refine goesL_ (some 78) rfl rfl Tryd.func69 (by kernel_rfl) rfl #[.string (rdOf ByteArray.empty l0_0 x66_3), .string (rdOf ByteArray.empty l1_0 x66_3)] rfl gl_ ?_; (with_reducible refine (pattern_narrower.calls k3 (rdOf ByteArray.empty l0_0 x66_3) (rdOf ByteArray.empty l1_0 x66_3) t329 false _ A153.out).mono ?_); rintro e w' ⟨rfl, ⟨nd, rfl⟩⟩; refine ⟨_, rfl, ?_⟩; (try (rw [drewN_self wr]; generalize hq_ : World.drewN wr _ = wr; have n0_ : Aside0 (Kd.R Kd.string 9 wr w.heap.size (fun _ => True) u7 x7_3) := ⟨by rw [← hq_]; exact (rp_ HO_7)⟩; have n1_ : Aside0 (wr.heap[gb302]? = some (.cells #[.slice (some ad327) l0_0.length c0_0, .bool a0_1] 24 (0, 0))) := ⟨by rw [← hq_]; exact bk_b⟩; have n2_ : Aside0 (wr.heap[gb303]? = some (.cells #[.slice (some ad328) l1_0.length c1_0, .bool a1_1] 24 (0, 0))) := ⟨by rw [← hq_]; exact bk_b⟩; have n3_ : Aside0 (wr.heap[gb304]? = some (.cells #[.slice none 0 0, .bool x305001_3] 24 (0, 0))) := ⟨by rw [← hq_]; exact bk_b⟩; have n4_ : Aside0 (Below w.heap.size w wr) := ⟨by rw [← hq_]; exact hb_b⟩; clear HO_7 BK302 BK303 BK304 HB hq_; have HO_7 := n0_; have BK302 := n1_; have BK303 := n2_; have BK304 := n3_; have HB := n4_; clear n0_ n1_ n2_ n3_ n4_)); have hnb163 := NB304_302.out; have hnc163 := NB302_304.out; obtain ⟨hcz164_0, hcz164_1, hfz164_0, hfz164_1⟩ := c2_ BK304))
                refine bodyPost_ret (results_ct rfl _ _ gb304 24 #[.slice none 0 0, .bool false] (0, 0) _ rfl bz_ Tryd.underlying24 rfl (by kernel_rfl)) rfl ?_
                exact ⟨_, rt_, rn_, hb_b⟩
              ·rw [if_neg c152] at H
               exact absurd H (by simp)
             ·rw [if_neg c151] at H
              exact absurd H (by simp)
            ·rw [if_neg c150] at H
             exact absurd H (by simp)
           ·rw [if_neg c149] at H
            have c149b0 := decide_eq_false c149
            clear c149
            by_cases c165 : 0 ≤ (l0_0.length : Int)
            ·rw [if_pos c165] at H
             have c165b0 := eq_true c165
             have c165b1 := decide_eq_true c165
             clear c165
             by_cases c166 : (l0_0.length : Int) ≤ (x7_3.length : Int)
             ·rw [if_pos c166] at H
              have c166b0 := eq_true c166
              have c166b1 := decide_eq_true c166
              clear c166
              by_cases c167 : (x7_3.length : Int) ≤ (l0_0.length : Int)
              ·rw [if_pos c167] at H
               have c167b0 := eq_true c167
               have c167b1 := decide_eq_true c167
               clear c167
               obtain ⟨y334, hy334⟩ : ∃ y_ : List ByteArray, y_ = (x7_3.take ((l0_0.length : Int) : Int).toNat) := ⟨_, rfl⟩
               replace H : (if (l0_0.length : Int) ≤ (l1_0.length : Int) then (if y334.length + (l1_0.drop ((l0_0.length : Int) : Int).toNat).length < 8796093022208 then (some ((y334 ++ (l1_0.drop ((l0_0.length : Int) : Int).toNat)), a1_1, true)) else (none)) else (none)) = some (r1, r2, r3) := by first | (rw [hy334]; with_reducible exact H) | (have H2_ := (Option.bind_some _ _).symm.trans H; rw [hy334]; with_reducible exact H2_) | (have H2_ := (Option.bind_some _ _).symm.trans H; with_reducible exact H2_) | with_reducible exact H | (rw [hy334]; exact H) | exact H
               have Ny334 := Aside0.mk hy334
               clear hy334
               have c168b0 := eq_true (of_decide_eq_true as_ : 0 ≤ (l0_0.length : Int))
               by_cases c169 : (l0_0.length : Int) ≤ (l1_0.length : Int)
               ·rw [if_pos c169] at H
                have c169b0 := eq_true c169
                have c169b1 := decide_eq_true c169
                clear c169
                by_cases c170 : y334.length + (l1_0.drop ((l0_0.length : Int) : Int).toNat).length < 8796093022208
                ·rw [if_pos c170] at H
                 have LMc170 := Aside0.mk c170
                 clear c170
                 obtain ⟨y338, hy338⟩ : ∃ y_ : List ByteArray, y_ = (y334 ++ (l1_0.drop ((l0_0.length : Int) : Int).toNat)) := ⟨_, rfl⟩
                 replace H : (some (y338, a1_1, true)) = some (r1, r2, r3) := by first | (rw [hy338]; with_reducible exact H) | (have H2_ := (Option.bind_some _ _).symm.trans H; rw [hy338]; with_reducible exact H2_) | (have H2_ := (Option.bind_some _ _).symm.trans H; with_reducible exact H2_) | with_reducible exact H | (rw [hy338]; exact H) | exact H
                 have Ny338 := Aside0.mk hy338
                 clear hy338
                 simp only [Option.some.injEq, Prod.mk.injEq] at H
                 obtain ⟨rfl, rfl, rfl⟩ := H
                 try go_wp2
                 have n0_ := Aside0.mk (Kd.R_drew HO_7.out)
                 have n1_ := Aside0.mk (blk_drew BK302.out)
                 have n2_ := Aside0.mk (blk_drew BK303.out)
                 have n3_ := Aside0.mk (blk_drew BK304.out)
                 have n4_ := Aside0.mk (below_drew1 HB.out)
                 clear HO_7; clear BK302; clear BK303; clear BK304; clear HB
                 have HO_7 := n0_
                 have BK302 := n1_
                 have BK303 := n2_
                 have BK304 := n3_
                 have HB := n4_
                 clear n0_ n1_ n2_ n3_ n4_
                 obtain ⟨Ao172, co172, eo172⟩ := Kd.R_slice HO_7.out
                 (first | subst eo172 | (injection eo172 with f1_ f2_ f3_; have f4_ := f1_.symm; have f5_ := f3_.symm; clear f1_ f2_ f3_; subst f4_; subst f5_))
                 have q173 : ((l0_0.length : Int) : Int) ≤ ((x7_3.length : Int) : Int) := of_decide_eq_true as_
                 have qr173 : ((x7_3.length : Int) : Int) ≤ ((l0_0.length : Int) : Int) := of_decide_eq_true as_
                 obtain ⟨i0173, hi0173, _, hsz173, _⟩ := info_parts info9
                 have hcut173 := cut_full (P := Tryd.prog) 22 9 .i64 Tryd.underlying22 hi0173 Ao172 x7_3.length co172 (l0_0.length : Int) (of_decide_eq_true as_) q173 qr173 (Kd.R_reads' HO_7.out).2.1
                 have hr173 := Kd.R_take (m := ((l0_0.length : Int) : Int).toNat) HO_7.out (by omega)
                 have hy173 : y334.length = ((l0_0.length : Int) : Int).toNat := (by rw [Ny334.out, List.length_take]; omega)
                 rw [← Ny334.out] at hr173
                 rw [← hy173] at hr173 hcut173
                 clear hy173 hi0173 hsz173 HO_7
                 have HO336 := Aside0.mk hr173
                 clear hr173
                 replace q173 := eq_true q173
                 clear qr173
                 obtain ⟨i0174, hi0174, _, hsz174, _⟩ := info_parts info9
                 obtain ⟨A174, hcut174, hA174, hC174⟩ := print_drop_of (P := Tryd.prog) Value.string (⟨#[]⟩ : ByteArray) 22 9 .i64 Tryd.underlying22 hi0174 hsz174 A1_0 c1_0 l1_0 (l0_0.length : Int) (of_decide_eq_true as_) (of_decide_eq_true as_) HC1_0.out
                 have HR337 := Aside0.mk (Kd.C_of_reads (h1 := fun _ => rfl) (hA174 _ (Kd.reads_of_C HR1_0.out)))
                 have HC337 := Aside0.mk hC174
                 clear hA174 hC174 hi0174 hsz174
                 refine start_ (n := 10) (S := fun w' => w'.cell? ⟨gb303, 0, none⟩ = some (.slice A1_0 l1_0.length c1_0) ∧ w'.cell? ⟨gb303, 1, none⟩ = some (.bool a1_1)) (ds := []) #[false, false, false, false, false, false, false, false, false, false] (by kernel_rfl) rfl rfl ⟨(blk_cell BK303.out 0).trans rfl, (blk_cell BK303.out 1).trans rfl⟩ (fun hHeld => ?_); refine with_tabW pattern_Meet.tab19 pattern_Meet.bits19 (fun HT_ HW_ => ?_)
                 generalize wr.drew = w171 at BK302 BK303 BK304 HB HO336 HR337 hHeld ⊢
                 refine pu_ 0 (some 89) #[true, false, false, false, false, false, false, false, false, false] HT_ rfl rfl ?_
                 refine pu_ 1 (some 90) #[true, true, false, false, false, false, false, false, false, false] HT_ rfl rfl ?_
                 refine pu_ 2 (some 91) #[true, true, true, false, false, false, false, false, false, false] HT_ rfl rfl ?_
                 refine pu_ 3 (some 92) #[true, true, true, true, false, false, false, false, false, false] HT_ rfl rfl ?_
                 refine pu_ 4 (some 93) #[true, true, true, true, true, false, false, false, false, false] HT_ rfl rfl ?_
                 refine pu_ 6 (some 95) #[true, true, true, true, true, false, true, false, false, false] HT_ rfl rfl ?_
                 refine tk_ 5 (some 94) #[true, true, true, true, true, true, true, false, false, false] HT_ HW_ rfl rfl hHeld ?_
                 refine pu_ 7 (some 96) #[true, true, true, true, true, true, true, true, false, false] HT_ rfl rfl ?_
                 refine one_ (i := 8) (N := some 97) #[true, true, true, true, true, true, true, true, true, false] rfl rfl (one_of HT_.out (by kernel_rfl)) (by decide) (fun K hK => ?_)
                 refine R_append_cut_step Kd.string (w0 := w) w.heap.size (by rfl) (.tmp 92) (.tmp 96) 22 9 (.string ⟨#[]⟩) 16 rfl Tryd.underlying22 info9 rfl (by decide) (by omega) Ao172 co172 y334 (l1_0.drop ((l0_0.length : Int) : Int).toNat) _ _ _ (fun _ => True) (fun _ => False) rfl rfl ?aO ?aQ ?aR (fun _ _ h => h) (fun _ h => h.elim) ?aF ?aB ?aS ?aL ?_
                 (case aR => first | (rw [show (l1_0.length - l0_0.length) = (l1_0.drop ((l0_0.length : Int) : Int).toNat).length from List.length_drop.symm]; repeat (first | exact (Kd.C_below HR337.out HB.out) | (with_reducible refine Kd.C_alloc ?_ _) | (with_reducible refine Kd.C_drewN ?_ _) | (with_reducible refine Kd.C_drew ?_))) | (rw [← show (l1_0.drop ((l0_0.length : Int) : Int).toNat).length = (l1_0.length - (l0_0.length : Int).toNat) from List.length_drop]; repeat (first | exact (Kd.C_below HR337.out HB.out) | (with_reducible refine Kd.C_alloc ?_ _) | (with_reducible refine Kd.C_drewN ?_ _) | (with_reducible refine Kd.C_drew ?_))) | (repeat (first | exact (Kd.C_below HR337.out HB.out) | (with_reducible refine Kd.C_alloc ?_ _) | (with_reducible refine Kd.C_drewN ?_ _) | (with_reducible refine Kd.C_drew ?_))))
                 (case aQ => exact (fun h_ => by have e_ := room_of HH_.out.1; (try rw [List.length_drop] at h_); have h1_ : (l0_0.length : Int) ≤ (l1_0.length : Int) := (of_decide_eq_true as_); have h2_ := of_eq_true q173; rw [e_, Ny334.out, List.length_take]; omega))
                 (case aB => exact hb_b)
                 (case aF => exact (fun _ _ => trivial))
                 (case aO => exact (rp_ HO336))
                 (case aS => exact (below_size hb_b))
                 (case aL => have := LMc170.out; have hlx_ := (show (l1_0.drop ((l0_0.length : Int) : Int).toNat).length = (l1_0.length - (l0_0.length : Int).toNat) from List.length_drop); omega)
                 intro v339 w175 ho hb hg hat
                 rw [← Ny338.out] at ho
                 have n0_ := Aside0.mk (blk_grown (g := gb302) (o := .cells #[.slice A0_0 l0_0.length c0_0, .bool a0_1] 24 (0, 0)) bk_b hg (Kd.R_ne HO336.out BK302.out (by decide)))
                 have n1_ := Aside0.mk (blk_grown (g := gb303) (o := .cells #[.slice A1_0 l1_0.length c1_0, .bool a1_1] 24 (0, 0)) bk_b hg (Kd.R_ne HO336.out BK303.out (by decide)))
                 have n2_ := Aside0.mk (blk_grown (g := gb304) (o := .cells #[.slice none 0 0, .bool x305001_3] 24 (0, 0)) bk_b hg (Kd.R_ne HO336.out BK304.out (by decide)))
                 have n3_ := Aside0.mk (hb)
                 have n4_ := Aside0.mk (ho)
                 clear BK302; clear BK303; clear BK304; clear HB; clear HO336
                 have BK302 := n0_
                 have BK303 := n1_
                 have BK304 := n2_
                 have HB := n3_
                 have HO340 := n4_
                 clear n0_ n1_ n2_ n3_ n4_
                 clear ho hb hg hat
                 refine hK.out _ _ ⟨(blk_cell BK303.out 0).trans rfl, (blk_cell BK303.out 1).trans rfl⟩ (fun hHeld => ?_)
                 clear hK K
                 refine norm_ (a' := ?_) ?_ ?_
                 rotate_left
                 ·show Act.put _ (some 97) _ = _
                  simp only [Act.put, List.setIfInBounds_toArray, List.set_cons_zero, List.set_cons_succ, i64_w, i32_w]
                  rfl
                 refine pu_ 9 (some 7) #[true, true, true, true, true, true, true, true, true, true] HT_ rfl rfl ?_
                 refine done_ (done_of HT_.out (by kernel_rfl)) ?_
                 have hnb176 := NB303_302.out
                 have hnc176 := NB302_303.out
                 have hnb177 := NB303_304.out
                 have hnc177 := NB304_303.out
                 obtain ⟨hcz178_0, hcz178_1, hfz178_0, hfz178_1⟩ := c2_ BK303
                 obtain ⟨Ao179, co179, eo179⟩ := Kd.R_slice HO340.out
                 subst eo179
                 have hnb180 := NB304_302.out
                 have hnc180 := NB302_304.out
                 obtain ⟨hcz181_0, hcz181_1, hfz181_0, hfz181_1⟩ := c2_ BK304
                 try go_wp2
                 refine bodyPost_ret (results_ct rfl _ _ gb304 24 #[.slice Ao179 y338.length co179, .bool a1_1] (0, 0) _ rfl bz_ Tryd.underlying24 rfl (by kernel_rfl)) rfl ?_
                 exact ⟨_, rt_, by (with_reducible repeat (first | apply Kd.R_alloc | apply Kd.R_drewN | apply Kd.R_drew)); exact Kd.R_mono (Kd.R_far (p := ⟨gb304, 1, none⟩) (Kd.R_far (p := ⟨gb304, 0, none⟩) (Kd.R_types HO340.out BK304.out (by decide)) (fun _ hk => hk.2) (.slice Ao179 y338.length co179)) (fun _ hk => hk.2) (.bool a1_1)) (fun _ hk => trivial), hb_b⟩
                ·rw [if_neg c170] at H
                 exact absurd H (by simp)
               ·rw [if_neg c169] at H
                exact absurd H (by simp)
              ·rw [if_neg c167] at H
               exact absurd H (by simp)
             ·rw [if_neg c166] at H
              exact absurd H (by simp)
            ·rw [if_neg c165] at H
             exact absurd H (by simp)
        ·rw [if_neg c141] at H
         exact absurd H (by simp)
       ·rw [if_neg c140] at H
        exact absurd H (by simp)

/-! ### pattern_Within: function 19 -/
mutual
def pattern_Within.j0 : Nat → Bool → List ByteArray → Bool → List ByteArray → Bool → Option (Bool)
  | 0, _, _, _, _, _ => none
  | k + 1, x32, x342000, x342001, x349000, x349001 => if x32 = true then (some false) else (pattern_Within.l0 k x342000 (x342000.length : Int) 0 x349000 x349001)
def pattern_Within.l0 : Nat → List ByteArray → Int → Int → List ByteArray → Bool → Option (Bool)
  | 0, _, _, _, _, _ => none
  | k + 1, x34, x35, x36, x349000, x349001 => if x36 < x35 then (if 0 ≤ x36 then (if x36 < (x34.length : Int) then (if x36 < (x349000.length : Int) then (if (rdOf ByteArray.empty x349000 x36).toList = (rdOf ByteArray.empty x34 x36).toList then (pattern_Within.l0 k x34 x35 (wrap64 (x36 + 1)) x349000 x349001) else (some false)) else (none)) else (none)) else (none)) else (some true)
end
def pattern_Within.f (k : Nat) (l0_0 : List ByteArray) (a0_1 : Bool) (l1_0 : List ByteArray) (a1_1 : Bool) : Option (Bool) := (pattern_Meet.f k l0_0 a0_1 l1_0 a1_1).bind fun bt343 => (if bt343.2.2 = true then (if (bt343.2.1 != a0_1) = true then (pattern_Within.j0 k true l0_0 a0_1 bt343.1 bt343.2.1) else (pattern_Within.j0 k ((bt343.1.length : Int) != (l0_0.length : Int)) l0_0 a0_1 bt343.1 bt343.2.1)) else (pattern_Within.j0 k true l0_0 a0_1 bt343.1 bt343.2.1))
set_option maxHeartbeats 8000000 in
set_option maxRecDepth 100000 in
theorem pattern_Within.calls (k : Nat) (A0_0 : Option Addr) (c0_0 : Nat) (l0_0 : List ByteArray) (a0_1 : Bool) (A1_0 : Option Addr) (c1_0 : Nat) (l1_0 : List ByteArray) (a1_1 : Bool) (r : Bool) (w : World) (hr0_0 : Kd.C Kd.string w A0_0 l0_0.length l0_0) (hc0_0 : l0_0.length ≤ c0_0) (hr1_0 : Kd.C Kd.string w A1_0 l1_0.length l1_0) (hc1_0 : l1_0.length ≤ c1_0) (h : pattern_Within.f k l0_0 a0_1 l1_0 a1_1 = some r) :
  Calls Tryd.prog 19 #[.agg #[.slice A0_0 l0_0.length c0_0, .bool a0_1], .agg #[.slice A1_0 l1_0.length c1_0, .bool a1_1]] w fun e w' => e = .returned (.bool r) ∧ Below w.heap.size w w' := by
 have hu24 := Tryd.underlying24
 have HR0_0 := Aside0.mk hr0_0
 have HC0_0 := Aside0.mk hc0_0
 clear hr0_0 hc0_0
 have HR1_0 := Aside0.mk hr1_0
 have HC1_0 := Aside0.mk hc1_0
 clear hr1_0 hc1_0
 have HB := Aside0.mk (Below.refl w.heap.size w)
 have H : ((pattern_Meet.f k l0_0 a0_1 l1_0 a1_1).bind fun bt343 => (if bt343.2.2 = true then (if (bt343.2.1 != a0_1) = true then (pattern_Within.j0 k true l0_0 a0_1 bt343.1 bt343.2.1) else (pattern_Within.j0 k ((bt343.1.length : Int) != (l0_0.length : Int)) l0_0 a0_1 bt343.1 bt343.2.1)) else (pattern_Within.j0 k true l0_0 a0_1 bt343.1 bt343.2.1))) = some r := h
 clear h
 replace H := Option.bind_eq_some_iff.mp H
 obtain ⟨⟨t343, t346, t347⟩, A30, H⟩ := H
 replace H : (if t347 = true then (if (t346 != a0_1) = true then (pattern_Within.j0 k true l0_0 a0_1 t343 t346) else (pattern_Within.j0 k ((t343.length : Int) != (l0_0.length : Int)) l0_0 a0_1 t343 t346)) else (pattern_Within.j0 k true l0_0 a0_1 t343 t346)) = some r := H
 have A3 := Aside0.mk A30
 clear A30
 have HC4 := Aside0.mk H
 clear H
 go_enter Tryd.func19, Tryd.ntmps19
 go_upto_region 2 with (first | ((with_reducible refine gate_dst (N := 2) rfl ?_); (try (refine gate_guard (by rfl) ?_; dsimp only)); refine box_event ?hg (N := 2) ?hd (cs := #[.slice A0_0 l0_0.length c0_0, .bool a0_1]) (t := 24) ?hr ?_; (case hd => rfl); (case hg => rfl); (case hr => first | (go_simp; done) | (go_simp; rfl)); intro gb341 hg w5 hbox hb; have BK341 := Aside0.mk hbox; have GW341 := gw_ HB hg; have GE341 := gw_ HB hg; replace HB := hs_ HB hb; clear hb hbox hg) | ((with_reducible refine gate_dst (N := 3) rfl ?_); (try (refine gate_guard (by rfl) ?_; dsimp only)); refine box_event ?hg (N := 3) ?hd (cs := #[.slice A1_0 l1_0.length c1_0, .bool a1_1]) (t := 24) ?hr ?_; (case hd => rfl); (case hg => rfl); (case hr => first | (go_simp; done) | (go_simp; rfl)); intro gb342 hg w6 hbox hb; have BK342 := Aside0.mk hbox; have GW342 := gw_ HB hg; have GE342 := gw_ HB hg; have NB341_342 := nl_ BK341 hg; have NB342_341 := nr_ BK341 hg; replace BK341 := bb_ BK341 hb; replace HB := hs_ HB hb; clear hb hbox hg; have hnb7 := NB341_342.out; have hnc7 := NB342_341.out; obtain ⟨hcz8_0, hcz8_1, hfz8_0, hfz8_1⟩ := c2_ BK341; obtain ⟨hcz9_0, hcz9_1, hfz9_0, hfz9_1⟩ := c2_ BK342) | ((with_reducible refine gate_callee (f := 44) rfl ?_); refine goesL_ (some 12) rfl rfl Tryd.func44 (by kernel_rfl) rfl #[.agg #[.slice A0_0 l0_0.length c0_0, .bool a0_1], .agg #[.slice A1_0 l1_0.length c1_0, .bool a1_1]] rfl gl_ ?_; (with_reducible refine (pattern_Meet.calls k _ _ l0_0 a0_1 _ _ l1_0 a1_1 t343 t346 t347 _ ?side1 ?side2 ?side3 ?side4 A3.out).mono ?_); (case side1 => exact sd_); (case side2 => exact HC0_0.out); (case side3 => exact sd_); (case side4 => exact HC1_0.out); rintro e w10 ⟨v344, rfl, ho0, hb⟩; refine ⟨_, rfl, ?_⟩; have n0_ := Aside0.mk (Kd.R_lower ho0 (below_size hb_)); replace BK341 := bb_ BK341 hb; replace BK342 := bb_ BK342 hb; replace HB := hs_ HB hb; have HO345 := n0_; clear n0_; (try clear hb); (try clear ho0)) | ((with_reducible refine gate_dst (N := 5) rfl ?_); (try (refine gate_guard (by rfl) ?_; dsimp only)); refine box_event ?hg (N := 5) ?hd (cs := #[.slice none 0 0, .bool false]) (t := 24) ?hr ?_; (case hd => rfl); (case hg => rfl); (case hr => first | (go_simp; done) | (go_simp; rfl)); intro gb348 hg w11 hbox hb; have BK348 := Aside0.mk hbox; have GW348 := gw_ HB hg; have GE348 := gw_ HB hg; have NB341_348 := nl_ BK341 hg; have NB348_341 := nr_ BK341 hg; have NB342_348 := nl_ BK342 hg; have NB348_342 := nr_ BK342 hg; replace HO345 := rb_ HO345 hb; replace BK341 := bb_ BK341 hb; replace BK342 := bb_ BK342 hb; replace HB := hs_ HB hb; clear hb hbox hg; obtain ⟨Ao12, co12, eo12⟩ := Kd.R_slice HO345.out; subst eo12; have hnb13 := NB348_341.out; have hnc13 := NB341_348.out; have hnb14 := NB348_342.out; have hnc14 := NB342_348.out; obtain ⟨hcz15_0, hcz15_1, hfz15_0, hfz15_1⟩ := c2_ BK348))
 (try simp only [Act.put, List.setIfInBounds_toArray, List.set_cons_zero, List.set_cons_succ])
 go_cut [32] (fun v32 wc => ∃ (kq : Nat) (x32_3 : Bool), v32 = .bool x32_3 ∧ Aside0 (pattern_Within.j0 kq x32_3 l0_0 a0_1 t343 t346 = some r) ∧ Aside0 (kq ≤ k) ∧ Aside0 (Kd.R Kd.string 9 wc w.heap.size (fun _ => True) (.slice Ao12 t343.length co12) t343) ∧ Aside0 (wc.heap[gb341]? = some (.cells #[(.slice A0_0 l0_0.length c0_0), .bool a0_1] 24 (0, 0))) ∧ Aside0 (wc.heap[gb342]? = some (.cells #[(.slice A1_0 l1_0.length c1_0), .bool a1_1] 24 (0, 0))) ∧ Aside0 (wc.heap[gb348]? = some (.cells #[(.slice Ao12 t343.length co12), .bool t346] 24 (0, 0))) ∧ Aside0 (Below w.heap.size w wc))
 case first =>
  have H := HC4.out
  clear HC4
  by_cases c16 : t347 = true
  ·subst c16
   replace H := ip_ H
   by_cases c17 : (t346 != a0_1) = true
   ·rw [if_pos c17] at H
    have c17b0 : (t346 != a0_1) = true := c17
    (try (have c17b1 : decide (t346 = a0_1) = false := by simpa using c17))
    (try (have c17b2 : (t346 == a0_1) = false := by simpa using c17))
    (try (have c17b3 : ¬ (t346 = a0_1) := by simpa using c17))
    clear c17
    (first | rw [c17b0] | (simp only [i64_w, i32_w]; rw [c17b0]) | skip)
    have H' := Aside0.mk H
    clear H
    have hnb18 := NB348_341.out
    have hnc18 := NB341_348.out
    have hnb19 := NB348_342.out
    have hnc19 := NB342_348.out
    obtain ⟨hcz20_0, hcz20_1, hfz20_0, hfz20_1⟩ := c2_ BK348
    have hnb21 := NB341_342.out
    have hnc21 := NB342_341.out
    obtain ⟨hcz22_0, hcz22_1, hfz22_0, hfz22_1⟩ := c2_ BK341
    go_wp2
    go_meet
    case rel => exact ⟨_, (true), rs_, H', ⟨om_⟩, ⟨by (with_reducible repeat (first | apply Kd.R_alloc | apply Kd.R_drewN | apply Kd.R_drew)); exact Kd.R_mono (Kd.R_far (p := ⟨gb348, 1, none⟩) (Kd.R_far (p := ⟨gb348, 0, none⟩) (Kd.R_types HO345.out BK348.out (by decide)) (fun _ hk => hk.2) (.slice Ao12 t343.length co12)) (fun _ hk => hk.2) (.bool t346)) (fun _ hk => trivial)⟩, ⟨by (with_reducible repeat (first | refine blk_drewN ?_ _ | refine blk_drew ?_ | refine blk_alloc ?_ _)); refine blk_far ?_ NB341_348.out _; (with_reducible repeat (first | refine blk_drewN ?_ _ | refine blk_drew ?_ | refine blk_alloc ?_ _)); refine blk_far ?_ NB341_348.out _; (with_reducible repeat (first | refine blk_drewN ?_ _ | refine blk_drew ?_ | refine blk_alloc ?_ _)); exact BK341.out⟩, ⟨by (with_reducible repeat (first | refine blk_drewN ?_ _ | refine blk_drew ?_ | refine blk_alloc ?_ _)); refine blk_far ?_ NB342_348.out _; (with_reducible repeat (first | refine blk_drewN ?_ _ | refine blk_drew ?_ | refine blk_alloc ?_ _)); refine blk_far ?_ NB342_348.out _; (with_reducible repeat (first | refine blk_drewN ?_ _ | refine blk_drew ?_ | refine blk_alloc ?_ _)); exact BK342.out⟩, ⟨by (with_reducible repeat (first | refine blk_drewN ?_ _ | refine blk_drew ?_ | refine blk_alloc ?_ _)); refine blk_put (cs := #[.slice Ao12 t343.length co12, .bool false]) ?_ 1 _ rfl; (with_reducible repeat (first | refine blk_drewN ?_ _ | refine blk_drew ?_ | refine blk_alloc ?_ _)); refine blk_put (cs := #[.slice none 0 0, .bool false]) ?_ 0 _ rfl; (with_reducible repeat (first | refine blk_drewN ?_ _ | refine blk_drew ?_ | refine blk_alloc ?_ _)); exact BK348.out⟩, ⟨hb_⟩⟩
   ·rw [if_neg c17] at H
    have c17b0 : (t346 != a0_1) = false := by simpa using c17
    (try (have c17b1 : decide (t346 = a0_1) = true := by simpa using c17))
    (try (have c17b2 : (t346 == a0_1) = true := by simpa using c17))
    clear c17
    (first | rw [c17b0] | (simp only [i64_w, i32_w]; rw [c17b0]) | skip)
    have H' := Aside0.mk H
    clear H
    have hnb23 := NB348_341.out
    have hnc23 := NB341_348.out
    have hnb24 := NB348_342.out
    have hnc24 := NB342_348.out
    obtain ⟨hcz25_0, hcz25_1, hfz25_0, hfz25_1⟩ := c2_ BK348
    have hnb26 := NB341_342.out
    have hnc26 := NB342_341.out
    obtain ⟨hcz27_0, hcz27_1, hfz27_0, hfz27_1⟩ := c2_ BK341
    go_wp2
    go_meet
    case rel => exact ⟨_, (((t343.length : Int) != (l0_0.length : Int))), rs_, H', ⟨om_⟩, ⟨by (with_reducible repeat (first | apply Kd.R_alloc | apply Kd.R_drewN | apply Kd.R_drew)); exact Kd.R_mono (Kd.R_far (p := ⟨gb348, 1, none⟩) (Kd.R_far (p := ⟨gb348, 0, none⟩) (Kd.R_types HO345.out BK348.out (by decide)) (fun _ hk => hk.2) (.slice Ao12 t343.length co12)) (fun _ hk => hk.2) (.bool t346)) (fun _ hk => trivial)⟩, ⟨by (with_reducible repeat (first | refine blk_drewN ?_ _ | refine blk_drew ?_ | refine blk_alloc ?_ _)); refine blk_far ?_ NB341_348.out _; (with_reducible repeat (first | refine blk_drewN ?_ _ | refine blk_drew ?_ | refine blk_alloc ?_ _)); refine blk_far ?_ NB341_348.out _; (with_reducible repeat (first | refine blk_drewN ?_ _ | refine blk_drew ?_ | refine blk_alloc ?_ _)); exact BK341.out⟩, ⟨by (with_reducible repeat (first | refine blk_drewN ?_ _ | refine blk_drew ?_ | refine blk_alloc ?_ _)); refine blk_far ?_ NB342_348.out _; (with_reducible repeat (first | refine blk_drewN ?_ _ | refine blk_drew ?_ | refine blk_alloc ?_ _)); refine blk_far ?_ NB342_348.out _; (with_reducible repeat (first | refine blk_drewN ?_ _ | refine blk_drew ?_ | refine blk_alloc ?_ _)); exact BK342.out⟩, ⟨by (with_reducible repeat (first | refine blk_drewN ?_ _ | refine blk_drew ?_ | refine blk_alloc ?_ _)); refine blk_put (cs := #[.slice Ao12 t343.length co12, .bool false]) ?_ 1 _ rfl; (with_reducible repeat (first | refine blk_drewN ?_ _ | refine blk_drew ?_ | refine blk_alloc ?_ _)); refine blk_put (cs := #[.slice none 0 0, .bool false]) ?_ 0 _ rfl; (with_reducible repeat (first | refine blk_drewN ?_ _ | refine blk_drew ?_ | refine blk_alloc ?_ _)); exact BK348.out⟩, ⟨hb_⟩⟩
  ·replace c16 := Bool.eq_false_iff.mpr c16
   subst c16
   replace H := in_ H
   have H' := Aside0.mk H
   clear H
   go_wp2
   go_meet
   case rel => exact ⟨_, (true), rs_, H', ⟨om_⟩, ⟨by (with_reducible repeat (first | apply Kd.R_alloc | apply Kd.R_drewN | apply Kd.R_drew)); exact Kd.R_mono (Kd.R_far (p := ⟨gb348, 1, none⟩) (Kd.R_far (p := ⟨gb348, 0, none⟩) (Kd.R_types HO345.out BK348.out (by decide)) (fun _ hk => hk.2) (.slice Ao12 t343.length co12)) (fun _ hk => hk.2) (.bool t346)) (fun _ hk => trivial)⟩, ⟨by (with_reducible repeat (first | refine blk_drewN ?_ _ | refine blk_drew ?_ | refine blk_alloc ?_ _)); refine blk_far ?_ NB341_348.out _; (with_reducible repeat (first | refine blk_drewN ?_ _ | refine blk_drew ?_ | refine blk_alloc ?_ _)); refine blk_far ?_ NB341_348.out _; (with_reducible repeat (first | refine blk_drewN ?_ _ | refine blk_drew ?_ | refine blk_alloc ?_ _)); exact BK341.out⟩, ⟨by (with_reducible repeat (first | refine blk_drewN ?_ _ | refine blk_drew ?_ | refine blk_alloc ?_ _)); refine blk_far ?_ NB342_348.out _; (with_reducible repeat (first | refine blk_drewN ?_ _ | refine blk_drew ?_ | refine blk_alloc ?_ _)); refine blk_far ?_ NB342_348.out _; (with_reducible repeat (first | refine blk_drewN ?_ _ | refine blk_drew ?_ | refine blk_alloc ?_ _)); exact BK342.out⟩, ⟨by (with_reducible repeat (first | refine blk_drewN ?_ _ | refine blk_drew ?_ | refine blk_alloc ?_ _)); refine blk_put (cs := #[.slice Ao12 t343.length co12, .bool false]) ?_ 1 _ rfl; (with_reducible repeat (first | refine blk_drewN ?_ _ | refine blk_drew ?_ | refine blk_alloc ?_ _)); refine blk_put (cs := #[.slice none 0 0, .bool false]) ?_ 0 _ rfl; (with_reducible repeat (first | refine blk_drewN ?_ _ | refine blk_drew ?_ | refine blk_alloc ?_ _)); exact BK348.out⟩, ⟨hb_⟩⟩
 case rest =>
  clear HC4; (try clear hcz15_0); (try clear hcz15_1); (try clear hcz8_0); (try clear hcz8_1); (try clear hcz9_0); (try clear hcz9_1); (try clear hfz15_0); (try clear hfz15_1); (try clear hfz8_0); (try clear hfz8_1); (try clear hfz9_0); (try clear hfz9_1)
  obtain ⟨kq, x32_3, rfl, HA, HJ3, HO_349000, BK341, BK342, BK348, HB⟩ := hcut
  cases kq with
  | zero => exact absurd HA.out (by simp [pattern_Within.j0])
  | succ kj3 =>
   have H := HA.out
   clear HA
   simp only [pattern_Within.j0] at H
   by_cases c28 : x32_3 = true
   ·subst c28
    replace H := ip_ H
    obtain rfl := Option.some.inj H
    go_wp2
    go_ret
    exact ⟨rt_, hb_⟩
   ·replace c28 := Bool.eq_false_iff.mpr c28
    subst c28
    replace H := in_ H
    have H' := Aside0.mk H
    clear H
    have hnb29 := NB341_342.out
    have hnc29 := NB342_341.out
    have hnb30 := NB341_348.out
    have hnc30 := NB348_341.out
    obtain ⟨hcz31_0, hcz31_1, hfz31_0, hfz31_1⟩ := c2_ BK341
    go_wp2
    go_loopg [36] kj3 (fun kq v36 w' => ∃ (x36_2 : Int), v36 = .int .i64 x36_2 ∧ Aside0 (pattern_Within.l0 kq l0_0 (l0_0.length : Int) x36_2 t343 t346 = some r) ∧ Aside0 (kq ≤ kj3) ∧ Aside0 (Kd.R Kd.string 9 w' w.heap.size (fun _ => True) (.slice Ao12 t343.length co12) t343) ∧ Aside0 (w'.heap[gb341]? = some (.cells #[(.slice A0_0 l0_0.length c0_0), .bool a0_1] 24 (0, 0))) ∧ Aside0 (w'.heap[gb342]? = some (.cells #[(.slice A1_0 l1_0.length c1_0), .bool a1_1] 24 (0, 0))) ∧ Aside0 (w'.heap[gb348]? = some (.cells #[(.slice Ao12 t343.length co12), .bool t346] 24 (0, 0))) ∧ Aside0 (Below w.heap.size w w'))
    case atStart => exact ⟨(0), rs_, H', ⟨Nat.le_refl _⟩, ⟨by (with_reducible repeat (first | apply Kd.R_alloc | apply Kd.R_drewN | apply Kd.R_drew)); exact HO_349000.out⟩, ⟨bk_⟩, ⟨bk_⟩, ⟨bk_⟩, ⟨hb_⟩⟩
    case round =>
     clear H'
     (try clear c28); (try clear hcz15_0); (try clear hcz15_1); (try clear hcz31_0); (try clear hcz31_1); (try clear hcz8_0); (try clear hcz8_1); (try clear hcz9_0); (try clear hcz9_1); (try clear hfz15_0); (try clear hfz15_1); (try clear hfz31_0); (try clear hfz31_1); (try clear hfz8_0); (try clear hfz8_1); (try clear hfz9_0); (try clear hfz9_1)
     obtain ⟨x36_2, rfl, HA, HK2, HO_349000, BK341, BK342, BK348, HB⟩ := hrel
     cases gk with
     | zero => exact absurd HA.out (by simp [pattern_Within.l0])
     | succ k2 =>
      have H := HA.out
      clear HA
      simp only [pattern_Within.l0] at H
      by_cases c32 : x36_2 < (l0_0.length : Int)
      ·rw [if_pos c32] at H
       have c32b0 := decide_eq_true c32
       clear c32
       by_cases c33 : 0 ≤ x36_2
       ·rw [if_pos c33] at H
        have c33b0 := decide_eq_true c33
        clear c33
        by_cases c34 : x36_2 < (l0_0.length : Int)
        ·rw [if_pos c34] at H
         have c34b0 := decide_eq_true c34
         clear c34
         by_cases c35 : x36_2 < (t343.length : Int)
         ·rw [if_pos c35] at H
          have c35b0 := decide_eq_true c35
          clear c35
          by_cases c36 : (rdOf ByteArray.empty t343 x36_2).toList = (rdOf ByteArray.empty l0_0 x36_2).toList
          ·rw [if_pos c36] at H
           have c36b0 := beq_iff_eq.mpr c36
           have c36b1 := bne_eq_false_iff_eq.mpr c36
           clear c36
           have H' := Aside0.mk H
           clear H
           have p349 : 0 ≤ (x36_2 : Int) := of_decide_eq_true as_
           have q349 : x36_2 < (l0_0.length : Int) := of_decide_eq_true as_
           obtain ⟨ad349, e349, hx349_0⟩ := Kd.at_string HR0_0.out x36_2 p349 q349
           cases e349
           replace hx349_0 := (HB.out.cell (World.block_lt_of_cell? w _ hx349_0)).trans hx349_0
           replace p349 := eq_true p349
           replace q349 := eq_true q349
           have hnb37 := NB348_341.out
           have hnc37 := NB341_348.out
           have hnb38 := NB348_342.out
           have hnc38 := NB342_348.out
           obtain ⟨hcz39_0, hcz39_1, hfz39_0, hfz39_1⟩ := c2_ BK348
           have p350 : 0 ≤ (x36_2 : Int) := of_decide_eq_true as_
           have q350 : x36_2 < (t343.length : Int) := of_decide_eq_true as_
           obtain ⟨ad350, e350, hx350_0⟩ := Kd.at_string (Kd.R_reads' HO_349000.out).2.2 x36_2 p350 q350
           cases e350
           replace p350 := eq_true p350
           replace q350 := eq_true q350
           go_wp2
           go_roundg k2
           case measure => have := HJ3.out; have := HK2.out; omega
           case rel => exact ⟨(wrap64 (x36_2 + 1)), rs_, H', ⟨by have := HJ3.out; have := HK2.out; omega⟩, ⟨by (with_reducible repeat (first | apply Kd.R_alloc | apply Kd.R_drewN | apply Kd.R_drew)); exact HO_349000.out⟩, ⟨bk_⟩, ⟨bk_⟩, ⟨bk_⟩, ⟨hb_⟩⟩
          ·rw [if_neg c36] at H
           have c36b0 := beq_eq_false_iff_ne.mpr c36
           have c36b1 := bne_iff_ne.mpr c36
           obtain rfl := Option.some.inj H
           have p349 : 0 ≤ (x36_2 : Int) := of_decide_eq_true as_
           have q349 : x36_2 < (l0_0.length : Int) := of_decide_eq_true as_
           obtain ⟨ad349, e349, hx349_0⟩ := Kd.at_string HR0_0.out x36_2 p349 q349
           cases e349
           replace hx349_0 := (HB.out.cell (World.block_lt_of_cell? w _ hx349_0)).trans hx349_0
           replace p349 := eq_true p349
           replace q349 := eq_true q349
           have hnb40 := NB348_341.out
           have hnc40 := NB341_348.out
           have hnb41 := NB348_342.out
           have hnc41 := NB342_348.out
           obtain ⟨hcz42_0, hcz42_1, hfz42_0, hfz42_1⟩ := c2_ BK348
           have p350 : 0 ≤ (x36_2 : Int) := of_decide_eq_true as_
           have q350 : x36_2 < (t343.length : Int) := of_decide_eq_true as_
           obtain ⟨ad350, e350, hx350_0⟩ := Kd.at_string (Kd.R_reads' HO_349000.out).2.2 x36_2 p350 q350
           cases e350
           replace p350 := eq_true p350
           replace q350 := eq_true q350
           go_wp2
           go_ret
           exact ⟨rt_, hb_⟩
         ·rw [if_neg c35] at H
          exact absurd H (by simp)
        ·rw [if_neg c34] at H
         exact absurd H (by simp)
       ·rw [if_neg c33] at H
        exact absurd H (by simp)
      ·rw [if_neg c32] at H
       have c32b0 := decide_eq_false c32
       clear c32
       obtain rfl := Option.some.inj H
       go_wp2
       go_ret
       exact ⟨rt_, hb_⟩

/-! ### pattern_Bind: function 18 -/
def pattern_Bind.l0 : Nat → List (S28) → List ByteArray → Int → Int → List ByteArray → Bool → List ByteArray → Bool → Option ((List (S28)) × Bool)
  | 0, _, _, _, _, _, _, _, _ => none
  | k + 1, x6, x17, x18, x19, x352000, x352001, x353000, x353001 => if x19 < x18 then (if 0 ≤ x19 then (if x19 < (x17.length : Int) then ((pattern_formOf.f k (rdOf ByteArray.empty x17 x19)).bind fun bt355 => (if bt355.1 = 2 then (if x19 < (x353000.length : Int) then (if 0 ≤ (wrap64 (((rdOf ByteArray.empty x353000 x19).size : Int) - (bt355.2.size : Int))) then (if (wrap64 (((rdOf ByteArray.empty x353000 x19).size : Int) - (bt355.2.size : Int))) ≤ ((rdOf ByteArray.empty x353000 x19).size : Int) then (if x6.length < 4398046511104 then (pattern_Bind.l0 k (x6 ++ [(⟨(([(rdOf ByteArray.empty x353000 x19).extract 0 ((wrap64 (((rdOf ByteArray.empty x353000 x19).size : Int) - (bt355.2.size : Int))) : Int).toNat] : List ByteArray)), false⟩ : S28)]) x17 x18 (wrap64 (x19 + 1)) x352000 x352001 x353000 x353001) else (none)) else (none)) else (none)) else (none)) else (pattern_Bind.l0 k x6 x17 x18 (wrap64 (x19 + 1)) x352000 x352001 x353000 x353001))) else (none)) else (none)) else (if x352001 = true then ((some (([] : List ByteArray) : List ByteArray)).bind fun y364 => (if 0 ≤ (x352000.length : Int) then (if (x352000.length : Int) ≤ (x353000.length : Int) then (if y364.length + (x353000.drop ((x352000.length : Int) : Int).toNat).length < 8796093022208 then (if x6.length < 4398046511104 then (some ((x6 ++ [(⟨(y364 ++ (x353000.drop ((x352000.length : Int) : Int).toNat)), x353001⟩ : S28)]), true)) else (none)) else (none)) else (none)) else (none))) else (some (x6, true)))
def pattern_Bind.f (k : Nat) (l0_0 : List ByteArray) (a0_1 : Bool) (l1_0 : List ByteArray) (a1_1 : Bool) : Option ((List (S28)) × Bool) := (pattern_Within.f k l1_0 a1_1 l0_0 a0_1).bind fun t353 => (if t353 = true then (pattern_Bind.l0 k ([] : List (S28)) l0_0 (l0_0.length : Int) 0 l0_0 a0_1 l1_0 a1_1) else (some (([] : List (S28)), false)))
def pattern_Bind.T13 : Bool × List (List Nat × List Nat) := (true, [([], []), ([], []), ([], []), ([2], [2]), ([], []), ([4], [4]), ([5], [5]), ([3, 6], [3, 6]), ([1, 7], [1, 7]), ([], []), ([9], [9]), ([8, 10], [8, 10]), ([11], [11]), ([0, 12, 8], [0, 12]), ([13, 13, 0, 1, 2, 3, 4, 5, 6, 7, 8, 9, 10, 11, 12, 13], [0, 13])])
def pattern_Bind.B13 : List Nat := [0, 0, 0, 4, 0, 16, 48, 124, 254, 0, 512, 2046, 4094, 8191, 16383]
theorem pattern_Bind.tab13 : rtab .any (opsOf Tryd.f18 13) = pattern_Bind.T13 := by kernel_rfl
theorem pattern_Bind.bits13 : waitsOk pattern_Bind.T13.2 pattern_Bind.B13 = true := by kernel_rfl
set_option maxHeartbeats 8000000 in
set_option maxRecDepth 100000 in
theorem pattern_Bind.calls (k : Nat) (A0_0 : Option Addr) (c0_0 : Nat) (l0_0 : List ByteArray) (a0_1 : Bool) (A1_0 : Option Addr) (c1_0 : Nat) (l1_0 : List ByteArray) (a1_1 : Bool) (r1 : List (S28)) (r2 : Bool) (w : World) (hr0_0 : Kd.C Kd.string w A0_0 l0_0.length l0_0) (hc0_0 : l0_0.length ≤ c0_0) (hr1_0 : Kd.C Kd.string w A1_0 l1_0.length l1_0) (hc1_0 : l1_0.length ≤ c1_0) (h : pattern_Bind.f k l0_0 a0_1 l1_0 a1_1 = some (r1, r2)) :
  Calls Tryd.prog 18 #[.agg #[.slice A0_0 l0_0.length c0_0, .bool a0_1], .agg #[.slice A1_0 l1_0.length c1_0, .bool a1_1]] w fun e w' => ∃ v0_ : Value, e = .returned (.tuple #[v0_, .bool r2]) ∧ Kd.S k28 28 w' w.heap.size (fun _ => True) v0_ r1 ∧ Below w.heap.size w w' := by
 have hu24 := Tryd.underlying24
 have hu28 := Tryd.underlying28
 have HR0_0 := Aside0.mk hr0_0
 have HC0_0 := Aside0.mk hc0_0
 clear hr0_0 hc0_0
 have HR1_0 := Aside0.mk hr1_0
 have HC1_0 := Aside0.mk hc1_0
 clear hr1_0 hc1_0
 have HB := Aside0.mk (Below.refl w.heap.size w)
 have H : ((pattern_Within.f k l1_0 a1_1 l0_0 a0_1).bind fun t353 => (if t353 = true then (pattern_Bind.l0 k ([] : List (S28)) l0_0 (l0_0.length : Int) 0 l0_0 a0_1 l1_0 a1_1) else (some (([] : List (S28)), false)))) = some (r1, r2) := h
 clear h
 replace H := Option.bind_eq_some_iff.mp H
 obtain ⟨t353, A30, H⟩ := H
 replace H : (if t353 = true then (pattern_Bind.l0 k ([] : List (S28)) l0_0 (l0_0.length : Int) 0 l0_0 a0_1 l1_0 a1_1) else (some (([] : List (S28)), false))) = some (r1, r2) := H
 have A3 := Aside0.mk A30
 clear A30
 by_cases c4 : t353 = true
 ·subst c4
  replace H := ip_ H
  have H' := Aside0.mk H
  clear H
  go_enter Tryd.func18, Tryd.ntmps18
  go_wp2_with (first | ((with_reducible refine gate_dst (N := 2) rfl ?_); refine box_event ?hg (N := 2) ?hd (cs := #[.slice A0_0 l0_0.length c0_0, .bool a0_1]) (t := 24) ?hr ?_; (case hd => rfl); (case hg => rfl); (case hr => first | (go_simp; done) | (go_simp; rfl)); intro gb351 hg w5 hbox hb; have BK351 := Aside0.mk hbox; have GW351 := gw_ HB hg; have GE351 := gw_ HB hg; replace HB := hs_ HB hb; clear hb hbox hg) | ((with_reducible refine gate_dst (N := 3) rfl ?_); refine box_event ?hg (N := 3) ?hd (cs := #[.slice A1_0 l1_0.length c1_0, .bool a1_1]) (t := 24) ?hr ?_; (case hd => rfl); (case hg => rfl); (case hr => first | (go_simp; done) | (go_simp; rfl)); intro gb352 hg w6 hbox hb; have BK352 := Aside0.mk hbox; have GW352 := gw_ HB hg; have GE352 := gw_ HB hg; have NB351_352 := nl_ BK351 hg; have NB352_351 := nr_ BK351 hg; replace BK351 := bb_ BK351 hb; replace HB := hs_ HB hb; clear hb hbox hg; have hnb7 := NB352_351.out; have hnc7 := NB351_352.out; obtain ⟨hcz8_0, hcz8_1, hfz8_0, hfz8_1⟩ := c2_ BK352; obtain ⟨hcz9_0, hcz9_1, hfz9_0, hfz9_1⟩ := c2_ BK351) | ((with_reducible refine gate_callee (f := 19) rfl ?_); refine goesL_ (some 14) rfl rfl Tryd.func19 (by kernel_rfl) rfl #[.agg #[.slice A1_0 l1_0.length c1_0, .bool a1_1], .agg #[.slice A0_0 l0_0.length c0_0, .bool a0_1]] rfl gl_ ?_; (with_reducible refine (pattern_Within.calls k _ _ l1_0 a1_1 _ _ l0_0 a0_1 true _ ?side1 ?side2 ?side3 ?side4 A3.out).mono ?_); (case side1 => exact sd_); (case side2 => exact HC1_0.out); (case side3 => exact sd_); (case side4 => exact HC0_0.out); rintro e w10 ⟨rfl, hb⟩; refine ⟨_, rfl, ?_⟩; replace BK351 := bb_ BK351 hb; replace BK352 := bb_ BK352 hb; replace HB := hs_ HB hb; (try clear hb); obtain ⟨hcz11_0, hcz11_1, hfz11_0, hfz11_1⟩ := c2_ BK351))
  go_loopg [6, 19] k (fun kq v6 v19 w' => ∃ (x6_1 : List (S28)) (x19_1 : Int), v19 = .int .i64 x19_1 ∧ Aside0 (pattern_Bind.l0 kq x6_1 l0_0 (l0_0.length : Int) x19_1 l0_0 a0_1 l1_0 a1_1 = some (r1, r2)) ∧ Aside0 (kq ≤ k) ∧ Aside0 (Kd.S k28 28 w' w.heap.size (fun _ => True) v6 x6_1) ∧ Aside0 (w'.heap[gb351]? = some (.cells #[(.slice A0_0 l0_0.length c0_0), .bool a0_1] 24 (0, 0))) ∧ Aside0 (w'.heap[gb352]? = some (.cells #[(.slice A1_0 l1_0.length c1_0), .bool a1_1] 24 (0, 0))) ∧ Aside0 (Below w.heap.size w w'))
  case atStart => exact ⟨(([] : List (S28))), (0), rs_, H', ⟨Nat.le_refl _⟩, ⟨by first | exact Kd.S_nil _ _ _ _ _ | exact Kd.N_nil _ _ _ _ _ | exact Kd.V_nil _ _ _ _ _ | exact Kd.Q_nil _ _ _ _ _ | exact Kd.R_nil _ _ _ _ _⟩, ⟨bk_⟩, ⟨bk_⟩, ⟨hb_⟩⟩
  case round =>
   clear H'
   (try clear c4); (try clear hcz11_0); (try clear hcz11_1); (try clear hcz8_0); (try clear hcz8_1); (try clear hcz9_0); (try clear hcz9_1); (try clear hfz11_0); (try clear hfz11_1); (try clear hfz8_0); (try clear hfz8_1); (try clear hfz9_0); (try clear hfz9_1)
   obtain ⟨x6_1, x19_1, rfl, HA, HK1, HO_6, BK351, BK352, HB⟩ := hrel
   cases gk with
   | zero => exact absurd HA.out (by simp [pattern_Bind.l0])
   | succ k1 =>
    have H := HA.out
    clear HA
    simp only [pattern_Bind.l0] at H
    by_cases c12 : x19_1 < (l0_0.length : Int)
    ·rw [if_pos c12] at H
     have c12b0 := decide_eq_true c12
     clear c12
     by_cases c13 : 0 ≤ x19_1
     ·rw [if_pos c13] at H
      have c13b0 := decide_eq_true c13
      clear c13
      by_cases c14 : x19_1 < (l0_0.length : Int)
      ·rw [if_pos c14] at H
       have c14b0 := decide_eq_true c14
       clear c14
       replace H := Option.bind_eq_some_iff.mp H
       obtain ⟨⟨t355, t356⟩, A150, H⟩ := H
       replace H : (if t355 = 2 then (if x19_1 < (l1_0.length : Int) then (if 0 ≤ (wrap64 (((rdOf ByteArray.empty l1_0 x19_1).size : Int) - (t356.size : Int))) then (if (wrap64 (((rdOf ByteArray.empty l1_0 x19_1).size : Int) - (t356.size : Int))) ≤ ((rdOf ByteArray.empty l1_0 x19_1).size : Int) then (if x6_1.length < 4398046511104 then (pattern_Bind.l0 k1 (x6_1 ++ [(⟨(([(rdOf ByteArray.empty l1_0 x19_1).extract 0 ((wrap64 (((rdOf ByteArray.empty l1_0 x19_1).size : Int) - (t356.size : Int))) : Int).toNat] : List ByteArray)), false⟩ : S28)]) l0_0 (l0_0.length : Int) (wrap64 (x19_1 + 1)) l0_0 a0_1 l1_0 a1_1) else (none)) else (none)) else (none)) else (none)) else (pattern_Bind.l0 k1 x6_1 l0_0 (l0_0.length : Int) (wrap64 (x19_1 + 1)) l0_0 a0_1 l1_0 a1_1)) = some (r1, r2) := H
       have A15 := Aside0.mk A150
       clear A150
       by_cases c16 : t355 = 2
       ·rw [if_pos c16] at H
        have c16b0 := beq_iff_eq.mpr c16
        have c16b1 := bne_eq_false_iff_eq.mpr c16
        clear c16
        by_cases c17 : x19_1 < (l1_0.length : Int)
        ·rw [if_pos c17] at H
         have c17b0 := decide_eq_true c17
         clear c17
         obtain ⟨ji18, hji18⟩ : ∃ j_ : Int, (wrap64 (((rdOf ByteArray.empty l1_0 x19_1).size : Int) - (t356.size : Int))) = j_ := ⟨_, rfl⟩
         replace H : (if 0 ≤ (ji18) then (if (ji18) ≤ ((rdOf ByteArray.empty l1_0 x19_1).size : Int) then (if x6_1.length < 4398046511104 then (pattern_Bind.l0 k1 (x6_1 ++ [(⟨(([(rdOf ByteArray.empty l1_0 x19_1).extract 0 ((ji18) : Int).toNat] : List ByteArray)), false⟩ : S28)]) l0_0 (l0_0.length : Int) (wrap64 (x19_1 + 1)) l0_0 a0_1 l1_0 a1_1) else (none)) else (none)) else (none)) = some (r1, r2) := by first | (rw [hji18] at H; exact H) | (simp only [hji18] at H ⊢; exact H)
         (try rw [hji18] at A15)
         have hji18w : (IntKind.i64.wrap (((rdOf ByteArray.empty l1_0 x19_1).size : Int) - (t356.size : Int))) = ji18 := (i64_w _).trans hji18
         by_cases c19 : 0 ≤ (ji18)
         ·rw [if_pos c19] at H
          have c19b0 := eq_true c19
          have c19b1 := decide_eq_true c19
          clear c19
          by_cases c20 : (ji18) ≤ ((rdOf ByteArray.empty l1_0 x19_1).size : Int)
          ·rw [if_pos c20] at H
           have c20b0 := eq_true c20
           have c20b1 := decide_eq_true c20
           clear c20
           obtain ⟨y358, hy358⟩ : ∃ y_ : List ByteArray, y_ = (([(rdOf ByteArray.empty l1_0 x19_1).extract 0 ((ji18) : Int).toNat] : List ByteArray)) := ⟨_, rfl⟩
           replace H : (if x6_1.length < 4398046511104 then (pattern_Bind.l0 k1 (x6_1 ++ [(⟨y358, false⟩ : S28)]) l0_0 (l0_0.length : Int) (wrap64 (x19_1 + 1)) l0_0 a0_1 l1_0 a1_1) else (none)) = some (r1, r2) := by first | (rw [hy358]; with_reducible exact H) | (have H2_ := (Option.bind_some _ _).symm.trans H; rw [hy358]; with_reducible exact H2_) | (have H2_ := (Option.bind_some _ _).symm.trans H; with_reducible exact H2_) | with_reducible exact H | (rw [hy358]; exact H) | exact H
           have Ny358 := Aside0.mk hy358
           clear hy358
           by_cases c21 : x6_1.length < 4398046511104
           ·rw [if_pos c21] at H
            have LMc21 := Aside0.mk c21
            clear c21
            obtain ⟨y361, hy361⟩ : ∃ y_ : List (S28), y_ = (x6_1 ++ [(⟨y358, false⟩ : S28)]) := ⟨_, rfl⟩
            replace H : (pattern_Bind.l0 k1 y361 l0_0 (l0_0.length : Int) (wrap64 (x19_1 + 1)) l0_0 a0_1 l1_0 a1_1) = some (r1, r2) := by first | (rw [hy361]; with_reducible exact H) | (have H2_ := (Option.bind_some _ _).symm.trans H; rw [hy361]; with_reducible exact H2_) | (have H2_ := (Option.bind_some _ _).symm.trans H; with_reducible exact H2_) | with_reducible exact H | (rw [hy361]; exact H) | exact H
            have Ny361 := Aside0.mk hy361
            clear hy361
            have H' := Aside0.mk H
            clear H
            have p354 : 0 ≤ (x19_1 : Int) := of_decide_eq_true as_
            have q354 : x19_1 < (l0_0.length : Int) := of_decide_eq_true as_
            obtain ⟨ad354, e354, hx354_0⟩ := Kd.at_string HR0_0.out x19_1 p354 q354
            cases e354
            replace hx354_0 := (HB.out.cell (World.block_lt_of_cell? w _ hx354_0)).trans hx354_0
            replace p354 := eq_true p354
            replace q354 := eq_true q354
            go_wp2_with (first | ((with_reducible refine gate_callee (f := 39) rfl ?_); refine goesL_ (some 26) rfl rfl Tryd.func39 (by kernel_rfl) rfl #[.string (rdOf ByteArray.empty l0_0 x19_1)] rfl gl_ ?_; (with_reducible refine (pattern_formOf.calls k1 (rdOf ByteArray.empty l0_0 x19_1) t355 t356 _ A15.out).mono ?_); rintro e w' ⟨rfl, ⟨nd, rfl⟩⟩; refine ⟨_, rfl, ?_⟩; have hnb22 := NB352_351.out; have hnc22 := NB351_352.out; obtain ⟨hcz23_0, hcz23_1, hfz23_0, hfz23_1⟩ := c2_ BK352; have p357 : 0 ≤ (x19_1 : Int) := of_decide_eq_true as_; have q357 : x19_1 < (l1_0.length : Int) := of_decide_eq_true as_; obtain ⟨ad357, e357, hx357_0⟩ := Kd.at_string HR1_0.out x19_1 p357 q357; cases e357; replace hx357_0 := (HB.out.cell (World.block_lt_of_cell? w _ hx357_0)).trans hx357_0; replace p357 := eq_true p357; replace q357 := eq_true q357) | ((with_reducible refine gate_dst (N := 44) rfl ?_); refine Kd.R_lit Kd.string _ 9 ?hg (N := 44) ?hd (xs := ([(rdOf ByteArray.empty l1_0 x19_1).extract 0 ((ji18) : Int).toNat] : List ByteArray)) (inner := [.string ((rdOf ByteArray.empty l1_0 x19_1).extract 0 ((ji18) : Int).toNat)]) (ok := fun _ => True) (okp := fun _ => True) ?hr ?hp (fun _ hk => hk) trivial (Below.refl _ _) (Nat.le_refl _) (by simp) ?_; (case hd => rfl); (case hg => rfl); (case hr => first | (go_simp; done) | (go_simp; rfl)); (case hp => exact (Reps.one (show Kd.M Kd.string _ _ _ ((rdOf ByteArray.empty l1_0 x19_1).extract 0 ((ji18) : Int).toNat) [.string ((rdOf ByteArray.empty l1_0 x19_1).extract 0 ((ji18) : Int).toNat)] from rfl) (Reps.none _ _))); intro v359 w24 ho25 hb hg_ hnew_; clear hg_ hnew_; (first | rw [← Ny358.out] at ho25 | (simp only [Int.reduceToNat] at ho25; rw [← Ny358.out] at ho25)); have n0_ := Aside0.mk (Kd.S_elder' (by (with_reducible repeat (first | apply Kd.S_alloc | apply Kd.S_drewN | apply Kd.S_drew)); exact HO_6.out) (Kd.R_base ho25) hb); have n1_ := Aside0.mk (Kd.R_lower ho25 (below_size hb_)); replace BK351 := bb_ BK351 hb; replace BK352 := bb_ BK352 hb; replace HB := hs_ HB hb; clear HO_6; have HO_6 := n0_; have HO360 := n1_; clear n0_ n1_; clear hb ho25; obtain ⟨Ao26, co26, eo26⟩ := Kd.R_slice HO360.out; subst eo26) | ((with_reducible refine gate_builtin (b := .append) (xs := #[.tmp 36, .tmp 46]) rfl ?_); at_builtin; refine Kd.S_append k28 (w0 := w) w.heap.size rfl (.tmp 36) (.tmp 46) 25 28 (.agg #[(.slice none 0 0), (.bool false)]) 32 rfl Tryd.underlying25 info28 rfl (by decide) (by omega) u6 x6_1 (⟨y358, false⟩ : S28) [.slice Ao26 y358.length co26, .bool false] (fun _ => True) (fun k_ => some k_ = (.slice Ao26 y358.length co26 : Value).ownBlock) rfl rfl ?aP (fun k_ hk_ => ((Kd.R_mono (ok' := fun k_ => ((fun _ => True)) k_ ∧ some k_ ≠ (u6 : Value).ownBlock) (Kd.R_apart' (HO360.out) (Kd.S_typed HO_6.out) (by decide)) (fun k_ hk => ⟨trivial, hk.2⟩))).1 k_ hk_.symm) ?aF ?aO ?aB ?aS ?aL ?_; (case aP => exact k28_mkM _ _ _ (⟨y358, false⟩ : S28) (Kd.R_mono (Kd.R_tight rfl (Kd.R_mono (ok' := fun k_ => ((fun _ => True)) k_ ∧ some k_ ≠ (u6 : Value).ownBlock) (Kd.R_apart' (HO360.out) (Kd.S_typed HO_6.out) (by decide)) (fun k_ hk => ⟨trivial, hk.2⟩))) (fun _ h_ => h_))); (case aB => exact hb_); (case aF => exact (fun _ _ => trivial)); (case aO => exact (by (with_reducible repeat (first | apply Kd.S_alloc | apply Kd.S_drewN | apply Kd.S_drew)); exact Kd.S_mono HO_6.out (fun k_ hk => ⟨trivial, fun e_ => hk.2 e_⟩))); (case aS => exact (below_size hb_)); (case aL => have := LMc21.out; omega); intro v362 w27 ho hb hg hat; rw [← Ny361.out] at ho; have n0_ := Aside0.mk (blk_grown (g := gb351) (o := .cells #[.slice (some ad354) l0_0.length c0_0, .bool a0_1] 24 (0, 0)) bk_ hg (Kd.S_ne HO_6.out BK351.out (by decide))); have n1_ := Aside0.mk (blk_grown (g := gb352) (o := .cells #[.slice (some ad357) l1_0.length c1_0, .bool a1_1] 24 (0, 0)) bk_ hg (Kd.S_ne HO_6.out BK352.out (by decide))); have n2_ := Aside0.mk (hb); have n3_ := Aside0.mk (ho); clear BK351 BK352 HB HO_6 HO360; have BK351 := n0_; have BK352 := n1_; have HB := n2_; have HO363 := n3_; clear n0_ n1_ n2_ n3_; clear ho hb hg hat))
            go_roundg k1
            case measure => have := HK1.out; omega
            case rel => exact ⟨(y361), (wrap64 (x19_1 + 1)), rs_, H', ⟨by have := HK1.out; omega⟩, ⟨by (with_reducible repeat (first | apply Kd.S_alloc | apply Kd.S_drewN | apply Kd.S_drew)); exact HO363.out⟩, ⟨bk_⟩, ⟨bk_⟩, ⟨hb_⟩⟩
           ·rw [if_neg c21] at H
            exact absurd H (by simp)
          ·rw [if_neg c20] at H
           exact absurd H (by simp)
         ·rw [if_neg c19] at H
          exact absurd H (by simp)
        ·rw [if_neg c17] at H
         exact absurd H (by simp)
       ·rw [if_neg c16] at H
        have c16b0 := beq_eq_false_iff_ne.mpr c16
        have c16b1 := bne_iff_ne.mpr c16
        have H' := Aside0.mk H
        clear H
        have p354 : 0 ≤ (x19_1 : Int) := of_decide_eq_true as_
        have q354 : x19_1 < (l0_0.length : Int) := of_decide_eq_true as_
        obtain ⟨ad354, e354, hx354_0⟩ := Kd.at_string HR0_0.out x19_1 p354 q354
        cases e354
        replace hx354_0 := (HB.out.cell (World.block_lt_of_cell? w _ hx354_0)).trans hx354_0
        replace p354 := eq_true p354
        replace q354 := eq_true q354
        go_wp2_with (first | ((with_reducible refine gate_callee (f := 39) rfl ?_); refine goesL_ (some 26) rfl rfl Tryd.func39 (by kernel_rfl) rfl #[.string (rdOf ByteArray.empty l0_0 x19_1)] rfl gl_ ?_; (with_reducible refine (pattern_formOf.calls k1 (rdOf ByteArray.empty l0_0 x19_1) t355 t356 _ A15.out).mono ?_); rintro e w' ⟨rfl, ⟨nd, rfl⟩⟩; refine ⟨_, rfl, ?_⟩))
        go_roundg k1
        case measure => have := HK1.out; omega
        case rel => exact ⟨(x6_1), (wrap64 (x19_1 + 1)), rs_, H', ⟨by have := HK1.out; omega⟩, ⟨by (with_reducible repeat (first | apply Kd.S_alloc | apply Kd.S_drewN | apply Kd.S_drew)); exact HO_6.out⟩, ⟨bk_⟩, ⟨bk_⟩, ⟨hb_⟩⟩
      ·rw [if_neg c14] at H
       exact absurd H (by simp)
     ·rw [if_neg c13] at H
      exact absurd H (by simp)
    ·rw [if_neg c12] at H
     have c12b0 := decide_eq_false c12
     clear c12
     by_cases c28 : a0_1 = true
     ·subst c28
      replace H := ip_ H
      obtain ⟨y364, hy364⟩ : ∃ y_ : List ByteArray, y_ = (([] : List ByteArray)) := ⟨_, rfl⟩
      replace H : (if 0 ≤ (l0_0.length : Int) then (if (l0_0.length : Int) ≤ (l1_0.length : Int) then (if y364.length + (l1_0.drop ((l0_0.length : Int) : Int).toNat).length < 8796093022208 then (if x6_1.length < 4398046511104 then (some ((x6_1 ++ [(⟨(y364 ++ (l1_0.drop ((l0_0.length : Int) : Int).toNat)), a1_1⟩ : S28)]), true)) else (none)) else (none)) else (none)) else (none)) = some (r1, r2) := by first | (rw [hy364]; with_reducible exact H) | (have H2_ := (Option.bind_some _ _).symm.trans H; rw [hy364]; with_reducible exact H2_) | (have H2_ := (Option.bind_some _ _).symm.trans H; with_reducible exact H2_) | with_reducible exact H | (rw [hy364]; exact H) | exact H
      have Ny364 := Aside0.mk hy364
      clear hy364
      by_cases c29 : 0 ≤ (l0_0.length : Int)
      ·rw [if_pos c29] at H
       have c29b0 := eq_true c29
       have c29b1 := decide_eq_true c29
       clear c29
       by_cases c30 : (l0_0.length : Int) ≤ (l1_0.length : Int)
       ·rw [if_pos c30] at H
        have c30b0 := eq_true c30
        have c30b1 := decide_eq_true c30
        clear c30
        by_cases c31 : y364.length + (l1_0.drop ((l0_0.length : Int) : Int).toNat).length < 8796093022208
        ·rw [if_pos c31] at H
         have LMc31 := Aside0.mk c31
         clear c31
         obtain ⟨y368, hy368⟩ : ∃ y_ : List ByteArray, y_ = (y364 ++ (l1_0.drop ((l0_0.length : Int) : Int).toNat)) := ⟨_, rfl⟩
         replace H : (if x6_1.length < 4398046511104 then (some ((x6_1 ++ [(⟨y368, a1_1⟩ : S28)]), true)) else (none)) = some (r1, r2) := by first | (rw [hy368]; with_reducible exact H) | (have H2_ := (Option.bind_some _ _).symm.trans H; rw [hy368]; with_reducible exact H2_) | (have H2_ := (Option.bind_some _ _).symm.trans H; with_reducible exact H2_) | with_reducible exact H | (rw [hy368]; exact H) | exact H
         have Ny368 := Aside0.mk hy368
         clear hy368
         by_cases c32 : x6_1.length < 4398046511104
         ·rw [if_pos c32] at H
          have LMc32 := Aside0.mk c32
          clear c32
          obtain ⟨y371, hy371⟩ : ∃ y_ : List (S28), y_ = (x6_1 ++ [(⟨y368, a1_1⟩ : S28)]) := ⟨_, rfl⟩
          replace H : (some (y371, true)) = some (r1, r2) := by first | (rw [hy371]; with_reducible exact H) | (have H2_ := (Option.bind_some _ _).symm.trans H; rw [hy371]; with_reducible exact H2_) | (have H2_ := (Option.bind_some _ _).symm.trans H; with_reducible exact H2_) | with_reducible exact H | (rw [hy371]; exact H) | exact H
          have Ny371 := Aside0.mk hy371
          clear hy371
          simp only [Option.some.injEq, Prod.mk.injEq] at H
          obtain ⟨rfl, rfl⟩ := H
          have hnb33 := NB351_352.out
          have hnc33 := NB352_351.out
          obtain ⟨hcz34_0, hcz34_1, hfz34_0, hfz34_1⟩ := c2_ BK351
          try go_wp2
          have n0_ := Aside0.mk (Kd.S_drew HO_6.out)
          have n1_ := Aside0.mk (blk_drew BK351.out)
          have n2_ := Aside0.mk (blk_drew BK352.out)
          have n3_ := Aside0.mk (below_drew1 HB.out)
          clear HO_6 BK351 BK352 HB
          have HO_6 := n0_
          have BK351 := n1_
          have BK352 := n2_
          have HB := n3_
          clear n0_ n1_ n2_ n3_
          obtain ⟨i036, hi036, _, hsz36, _⟩ := info_parts info9
          obtain ⟨A36, hcut36, hA36, hC36⟩ := print_drop_of (P := Tryd.prog) Value.string (⟨#[]⟩ : ByteArray) 22 9 .i64 Tryd.underlying22 hi036 hsz36 A1_0 c1_0 l1_0 (l0_0.length : Int) (of_decide_eq_true as_) (of_decide_eq_true as_) HC1_0.out
          have HR367 := Aside0.mk (Kd.C_of_reads (h1 := fun _ => rfl) (hA36 _ (Kd.reads_of_C HR1_0.out)))
          have HC367 := Aside0.mk hC36
          clear hA36 hC36 hi036 hsz36
          refine start_ (n := 15) (S := fun w' => w'.cell? ⟨gb352, 0, none⟩ = some (.slice A1_0 l1_0.length c1_0) ∧ w'.cell? ⟨gb352, 1, none⟩ = some (.bool a1_1) ∧ w'.cell? ⟨gb351, 0, none⟩ = some (.slice A0_0 l0_0.length c0_0) ∧ w'.cell? ⟨gb351, 1, none⟩ = some (.bool true)) (ds := []) #[false, false, false, false, false, false, false, false, false, false, false, false, false, false, false] (by kernel_rfl) rfl rfl ⟨(blk_cell BK352.out 0).trans rfl, (blk_cell BK352.out 1).trans rfl, (blk_cell BK351.out 0).trans rfl, (blk_cell BK351.out 1).trans rfl⟩ (fun hHeld => ?_); refine with_tabW pattern_Bind.tab13 pattern_Bind.bits13 (fun HT_ HW_ => ?_)
          generalize wr.drew = w35 at HO_6 BK351 BK352 HB HR367 hHeld ⊢
          refine pu_ 0 (some 51) #[true, false, false, false, false, false, false, false, false, false, false, false, false, false, false] HT_ rfl rfl ?_
          refine pu_ 2 (some 53) #[true, false, true, false, false, false, false, false, false, false, false, false, false, false, false] HT_ rfl rfl ?_
          refine pu_ 4 (some 55) #[true, false, true, false, true, false, false, false, false, false, false, false, false, false, false] HT_ rfl rfl ?_
          refine pu_ 9 (some 60) #[true, false, true, false, true, false, false, false, false, true, false, false, false, false, false] HT_ rfl rfl ?_
          refine tk_ 3 (some 54) #[true, false, true, true, true, false, false, false, false, true, false, false, false, false, false] HT_ HW_ rfl rfl hHeld ?_
          refine tk_ 5 (some 56) #[true, false, true, true, true, true, false, false, false, true, false, false, false, false, false] HT_ HW_ rfl rfl hHeld ?_
          refine pu_ 6 (some 57) #[true, false, true, true, true, true, true, false, false, true, false, false, false, false, false] HT_ rfl rfl ?_
          refine pu_ 7 (some 58) #[true, false, true, true, true, true, true, true, false, true, false, false, false, false, false] HT_ rfl rfl ?_
          refine tk_ 10 (some 61) #[true, false, true, true, true, true, true, true, false, true, true, false, false, false, false] HT_ HW_ rfl rfl hHeld ?_
          refine one_ (i := 1) (N := some 52) #[true, true, true, true, true, true, true, true, false, true, true, false, false, false, false] rfl rfl (one_of HT_.out (by kernel_rfl)) (by decide) (fun K hK => ?_)
          refine Kd.R_lit_step Kd.string _ 9 ?hg (N := 52) ?hd (xs := ([] : List ByteArray)) (inner := []) (ok := fun _ => True) (okp := fun _ => True) ?hr ?hp (fun _ hk => hk) trivial (Below.refl _ _) (Nat.le_refl _) (by simp) ?_; (case hd => rfl); (case hg => rfl); (case hr => first | (go_simp; done) | (go_simp; rfl)); (case hp => exact (Reps.none _ _))
          intro v365 w37 ho38 hb hg_ hnew_
          clear hg_ hnew_
          (first | rw [← Ny364.out] at ho38 | (simp only [Int.reduceToNat] at ho38; rw [← Ny364.out] at ho38))
          have n0_ := Aside0.mk (Kd.S_elder' (by (with_reducible repeat (first | apply Kd.S_alloc | apply Kd.S_drewN | apply Kd.S_drew)); exact HO_6.out) (Kd.R_base ho38) hb)
          have n1_ := Aside0.mk (Kd.R_lower ho38 (below_size hb_))
          replace BK351 := bb_ BK351 hb
          replace BK352 := bb_ BK352 hb
          replace HB := hs_ HB hb
          clear HO_6
          have HO_6 := n0_
          have HO366 := n1_
          clear n0_ n1_
          clear hb ho38
          refine hK.out _ _ ⟨(blk_cell BK352.out 0).trans rfl, (blk_cell BK352.out 1).trans rfl, (blk_cell BK351.out 0).trans rfl, (blk_cell BK351.out 1).trans rfl⟩ (fun hHeld => ?_)
          clear hK K
          refine norm_ (a' := ?_) ?_ ?_
          rotate_left
          ·show Act.put _ (some 52) _ = _
           simp only [Act.put, List.setIfInBounds_toArray, List.set_cons_zero, List.set_cons_succ, i64_w, i32_w]
           rfl
          refine one_ (i := 8) (N := some 59) #[true, true, true, true, true, true, true, true, true, true, true, false, false, false, false] rfl rfl (one_of HT_.out (by kernel_rfl)) (by decide) (fun K hK => ?_)
          refine Kd.R_append_rows_step Kd.string (w0 := w) w.heap.size (by rfl) (.tmp 52) (.tmp 58) 22 9 (.string ⟨#[]⟩) 16 rfl Tryd.underlying22 info9 rfl (by decide) (by omega) v365 y364 (l1_0.drop ((l0_0.length : Int) : Int).toNat) _ _ _ (fun _ => True) (fun _ => False) rfl rfl ?aO ?aR (fun _ _ h => h) (fun _ h => h.elim) ?aF ?aB ?aS ?aL ?_
          (case aR => first | (rw [show (l1_0.length - l0_0.length) = (l1_0.drop ((l0_0.length : Int) : Int).toNat).length from List.length_drop.symm]; repeat (first | exact (Kd.C_below HR367.out HB.out) | (with_reducible refine Kd.C_alloc ?_ _) | (with_reducible refine Kd.C_drewN ?_ _) | (with_reducible refine Kd.C_drew ?_))) | (rw [← show (l1_0.drop ((l0_0.length : Int) : Int).toNat).length = (l1_0.length - (l0_0.length : Int).toNat) from List.length_drop]; repeat (first | exact (Kd.C_below HR367.out HB.out) | (with_reducible refine Kd.C_alloc ?_ _) | (with_reducible refine Kd.C_drewN ?_ _) | (with_reducible refine Kd.C_drew ?_))) | (repeat (first | exact (Kd.C_below HR367.out HB.out) | (with_reducible refine Kd.C_alloc ?_ _) | (with_reducible refine Kd.C_drewN ?_ _) | (with_reducible refine Kd.C_drew ?_))))
          (case aB => exact hb_)
          (case aF => exact (fun _ _ => trivial))
          (case aO => exact (rp_ HO366))
          (case aS => exact (below_size hb_))
          (case aL => have := LMc31.out; have hlx_ := (show (l1_0.drop ((l0_0.length : Int) : Int).toNat).length = (l1_0.length - (l0_0.length : Int).toNat) from List.length_drop); omega)
          intro v369 w39 ho hb hg hat
          rw [← Ny368.out] at ho
          have n0_ := Aside0.mk (Kd.S_after (ok := (fun _ => True)) (by (with_reducible repeat (first | apply Kd.S_alloc | apply Kd.S_drewN | apply Kd.S_drew)); exact HO_6.out) hg hat)
          have n1_ := Aside0.mk (blk_grown (g := gb351) (o := .cells #[.slice A0_0 l0_0.length c0_0, .bool true] 24 (0, 0)) bk_ hg (Kd.R_ne HO366.out BK351.out (by decide)))
          have n2_ := Aside0.mk (blk_grown (g := gb352) (o := .cells #[.slice A1_0 l1_0.length c1_0, .bool a1_1] 24 (0, 0)) bk_ hg (Kd.R_ne HO366.out BK352.out (by decide)))
          have n3_ := Aside0.mk (hb)
          have n4_ := Aside0.mk (ho)
          clear HO_6 BK351 BK352 HB HO366
          have HO_6 := n0_
          have BK351 := n1_
          have BK352 := n2_
          have HB := n3_
          have HO370 := n4_
          clear n0_ n1_ n2_ n3_ n4_
          clear ho hb hg hat
          obtain ⟨Ao40, co40, eo40⟩ := Kd.R_slice HO370.out
          (first | subst eo40 | (injection eo40 with f1_ f2_ f3_; have f4_ := f1_.symm; have f5_ := f3_.symm; clear f1_ f2_ f3_; subst f4_; subst f5_))
          refine hK.out _ _ ⟨(blk_cell BK352.out 0).trans rfl, (blk_cell BK352.out 1).trans rfl, (blk_cell BK351.out 0).trans rfl, (blk_cell BK351.out 1).trans rfl⟩ (fun hHeld => ?_)
          clear hK K
          refine norm_ (a' := ?_) ?_ ?_
          rotate_left
          ·show Act.put _ (some 59) _ = _
           simp only [Act.put, List.setIfInBounds_toArray, List.set_cons_zero, List.set_cons_succ, i64_w, i32_w]
           rfl
          refine pu_ 11 (some 62) #[true, true, true, true, true, true, true, true, true, true, true, true, false, false, false] HT_ rfl rfl ?_
          refine one_ (i := 12) (N := some 63) #[true, true, true, true, true, true, true, true, true, true, true, true, true, false, false] rfl rfl (one_of HT_.out (by kernel_rfl)) (by decide) (fun K hK => ?_)
          refine value_ (w1 := ?_) (v := ?_) (by rfl) rfl ?_ ?_
          rotate_left 2
          ·go_simp
           constructor
           ·rfl
           ·rfl
          refine hK.out _ _ ⟨(blk_cell (blk_alloc BK352.out _) 0).trans rfl, (blk_cell (blk_alloc BK352.out _) 1).trans rfl, (blk_cell (blk_alloc BK351.out _) 0).trans rfl, (blk_cell (blk_alloc BK351.out _) 1).trans rfl⟩ (fun hHeld => ?_)
          clear hK K
          refine norm_ (a' := ?_) ?_ ?_
          rotate_left
          ·show Act.put _ (some 63) _ = _
           simp only [Act.put, List.setIfInBounds_toArray, List.set_cons_zero, List.set_cons_succ, i64_w, i32_w]
           rfl
          refine one_ (i := 13) (N := some 64) #[true, true, true, true, true, true, true, true, true, true, true, true, true, true, false] rfl rfl (one_of HT_.out (by kernel_rfl)) (by decide) (fun K hK => ?_)
          refine Kd.S_append_step k28 (w0 := w) w.heap.size (by rfl) (.tmp 51) (.tmp 63) 25 28 (.agg #[(.slice none 0 0), (.bool false)]) 32 rfl Tryd.underlying25 info28 rfl (by decide) (by omega) u6 x6_1 (⟨y368, a1_1⟩ : S28) [.slice Ao40 y368.length co40, .bool a1_1] (fun _ => True) (fun k_ => some k_ = (.slice Ao40 y368.length co40 : Value).ownBlock) rfl rfl ?aP (fun k_ hk_ => ((Kd.R_mono (ok' := fun k_ => ((fun _ => True)) k_ ∧ some k_ ≠ (u6 : Value).ownBlock) (Kd.R_apart' (HO370.out) (Kd.S_typed HO_6.out) (by decide)) (fun k_ hk => ⟨trivial, hk.2⟩))).1 k_ hk_.symm) ?aF ?aO ?aB ?aS ?aL ?_
          (case aP => exact k28_mkM _ _ _ (⟨y368, a1_1⟩ : S28) (Kd.R_mono (Kd.R_tight rfl (Kd.R_mono (ok' := fun k_ => ((fun _ => True)) k_ ∧ some k_ ≠ (u6 : Value).ownBlock) (Kd.R_apart' (HO370.out) (Kd.S_typed HO_6.out) (by decide)) (fun k_ hk => ⟨trivial, hk.2⟩))) (fun _ h_ => h_)))
          (case aB => exact hb_)
          (case aF => exact (fun _ _ => trivial))
          (case aO => exact (by (with_reducible repeat (first | apply Kd.S_alloc | apply Kd.S_drewN | apply Kd.S_drew)); exact Kd.S_mono HO_6.out (fun k_ hk => ⟨trivial, fun e_ => hk.2 e_⟩)))
          (case aS => exact (below_size hb_))
          (case aL => have := LMc32.out; omega)
          intro v372 w41 ho hb hg hat
          rw [← Ny371.out] at ho
          have n0_ := Aside0.mk (blk_grown (g := gb351) (o := .cells #[.slice A0_0 l0_0.length c0_0, .bool true] 24 (0, 0)) bk_ hg (Kd.S_ne HO_6.out BK351.out (by decide)))
          have n1_ := Aside0.mk (blk_grown (g := gb352) (o := .cells #[.slice A1_0 l1_0.length c1_0, .bool a1_1] 24 (0, 0)) bk_ hg (Kd.S_ne HO_6.out BK352.out (by decide)))
          have n2_ := Aside0.mk (hb)
          have n3_ := Aside0.mk (ho)
          clear BK351 BK352 HB HO_6 HO370
          have BK351 := n0_
          have BK352 := n1_
          have HB := n2_
          have HO373 := n3_
          clear n0_ n1_ n2_ n3_
          clear ho hb hg hat
          refine hK.out _ _ ⟨(blk_cell BK352.out 0).trans rfl, (blk_cell BK352.out 1).trans rfl, (blk_cell BK351.out 0).trans rfl, (blk_cell BK351.out 1).trans rfl⟩ (fun hHeld => ?_)
          clear hK K
          refine norm_ (a' := ?_) ?_ ?_
          rotate_left
          ·show Act.put _ (some 64) _ = _
           simp only [Act.put, List.setIfInBounds_toArray, List.set_cons_zero, List.set_cons_succ, i64_w, i32_w]
           rfl
          refine pu_ 14 (some 6) #[true, true, true, true, true, true, true, true, true, true, true, true, true, true, true] HT_ rfl rfl ?_
          refine done_ (done_of HT_.out (by kernel_rfl)) ?_
          try go_wp2
          go_ret2
          exact ⟨_, rt_, by (with_reducible repeat (first | apply Kd.S_alloc | apply Kd.S_drewN | apply Kd.S_drew)); exact HO373.out, hb_⟩
         ·rw [if_neg c32] at H
          exact absurd H (by simp)
        ·rw [if_neg c31] at H
         exact absurd H (by simp)
       ·rw [if_neg c30] at H
        exact absurd H (by simp)
      ·rw [if_neg c29] at H
       exact absurd H (by simp)
     ·replace c28 := Bool.eq_false_iff.mpr c28
      subst c28
      replace H := in_ H
      simp only [Option.some.injEq, Prod.mk.injEq] at H
      obtain ⟨rfl, rfl⟩ := H
      have hnb42 := NB351_352.out
      have hnc42 := NB352_351.out
      obtain ⟨hcz43_0, hcz43_1, hfz43_0, hfz43_1⟩ := c2_ BK351
      go_wp2
      go_ret2
      exact ⟨_, rt_, by (with_reducible repeat (first | apply Kd.S_alloc | apply Kd.S_drewN | apply Kd.S_drew)); exact HO_6.out, hb_⟩
 ·replace c4 := Bool.eq_false_iff.mpr c4
  subst c4
  replace H := in_ H
  simp only [Option.some.injEq, Prod.mk.injEq] at H
  obtain ⟨rfl, rfl⟩ := H
  go_enter Tryd.func18, Tryd.ntmps18
  go_wp2_with (first | ((with_reducible refine gate_dst (N := 2) rfl ?_); refine box_event ?hg (N := 2) ?hd (cs := #[.slice A0_0 l0_0.length c0_0, .bool a0_1]) (t := 24) ?hr ?_; (case hd => rfl); (case hg => rfl); (case hr => first | (go_simp; done) | (go_simp; rfl)); intro gb351 hg w44 hbox hb; have BK351 := Aside0.mk hbox; have GW351 := gw_ HB hg; have GE351 := gw_ HB hg; replace HB := hs_ HB hb; clear hb hbox hg) | ((with_reducible refine gate_dst (N := 3) rfl ?_); refine box_event ?hg (N := 3) ?hd (cs := #[.slice A1_0 l1_0.length c1_0, .bool a1_1]) (t := 24) ?hr ?_; (case hd => rfl); (case hg => rfl); (case hr => first | (go_simp; done) | (go_simp; rfl)); intro gb352 hg w45 hbox hb; have BK352 := Aside0.mk hbox; have GW352 := gw_ HB hg; have GE352 := gw_ HB hg; have NB351_352 := nl_ BK351 hg; have NB352_351 := nr_ BK351 hg; replace BK351 := bb_ BK351 hb; replace HB := hs_ HB hb; clear hb hbox hg; have hnb46 := NB352_351.out; have hnc46 := NB351_352.out; obtain ⟨hcz47_0, hcz47_1, hfz47_0, hfz47_1⟩ := c2_ BK352; obtain ⟨hcz48_0, hcz48_1, hfz48_0, hfz48_1⟩ := c2_ BK351) | ((with_reducible refine gate_callee (f := 19) rfl ?_); refine goesL_ (some 14) rfl rfl Tryd.func19 (by kernel_rfl) rfl #[.agg #[.slice A1_0 l1_0.length c1_0, .bool a1_1], .agg #[.slice A0_0 l0_0.length c0_0, .bool a0_1]] rfl gl_ ?_; (with_reducible refine (pattern_Within.calls k _ _ l1_0 a1_1 _ _ l0_0 a0_1 false _ ?side1 ?side2 ?side3 ?side4 A3.out).mono ?_); (case side1 => exact sd_); (case side2 => exact HC1_0.out); (case side3 => exact sd_); (case side4 => exact HC0_0.out); rintro e w49 ⟨rfl, hb⟩; refine ⟨_, rfl, ?_⟩; replace BK351 := bb_ BK351 hb; replace BK352 := bb_ BK352 hb; replace HB := hs_ HB hb; (try clear hb)))
  go_ret2
  exact ⟨_, rt_, by first | exact Kd.S_nil _ _ _ _ _ | exact Kd.N_nil _ _ _ _ _ | exact Kd.V_nil _ _ _ _ _ | exact Kd.Q_nil _ _ _ _ _ | exact Kd.R_nil _ _ _ _ _, hb_⟩

end Go.Proofs.YthclkdplihchjaaDoor.P

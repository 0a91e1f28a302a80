-- Written by a program of this session (wip/gen.py) over the kit's print: each Go function as a plain Lean function, and the proof that the Go code comes to it. Nothing here is trusted: Lean checks it.
import Derived.Test.YthclkdplihchjaaDoorPx0
import Derived.Test.YthclkdplihchjaaDoorPx1
import Derived.Test.YthclkdplihchjaaDoorSq
namespace Go.Proofs.YthclkdplihchjaaDoor.P
open Go.RowKit Go.Proofs.YthclkdplihchjaaDoorW.PrintWords Go.Proofs.YthclkdplihchjaaDoorW.PrintLast Go.Proofs.YthclkdplihchjaaDoorW.PrintMore
attribute [local go_sem] str_gtr str_leq str_geq max2_int min2_int max_two min_two max_three min_three max_four min_four   -- for this text's walks alone
set_option linter.unusedVariables false
set_option linter.unusedSimpArgs false

/-! ### strings_IndexByte: function 68: an external -/
def strings_IndexByte.f (a0 : ByteArray) (a1 : Int) : Option (Int) := some (Lib.indexByte a0.data.toList a1.toNat.toUInt8)
theorem strings_IndexByte.calls (a0 : ByteArray) (a1 : Int) (r : Int) (w : World) (h : strings_IndexByte.f a0 a1 = some r) :
    Calls Tryd.prog 68 #[.string a0, .int .u8 a1] w fun e w' => e = .returned (.int .i64 r) ∧ Drawn0 w w' := by
  obtain rfl := Option.some.inj h
  refine (Tryd.strings_IndexByte a0 a1 w).mono ?_
  rintro e w' ⟨rfl, rfl⟩
  exact ⟨rfl, Drawn0.refl _⟩

/-! ### stockyardref03_Star: function 42 -/
mutual
def stockyardref03_Star.j0 : Nat → ByteArray → Bool → Option (ByteArray × Bool)
  | 0, _, _ => none
  | k + 1, x0, x11 => if x11 = true then (some ((⟨#[]⟩ : ByteArray), false)) else (stockyardref03_Star.l0 k x0 1)
def stockyardref03_Star.l0 : Nat → ByteArray → Int → Option (ByteArray × Bool)
  | 0, _, _ => none
  | k + 1, x0, x4 => if x4 < (x0.size : Int) then (if 0 ≤ x4 then ((strings_IndexByte.f (⟨#[65, 66, 67, 68, 69, 70, 71, 72, 73, 74, 75, 76, 77, 78, 79, 80, 81, 82, 83, 84, 85, 86, 87, 88, 89, 90, 97, 98, 99, 100, 101, 102, 103, 104, 105, 106, 107, 108, 109, 110, 111, 112, 113, 114, 115, 116, 117, 118, 119, 120, 121, 122, 48, 49, 50, 51, 52, 53, 54, 55, 56, 57, 95, 46, 43, 45]⟩ : ByteArray) (bt x0 x4)).bind fun t221 => (if t221 < 0 then (some ((⟨#[]⟩ : ByteArray), false)) else (stockyardref03_Star.l0 k x0 (wrap64 (x4 + 1))))) else (none)) else (if 1 ≤ (x0.size : Int) then (some (x0.extract 1 x0.size, true)) else (none))
end
def stockyardref03_Star.f (k : Nat) (a0 : ByteArray) : Option (ByteArray × Bool) := if a0.toList = ([] : List UInt8) then (stockyardref03_Star.j0 k a0 true) else (if 0 < (a0.size : Int) then (stockyardref03_Star.j0 k a0 ((bt a0 0) != 42)) else (none))
set_option maxHeartbeats 8000000 in
set_option maxRecDepth 100000 in
theorem stockyardref03_Star.calls (k : Nat) (a0 : ByteArray) (r1 : ByteArray) (r2 : Bool) (w : World) (h : stockyardref03_Star.f k a0 = some (r1, r2)) :
  Calls Tryd.prog 42 #[.string a0] w fun e w' => e = .returned (.tuple #[.string r1, .bool r2]) ∧ Drawn0 w w' := by
 have H : (if a0.toList = ([] : List UInt8) then (stockyardref03_Star.j0 k a0 true) else (if 0 < (a0.size : Int) then (stockyardref03_Star.j0 k a0 ((bt a0 0) != 42)) else (none))) = some (r1, r2) := h
 clear h
 have HC2 := Aside0.mk H
 clear H
 go_enter Tryd.func42, Tryd.ntmps42
 go_upto_region 1 with (fail)
 go_cut [11] (fun v11 wc => ∃ (kq : Nat) (x11_1 : Bool), v11 = .bool x11_1 ∧ Aside0 (stockyardref03_Star.j0 kq a0 x11_1 = some (r1, r2)) ∧ Aside0 (kq ≤ k) ∧ Drawn0 w wc)
 case first =>
  have H := HC2.out
  clear HC2
  by_cases c3 : a0.toList = ([] : List UInt8)
  ·rw [if_pos c3] at H
   have c3b0 := beq_iff_eq.mpr c3
   have c3b1 := bne_eq_false_iff_eq.mpr c3
   clear c3
   (first | rw [c3b0] | (simp only [i64_w, i32_w]; rw [c3b0]) | skip)
   have H' := Aside0.mk H
   clear H
   go_wp2
   go_meet
   case rel => exact ⟨_, (true), rs_, H', ⟨om_⟩, dr_⟩
  ·rw [if_neg c3] at H
   have c3b0 := beq_eq_false_iff_ne.mpr c3
   have c3b1 := bne_iff_ne.mpr c3
   (first | rw [c3b0] | (simp only [i64_w, i32_w]; rw [c3b0]) | skip)
   by_cases c4 : 0 < (a0.size : Int)
   ·rw [if_pos c4] at H
    have c4b0 := decide_eq_true c4
    have c4b1 : decide (0 < a0.size) = true := decide_eq_true (by omega)
    clear c4
    have H' := Aside0.mk H
    clear H
    have p5 : 0 ≤ (0 : Int) := (by omega)
    have q5 : 0 < a0.size := (by have : (0 : Int) < (a0.size : Int) := of_decide_eq_true as_; omega)
    have hx5 : ∀ h : 0 < a0.size, ((a0[0]'h).toNat : Int) = bt a0 0 := bt_at a0 0
    clear p5
    have qi5 : (0 < (a0.size : Int)) = True := eq_true (of_decide_eq_true as_)
    replace q5 := eq_true q5
    go_wp2
    go_meet
    case rel => exact ⟨_, (((bt a0 0) != 42)), rs_, H', ⟨om_⟩, dr_⟩
   ·rw [if_neg c4] at H
    exact absurd H (by simp)
 case rest =>
  clear HC2
  obtain ⟨kq, x11_1, rfl, HA, HJ1, ⟨mc1, rfl⟩⟩ := hcut
  cases kq with
  | zero => exact absurd HA.out (by simp [stockyardref03_Star.j0])
  | succ kj1 =>
   have H := HA.out
   clear HA
   simp only [stockyardref03_Star.j0] at H
   by_cases c6 : x11_1 = true
   ·subst c6
    replace H := ip_ H
    simp only [Option.some.injEq, Prod.mk.injEq] at H
    obtain ⟨rfl, rfl⟩ := H
    go_wp2
    go_ret2
    exact ⟨by first | rfl | (simp; done) | (simp [*]; done), dr_⟩
   ·replace c6 := Bool.eq_false_iff.mpr c6
    subst c6
    replace H := in_ H
    have H' := Aside0.mk H
    clear H
    go_wp2
    go_loopg [4] kj1 (fun kq v4 w' => ∃ (x4_2 : Int), v4 = .int .i64 x4_2 ∧ Aside0 (stockyardref03_Star.l0 kq a0 x4_2 = some (r1, r2)) ∧ Aside0 (kq ≤ kj1) ∧ Drawn0 w w')
    case atStart => exact ⟨(1), rs_, H', ⟨Nat.le_refl _⟩, dr_⟩
    case round =>
     clear H'
     (try clear c6)
     obtain ⟨x4_2, rfl, HA, HK2, ⟨m2, rfl⟩⟩ := hrel
     cases gk with
     | zero => exact absurd HA.out (by simp [stockyardref03_Star.l0])
     | succ k2 =>
      have H := HA.out
      clear HA
      simp only [stockyardref03_Star.l0] at H
      by_cases c7 : x4_2 < (a0.size : Int)
      ·rw [if_pos c7] at H
       have c7b0 := decide_eq_true c7
       clear c7
       by_cases c8 : 0 ≤ x4_2
       ·rw [if_pos c8] at H
        have c8b0 := decide_eq_true c8
        clear c8
        replace H := Option.bind_eq_some_iff.mp H
        obtain ⟨t221, A100, H⟩ := H
        replace H : (if t221 < 0 then (some ((⟨#[]⟩ : ByteArray), false)) else (stockyardref03_Star.l0 k2 a0 (wrap64 (x4_2 + 1)))) = some (r1, r2) := H
        have A10 := Aside0.mk A100
        clear A100
        by_cases c11 : t221 < 0
        rw [if_pos c11] at H
        have c11b0 := decide_eq_true c11
        clear c11
        simp only [Option.some.injEq, Prod.mk.injEq] at H
        obtain ⟨rfl, rfl⟩ := H
        have p9 : 0 ≤ (x4_2 : Int) := of_decide_eq_true as_
        have q9 : x4_2 < (a0.size : Int) := of_decide_eq_true as_
        have hx9 := bt_at a0 x4_2
        replace p9 := eq_true p9
        replace q9 := eq_true q9
        rotate_left
        rw [if_neg c11] at H
        have c11b0 := decide_eq_false c11
        clear c11
        have H' := Aside0.mk H
        clear H
        have p9 : 0 ≤ (x4_2 : Int) := of_decide_eq_true as_
        have q9 : x4_2 < (a0.size : Int) := of_decide_eq_true as_
        have hx9 := bt_at a0 x4_2
        replace p9 := eq_true p9
        replace q9 := eq_true q9
        rotate_left
        all_goals go_wp2_with (first | ((with_reducible refine gate_callee (f := 68) rfl ?_); refine goesL_ (some 21) rfl rfl Tryd.func68 (by kernel_rfl) rfl #[.string (⟨#[65, 66, 67, 68, 69, 70, 71, 72, 73, 74, 75, 76, 77, 78, 79, 80, 81, 82, 83, 84, 85, 86, 87, 88, 89, 90, 97, 98, 99, 100, 101, 102, 103, 104, 105, 106, 107, 108, 109, 110, 111, 112, 113, 114, 115, 116, 117, 118, 119, 120, 121, 122, 48, 49, 50, 51, 52, 53, 54, 55, 56, 57, 95, 46, 43, 45]⟩ : ByteArray), .int .u8 (bt a0 x4_2)] rfl gl_ ?_; (with_reducible refine (strings_IndexByte.calls (⟨#[65, 66, 67, 68, 69, 70, 71, 72, 73, 74, 75, 76, 77, 78, 79, 80, 81, 82, 83, 84, 85, 86, 87, 88, 89, 90, 97, 98, 99, 100, 101, 102, 103, 104, 105, 106, 107, 108, 109, 110, 111, 112, 113, 114, 115, 116, 117, 118, 119, 120, 121, 122, 48, 49, 50, 51, 52, 53, 54, 55, 56, 57, 95, 46, 43, 45]⟩ : ByteArray) (bt a0 x4_2) t221 _ A10.out).mono ?_); rintro e w' ⟨rfl, ⟨nd, rfl⟩⟩; refine ⟨_, rfl, ?_⟩))
        ·go_ret2
         exact ⟨by first | rfl | (simp; done) | (simp [*]; done), dr_⟩
        ·go_roundg k2
         case measure => have := HJ1.out; have := HK2.out; omega
         case rel => exact ⟨(wrap64 (x4_2 + 1)), rs_, H', ⟨by have := HJ1.out; have := HK2.out; omega⟩, dr_⟩
       ·rw [if_neg c8] at H
        exact absurd H (by simp)
      ·rw [if_neg c7] at H
       have c7b0 := decide_eq_false c7
       clear c7
       by_cases c12 : 1 ≤ (a0.size : Int)
       ·rw [if_pos c12] at H
        have c12b0 := eq_true c12
        have c12b1 := decide_eq_true c12
        clear c12
        simp only [Option.some.injEq, Prod.mk.injEq] at H
        obtain ⟨rfl, rfl⟩ := H
        go_wp2
        go_ret2
        exact ⟨by first | rfl | (simp; done) | (simp [*]; done), dr_⟩
       ·rw [if_neg c12] at H
        exact absurd H (by simp)

/-! ### stockyardref02_Component: function 66 -/
mutual
def stockyardref02_Component.j0 : Nat → ByteArray → Bool → Option (Bool)
  | 0, _, _ => none
  | k + 1, x0, x10 => if x10 = true then (some false) else (stockyardref02_Component.l0 k x0 0)
def stockyardref02_Component.l0 : Nat → ByteArray → Int → Option (Bool)
  | 0, _, _ => none
  | k + 1, x0, x3 => if x3 < (x0.size : Int) then (if 0 ≤ x3 then ((strings_IndexByte.f (⟨#[65, 66, 67, 68, 69, 70, 71, 72, 73, 74, 75, 76, 77, 78, 79, 80, 81, 82, 83, 84, 85, 86, 87, 88, 89, 90, 97, 98, 99, 100, 101, 102, 103, 104, 105, 106, 107, 108, 109, 110, 111, 112, 113, 114, 115, 116, 117, 118, 119, 120, 121, 122, 48, 49, 50, 51, 52, 53, 54, 55, 56, 57, 95, 46, 43, 45]⟩ : ByteArray) (bt x0 x3)).bind fun t222 => (if t222 < 0 then (some false) else (stockyardref02_Component.l0 k x0 (wrap64 (x3 + 1))))) else (none)) else (some true)
end
def stockyardref02_Component.f (k : Nat) (a0 : ByteArray) : Option (Bool) := if a0.toList = ([] : List UInt8) then (stockyardref02_Component.j0 k a0 true) else (if 0 < (a0.size : Int) then (stockyardref02_Component.j0 k a0 ((bt a0 0) == 46)) else (none))
set_option maxHeartbeats 8000000 in
set_option maxRecDepth 100000 in
theorem stockyardref02_Component.calls (k : Nat) (a0 : ByteArray) (r : Bool) (w : World) (h : stockyardref02_Component.f k a0 = some r) :
  Calls Tryd.prog 66 #[.string a0] w fun e w' => e = .returned (.bool r) ∧ Drawn0 w w' := by
 have H : (if a0.toList = ([] : List UInt8) then (stockyardref02_Component.j0 k a0 true) else (if 0 < (a0.size : Int) then (stockyardref02_Component.j0 k a0 ((bt a0 0) == 46)) else (none))) = some r := h
 clear h
 have HC2 := Aside0.mk H
 clear H
 go_enter Tryd.func66, Tryd.ntmps66
 go_upto_region 1 with (fail)
 go_cut [10] (fun v10 wc => ∃ (kq : Nat) (x10_1 : Bool), v10 = .bool x10_1 ∧ Aside0 (stockyardref02_Component.j0 kq a0 x10_1 = some r) ∧ Aside0 (kq ≤ k) ∧ Drawn0 w wc)
 case first =>
  have H := HC2.out
  clear HC2
  by_cases c3 : a0.toList = ([] : List UInt8)
  ·rw [if_pos c3] at H
   have c3b0 := beq_iff_eq.mpr c3
   have c3b1 := bne_eq_false_iff_eq.mpr c3
   clear c3
   (first | rw [c3b0] | (simp only [i64_w, i32_w]; rw [c3b0]) | skip)
   have H' := Aside0.mk H
   clear H
   go_wp2
   go_meet
   case rel => exact ⟨_, (true), rs_, H', ⟨om_⟩, dr_⟩
  ·rw [if_neg c3] at H
   have c3b0 := beq_eq_false_iff_ne.mpr c3
   have c3b1 := bne_iff_ne.mpr c3
   (first | rw [c3b0] | (simp only [i64_w, i32_w]; rw [c3b0]) | skip)
   by_cases c4 : 0 < (a0.size : Int)
   ·rw [if_pos c4] at H
    have c4b0 := decide_eq_true c4
    have c4b1 : decide (0 < a0.size) = true := decide_eq_true (by omega)
    clear c4
    have H' := Aside0.mk H
    clear H
    have p5 : 0 ≤ (0 : Int) := (by omega)
    have q5 : 0 < a0.size := (by have : (0 : Int) < (a0.size : Int) := of_decide_eq_true as_; omega)
    have hx5 : ∀ h : 0 < a0.size, ((a0[0]'h).toNat : Int) = bt a0 0 := bt_at a0 0
    clear p5
    have qi5 : (0 < (a0.size : Int)) = True := eq_true (of_decide_eq_true as_)
    replace q5 := eq_true q5
    go_wp2
    go_meet
    case rel => exact ⟨_, (((bt a0 0) == 46)), rs_, H', ⟨om_⟩, dr_⟩
   ·rw [if_neg c4] at H
    exact absurd H (by simp)
 case rest =>
  clear HC2
  obtain ⟨kq, x10_1, rfl, HA, HJ1, ⟨mc1, rfl⟩⟩ := hcut
  cases kq with
  | zero => exact absurd HA.out (by simp [stockyardref02_Component.j0])
  | succ kj1 =>
   have H := HA.out
   clear HA
   simp only [stockyardref02_Component.j0] at H
   by_cases c6 : x10_1 = true
   ·subst c6
    replace H := ip_ H
    obtain rfl := Option.some.inj H
    go_wp2
    go_ret
    exact ⟨by first | rfl | (simp; done) | (simp [*]; done), dr_⟩
   ·replace c6 := Bool.eq_false_iff.mpr c6
    subst c6
    replace H := in_ H
    have H' := Aside0.mk H
    clear H
    go_wp2
    go_loopg [3] kj1 (fun kq v3 w' => ∃ (x3_2 : Int), v3 = .int .i64 x3_2 ∧ Aside0 (stockyardref02_Component.l0 kq a0 x3_2 = some r) ∧ Aside0 (kq ≤ kj1) ∧ Drawn0 w w')
    case atStart => exact ⟨(0), rs_, H', ⟨Nat.le_refl _⟩, dr_⟩
    case round =>
     clear H'
     (try clear c6)
     obtain ⟨x3_2, rfl, HA, HK2, ⟨m2, rfl⟩⟩ := hrel
     cases gk with
     | zero => exact absurd HA.out (by simp [stockyardref02_Component.l0])
     | succ k2 =>
      have H := HA.out
      clear HA
      simp only [stockyardref02_Component.l0] at H
      by_cases c7 : x3_2 < (a0.size : Int)
      ·rw [if_pos c7] at H
       have c7b0 := decide_eq_true c7
       clear c7
       by_cases c8 : 0 ≤ x3_2
       ·rw [if_pos c8] at H
        have c8b0 := decide_eq_true c8
        clear c8
        replace H := Option.bind_eq_some_iff.mp H
        obtain ⟨t222, A100, H⟩ := H
        replace H : (if t222 < 0 then (some false) else (stockyardref02_Component.l0 k2 a0 (wrap64 (x3_2 + 1)))) = some r := H
        have A10 := Aside0.mk A100
        clear A100
        by_cases c11 : t222 < 0
        rw [if_pos c11] at H
        have c11b0 := decide_eq_true c11
        clear c11
        obtain rfl := Option.some.inj H
        have p9 : 0 ≤ (x3_2 : Int) := of_decide_eq_true as_
        have q9 : x3_2 < (a0.size : Int) := of_decide_eq_true as_
        have hx9 := bt_at a0 x3_2
        replace p9 := eq_true p9
        replace q9 := eq_true q9
        rotate_left
        rw [if_neg c11] at H
        have c11b0 := decide_eq_false c11
        clear c11
        have H' := Aside0.mk H
        clear H
        have p9 : 0 ≤ (x3_2 : Int) := of_decide_eq_true as_
        have q9 : x3_2 < (a0.size : Int) := of_decide_eq_true as_
        have hx9 := bt_at a0 x3_2
        replace p9 := eq_true p9
        replace q9 := eq_true q9
        rotate_left
        all_goals go_wp2_with (first | ((with_reducible refine gate_callee (f := 68) rfl ?_); refine goesL_ (some 20) rfl rfl Tryd.func68 (by kernel_rfl) rfl #[.string (⟨#[65, 66, 67, 68, 69, 70, 71, 72, 73, 74, 75, 76, 77, 78, 79, 80, 81, 82, 83, 84, 85, 86, 87, 88, 89, 90, 97, 98, 99, 100, 101, 102, 103, 104, 105, 106, 107, 108, 109, 110, 111, 112, 113, 114, 115, 116, 117, 118, 119, 120, 121, 122, 48, 49, 50, 51, 52, 53, 54, 55, 56, 57, 95, 46, 43, 45]⟩ : ByteArray), .int .u8 (bt a0 x3_2)] rfl gl_ ?_; (with_reducible refine (strings_IndexByte.calls (⟨#[65, 66, 67, 68, 69, 70, 71, 72, 73, 74, 75, 76, 77, 78, 79, 80, 81, 82, 83, 84, 85, 86, 87, 88, 89, 90, 97, 98, 99, 100, 101, 102, 103, 104, 105, 106, 107, 108, 109, 110, 111, 112, 113, 114, 115, 116, 117, 118, 119, 120, 121, 122, 48, 49, 50, 51, 52, 53, 54, 55, 56, 57, 95, 46, 43, 45]⟩ : ByteArray) (bt a0 x3_2) t222 _ A10.out).mono ?_); rintro e w' ⟨rfl, ⟨nd, rfl⟩⟩; refine ⟨_, rfl, ?_⟩))
        ·go_ret
         exact ⟨by first | rfl | (simp; done) | (simp [*]; done), dr_⟩
        ·go_roundg k2
         case measure => have := HJ1.out; have := HK2.out; omega
         case rel => exact ⟨(wrap64 (x3_2 + 1)), rs_, H', ⟨by have := HJ1.out; have := HK2.out; omega⟩, dr_⟩
       ·rw [if_neg c8] at H
        exact absurd H (by simp)
      ·rw [if_neg c7] at H
       have c7b0 := decide_eq_false c7
       clear c7
       obtain rfl := Option.some.inj H
       go_wp2
       go_ret
       exact ⟨by first | rfl | (simp; done) | (simp [*]; done), dr_⟩

/-! ### stockyardref03_Part: function 43 -/
def stockyardref03_Part.f (k : Nat) (a0 : ByteArray) : Option (Bool) := (stockyardref03_Star.f k a0).bind fun bt223 => (if bt223.2 = true then (some true) else ((stockyardref02_Component.f k a0).bind fun t225 => (some t225)))
set_option maxHeartbeats 8000000 in
set_option maxRecDepth 100000 in
theorem stockyardref03_Part.calls (k : Nat) (a0 : ByteArray) (r : Bool) (w : World) (h : stockyardref03_Part.f k a0 = some r) :
  Calls Tryd.prog 43 #[.string a0] w fun e w' => e = .returned (.bool r) ∧ Drawn0 w w' := by
 have H : ((stockyardref03_Star.f k a0).bind fun bt223 => (if bt223.2 = true then (some true) else ((stockyardref02_Component.f k a0).bind fun t225 => (some t225)))) = some r := h
 clear h
 replace H := Option.bind_eq_some_iff.mp H
 obtain ⟨⟨t223, t224⟩, A20, H⟩ := H
 replace H : (if t224 = true then (some true) else ((stockyardref02_Component.f k a0).bind fun t225 => (some t225))) = some r := H
 have A2 := Aside0.mk A20
 clear A20
 by_cases c3 : t224 = true
 subst c3
 replace H := ip_ H
 obtain rfl := Option.some.inj H
 go_enter Tryd.func43, Tryd.ntmps43
 rotate_left
 replace c3 := Bool.eq_false_iff.mpr c3
 subst c3
 replace H := in_ H
 replace H := Option.bind_eq_some_iff.mp H
 obtain ⟨t225, A40, H⟩ := H
 replace H : (some t225) = some r := H
 have A4 := Aside0.mk A40
 clear A40
 obtain rfl := Option.some.inj H
 go_enter Tryd.func43, Tryd.ntmps43
 rotate_left
 all_goals go_wp2_with (first | ((with_reducible refine gate_callee (f := 42) rfl ?_); refine goesL_ (some 7) rfl rfl Tryd.func42 (by kernel_rfl) rfl #[.string a0] rfl gl_ ?_; (with_reducible refine (stockyardref03_Star.calls k a0 t223 false _ A2.out).mono ?_); rintro e w' ⟨rfl, ⟨nd, rfl⟩⟩; refine ⟨_, rfl, ?_⟩) | (go_at_call 66; (with_reducible refine (stockyardref02_Component.calls k a0 t225 _ A4.out).mono ?_); rintro e w' ⟨rfl, ⟨nd, rfl⟩⟩) | ((with_reducible refine gate_callee (f := 42) rfl ?_); refine goesL_ (some 7) rfl rfl Tryd.func42 (by kernel_rfl) rfl #[.string a0] rfl gl_ ?_; (with_reducible refine (stockyardref03_Star.calls k a0 t223 true _ A2.out).mono ?_); rintro e w' ⟨rfl, ⟨nd, rfl⟩⟩; refine ⟨_, rfl, ?_⟩))
 ·go_ret
  exact ⟨by first | rfl | (simp; done) | (simp [*]; done), dr_⟩
 ·go_ret
  exact ⟨by first | rfl | (simp; done) | (simp [*]; done), dr_⟩

/-! ### stockyardref03_Check: function 40 -/
mutual
def stockyardref03_Check.j0 : Nat → Bool → List ByteArray → Bool → Option (Int)
  | 0, _, _, _ => none
  | k + 1, x27, x227000, x227001 => if x27 = true then (some 30) else (if 1 ≤ (x227000.length : Int) then (stockyardref03_Check.l0 k (x227000.drop 1) ((x227000.drop 1).length : Int) 0 x227000 x227001) else (none))
def stockyardref03_Check.l0 : Nat → List ByteArray → Int → Int → List ByteArray → Bool → Option (Int)
  | 0, _, _, _, _, _ => none
  | k + 1, x30, x31, x32, x227000, x227001 => if x32 < x31 then (if 0 ≤ x32 then (if x32 < (x30.length : Int) then ((stockyardref03_Part.f k (rdOf ByteArray.empty x30 x32)).bind fun t233 => (if t233 = true then (stockyardref03_Check.l0 k x30 x31 (wrap64 (x32 + 1)) x227000 x227001) else (some 30))) else (none)) else (none)) else (if (x227000.length : Int) > 12 then (some 31) else (some 0))
end
def stockyardref03_Check.f (k : Nat) (l0_0 : List ByteArray) (a0_1 : Bool) : Option (Int) := if (l0_0.length : Int) = 0 then (stockyardref03_Check.j0 k true l0_0 a0_1) else (if (l0_0.length : Int) = 1 then (if a0_1 = true then (if 0 < (l0_0.length : Int) then ((stockyardref02_Component.f k (rdOf ByteArray.empty l0_0 0)).bind fun t228 => (stockyardref03_Check.j0 k (!t228) l0_0 a0_1)) else (none)) else (stockyardref03_Check.j0 k true l0_0 a0_1)) else (if 0 < (l0_0.length : Int) then ((stockyardref02_Component.f k (rdOf ByteArray.empty l0_0 0)).bind fun t230 => (stockyardref03_Check.j0 k (!t230) l0_0 a0_1)) else (none)))
set_option maxHeartbeats 8000000 in
set_option maxRecDepth 100000 in
theorem stockyardref03_Check.calls (k : Nat) (A0_0 : Option Addr) (c0_0 : Nat) (l0_0 : List ByteArray) (a0_1 : Bool) (r : Int) (w : World) (hr0_0 : Kd.C Kd.string w A0_0 l0_0.length l0_0) (hc0_0 : l0_0.length ≤ c0_0) (h : stockyardref03_Check.f k l0_0 a0_1 = some r) :
  Calls Tryd.prog 40 #[.agg #[.slice A0_0 l0_0.length c0_0, .bool a0_1]] w fun e w' => e = .returned (.int .i64 r) ∧ Below w.heap.size w w' := by
 have hu24 := Tryd.underlying24
 have HR0_0 := Aside0.mk hr0_0
 have HC0_0 := Aside0.mk hc0_0
 clear hr0_0 hc0_0
 have HB := Aside0.mk (Below.refl w.heap.size w)
 have H : (if (l0_0.length : Int) = 0 then (stockyardref03_Check.j0 k true l0_0 a0_1) else (if (l0_0.length : Int) = 1 then (if a0_1 = true then (if 0 < (l0_0.length : Int) then ((stockyardref02_Component.f k (rdOf ByteArray.empty l0_0 0)).bind fun t228 => (stockyardref03_Check.j0 k (!t228) l0_0 a0_1)) else (none)) else (stockyardref03_Check.j0 k true l0_0 a0_1)) else (if 0 < (l0_0.length : Int) then ((stockyardref02_Component.f k (rdOf ByteArray.empty l0_0 0)).bind fun t230 => (stockyardref03_Check.j0 k (!t230) l0_0 a0_1)) else (none)))) = some r := h
 clear h
 have HC2 := Aside0.mk H
 clear H
 go_enter Tryd.func40, Tryd.ntmps40
 go_upto_region 1 with (first | ((with_reducible refine gate_dst (N := 1) rfl ?_); (try (refine gate_guard (by rfl) ?_; dsimp only)); refine box_event ?hg (N := 1) ?hd (cs := #[.slice A0_0 l0_0.length c0_0, .bool a0_1]) (t := 24) ?hr ?_; (case hd => rfl); (case hg => rfl); (case hr => first | (go_simp; done) | (go_simp; rfl)); intro gb226 hg w3 hbox hb; have BK226 := Aside0.mk hbox; have GW226 := gw_ HB hg; have GE226 := gw_ HB hg; replace HB := hs_ HB hb; clear hb hbox hg))
 (try simp only [Act.put, List.setIfInBounds_toArray, List.set_cons_zero, List.set_cons_succ])
 go_cut [27] (fun v27 wc => ∃ (kq : Nat) (x27_1 : Bool), v27 = .bool x27_1 ∧ Aside0 (stockyardref03_Check.j0 kq x27_1 l0_0 a0_1 = some r) ∧ Aside0 (kq ≤ k) ∧ Aside0 (wc.heap[gb226]? = some (.cells #[(.slice A0_0 l0_0.length c0_0), .bool a0_1] 24 (0, 0))) ∧ Aside0 (Below w.heap.size w wc))
 case first =>
  have H := HC2.out
  clear HC2
  by_cases c4 : (l0_0.length : Int) = 0
  ·rw [if_pos c4] at H
   have c4b0 := beq_iff_eq.mpr c4
   have c4b1 := bne_eq_false_iff_eq.mpr c4
   clear c4
   (first | rw [c4b0] | (simp only [i64_w, i32_w]; rw [c4b0]) | skip)
   have H' := Aside0.mk H
   clear H
   obtain ⟨hcz5_0, hcz5_1, hfz5_0, hfz5_1⟩ := c2_ BK226
   go_wp2
   go_meet
   case rel => exact ⟨_, (true), rs_, H', ⟨om_⟩, ⟨bk_⟩, ⟨hb_⟩⟩
  ·rw [if_neg c4] at H
   have c4b0 := beq_eq_false_iff_ne.mpr c4
   have c4b1 := bne_iff_ne.mpr c4
   have c4b2 : ¬ (l0_0 = []) := fun h_ => c4 (by rw [h_]; rfl)
   (first | rw [c4b0] | (simp only [i64_w, i32_w]; rw [c4b0]) | skip)
   by_cases c6 : (l0_0.length : Int) = 1
   ·rw [if_pos c6] at H
    have c6b0 := beq_iff_eq.mpr c6
    have c6b1 := bne_eq_false_iff_eq.mpr c6
    clear c6
    by_cases c7 : a0_1 = true
    ·subst c7
     replace H := ip_ H
     by_cases c8 : 0 < (l0_0.length : Int)
     ·rw [if_pos c8] at H
      have c8b0 := decide_eq_true c8
      have c8b1 : decide (0 < l0_0.length) = true := decide_eq_true (by omega)
      clear c8
      replace H := Option.bind_eq_some_iff.mp H
      obtain ⟨t228, A90, H⟩ := H
      replace H : (stockyardref03_Check.j0 k (!t228) l0_0 true) = some r := H
      have A9 := Aside0.mk A90
      clear A90
      have H' := Aside0.mk H
      clear H
      obtain ⟨hcz10_0, hcz10_1, hfz10_0, hfz10_1⟩ := c2_ BK226
      have p227 : 0 ≤ (0 : Int) := (by omega)
      have q227 : 0 < (l0_0.length : Int) := of_decide_eq_true as_
      obtain ⟨ad227, e227, hx227_0⟩ := Kd.at_string HR0_0.out 0 p227 q227
      cases e227
      have qi227 : (0 < l0_0.length) = True := eq_true (by omega)
      (try rw [show ((0 : Int)).toNat = 0 from rfl] at hx227_0)
      (try rw [Addr.add_zero'] at hx227_0)
      replace hx227_0 := (HB.out.cell (World.block_lt_of_cell? w _ hx227_0)).trans hx227_0
      replace p227 := eq_true p227
      replace q227 := eq_true q227
      go_wp2_with (first | (go_at_call 66; (with_reducible refine (stockyardref02_Component.calls k (rdOf ByteArray.empty l0_0 0) t228 _ A9.out).mono ?_); rintro e w' ⟨rfl, ⟨nd, rfl⟩⟩))
      go_meet
      case rel => exact ⟨_, (!t228), rs_, H', ⟨om_⟩, ⟨bk_⟩, ⟨hb_⟩⟩
     ·rw [if_neg c8] at H
      exact absurd H (by simp)
    ·replace c7 := Bool.eq_false_iff.mpr c7
     subst c7
     replace H := in_ H
     have H' := Aside0.mk H
     clear H
     obtain ⟨hcz11_0, hcz11_1, hfz11_0, hfz11_1⟩ := c2_ BK226
     go_wp2
     go_meet
     case rel => exact ⟨_, (true), rs_, H', ⟨om_⟩, ⟨bk_⟩, ⟨hb_⟩⟩
   ·rw [if_neg c6] at H
    have c6b0 := beq_eq_false_iff_ne.mpr c6
    have c6b1 := bne_iff_ne.mpr c6
    by_cases c12 : 0 < (l0_0.length : Int)
    ·rw [if_pos c12] at H
     have c12b0 := decide_eq_true c12
     have c12b1 : decide (0 < l0_0.length) = true := decide_eq_true (by omega)
     clear c12
     replace H := Option.bind_eq_some_iff.mp H
     obtain ⟨t230, A130, H⟩ := H
     replace H : (stockyardref03_Check.j0 k (!t230) l0_0 a0_1) = some r := H
     have A13 := Aside0.mk A130
     clear A130
     have H' := Aside0.mk H
     clear H
     obtain ⟨hcz14_0, hcz14_1, hfz14_0, hfz14_1⟩ := c2_ BK226
     have p229 : 0 ≤ (0 : Int) := (by omega)
     have q229 : 0 < (l0_0.length : Int) := of_decide_eq_true as_
     obtain ⟨ad229, e229, hx229_0⟩ := Kd.at_string HR0_0.out 0 p229 q229
     cases e229
     have qi229 : (0 < l0_0.length) = True := eq_true (by omega)
     (try rw [show ((0 : Int)).toNat = 0 from rfl] at hx229_0)
     (try rw [Addr.add_zero'] at hx229_0)
     replace hx229_0 := (HB.out.cell (World.block_lt_of_cell? w _ hx229_0)).trans hx229_0
     replace p229 := eq_true p229
     replace q229 := eq_true q229
     go_wp2_with (first | (go_at_call 66; (with_reducible refine (stockyardref02_Component.calls k (rdOf ByteArray.empty l0_0 0) t230 _ A13.out).mono ?_); rintro e w' ⟨rfl, ⟨nd, rfl⟩⟩))
     go_meet
     case rel => exact ⟨_, (!t230), rs_, H', ⟨om_⟩, ⟨bk_⟩, ⟨hb_⟩⟩
    ·rw [if_neg c12] at H
     exact absurd H (by simp)
 case rest =>
  clear HC2
  obtain ⟨kq, x27_1, rfl, HA, HJ1, BK226, HB⟩ := hcut
  cases kq with
  | zero => exact absurd HA.out (by simp [stockyardref03_Check.j0])
  | succ kj1 =>
   have H := HA.out
   clear HA
   simp only [stockyardref03_Check.j0] at H
   by_cases c15 : x27_1 = true
   ·subst c15
    replace H := ip_ H
    obtain rfl := Option.some.inj H
    go_wp2
    go_ret
    exact ⟨rt_, hb_⟩
   ·replace c15 := Bool.eq_false_iff.mpr c15
    subst c15
    replace H := in_ H
    by_cases c16 : 1 ≤ (l0_0.length : Int)
    ·rw [if_pos c16] at H
     have c16b0 := eq_true c16
     have c16b1 := decide_eq_true c16
     clear c16
     have H' := Aside0.mk H
     clear H
     obtain ⟨hcz17_0, hcz17_1, hfz17_0, hfz17_1⟩ := c2_ BK226
     obtain ⟨i018, hi018, _, hsz18, _⟩ := info_parts info9
     obtain ⟨A18, hcut18, hA18, hC18⟩ := print_drop_of (P := Tryd.prog) Value.string (⟨#[]⟩ : ByteArray) 22 9 .i64 Tryd.underlying22 hi018 hsz18 A0_0 c0_0 l0_0 1 (by omega) (of_decide_eq_true as_) HC0_0.out
     have HR231 := Aside0.mk (Kd.C_of_reads (h1 := fun _ => rfl) (hA18 _ (Kd.reads_of_C HR0_0.out)))
     have HC231 := Aside0.mk hC18
     clear hA18 hC18 hi018 hsz18
     go_wp2
     go_loopg [32] kj1 (fun kq v32 w' => ∃ (x32_2 : Int), v32 = .int .i64 x32_2 ∧ Aside0 (stockyardref03_Check.l0 kq (l0_0.drop 1) ((l0_0.drop 1).length : Int) x32_2 l0_0 a0_1 = some r) ∧ Aside0 (kq ≤ kj1) ∧ Aside0 (w'.heap[gb226]? = some (.cells #[(.slice A0_0 l0_0.length c0_0), .bool a0_1] 24 (0, 0))) ∧ Aside0 (Below w.heap.size w w'))
     case atStart => exact ⟨(0), rs_, H', ⟨Nat.le_refl _⟩, ⟨bk_⟩, ⟨hb_⟩⟩
     case round =>
      clear H'
      (try clear c15); (try clear c16); (try clear c16b0); (try clear c16b1); (try clear hcz17_0); (try clear hcz17_1); (try clear hfz17_0); (try clear hfz17_1)
      obtain ⟨x32_2, rfl, HA, HK2, BK226, HB⟩ := hrel
      cases gk with
      | zero => exact absurd HA.out (by simp [stockyardref03_Check.l0])
      | succ k2 =>
       have H := HA.out
       clear HA
       simp only [stockyardref03_Check.l0] at H
       by_cases c19 : x32_2 < ((l0_0.drop 1).length : Int)
       ·rw [if_pos c19] at H
        have c19b0 := decide_eq_true c19
        have c19b9 : decide (x32_2 < ((l0_0.length - 1 : Nat) : Int)) = true := by rw [← List.length_drop]; exact c19b0
        clear c19
        by_cases c20 : 0 ≤ x32_2
        ·rw [if_pos c20] at H
         have c20b0 := decide_eq_true c20
         clear c20
         by_cases c21 : x32_2 < ((l0_0.drop 1).length : Int)
         ·rw [if_pos c21] at H
          have c21b0 := decide_eq_true c21
          have c21b9 : decide (x32_2 < ((l0_0.length - 1 : Nat) : Int)) = true := by rw [← List.length_drop]; exact c21b0
          clear c21
          replace H := Option.bind_eq_some_iff.mp H
          obtain ⟨t233, A220, H⟩ := H
          replace H : (if t233 = true then (stockyardref03_Check.l0 k2 (l0_0.drop 1) ((l0_0.drop 1).length : Int) (wrap64 (x32_2 + 1)) l0_0 a0_1) else (some 30)) = some r := H
          have A22 := Aside0.mk A220
          clear A220
          by_cases c23 : t233 = true
          ·subst c23
           replace H := ip_ H
           have H' := Aside0.mk H
           clear H
           have p232 : 0 ≤ (x32_2 : Int) := of_decide_eq_true as_
           have q232 : x32_2 < ((l0_0.drop 1).length : Int) := of_decide_eq_true as_
           obtain ⟨ad232, e232, hx232_0⟩ := Kd.at_string HR231.out x32_2 p232 q232
           cases e232
           replace hx232_0 := (HB.out.cell (World.block_lt_of_cell? w _ hx232_0)).trans hx232_0
           replace p232 := eq_true p232
           replace q232 := eq_true q232
           have q232t : (x32_2 < ((l0_0.length - 1 : Nat) : Int)) = True := by have q_ := of_eq_true q232; rw [List.length_drop] at q_; exact eq_true q_
           go_wp2_with (first | ((with_reducible refine gate_callee (f := 43) rfl ?_); refine goesL_ (some 37) rfl rfl Tryd.func43 (by kernel_rfl) rfl #[.string (rdOf ByteArray.empty l0_0.tail x32_2)] rfl gl_ ?_; (with_reducible refine (stockyardref03_Part.calls k2 (rdOf ByteArray.empty l0_0.tail x32_2) true _ (by have q_ := A22.out; rw [List.drop_one] at q_; exact q_)).mono ?_); rintro e w' ⟨rfl, ⟨nd, rfl⟩⟩; refine ⟨_, rfl, ?_⟩))
           go_roundg k2
           case measure => have := HJ1.out; have := HK2.out; omega
           case rel => exact ⟨(wrap64 (x32_2 + 1)), rs_, H', ⟨by have := HJ1.out; have := HK2.out; omega⟩, ⟨bk_⟩, ⟨hb_⟩⟩
          ·replace c23 := Bool.eq_false_iff.mpr c23
           subst c23
           replace H := in_ H
           obtain rfl := Option.some.inj H
           have p232 : 0 ≤ (x32_2 : Int) := of_decide_eq_true as_
           have q232 : x32_2 < ((l0_0.drop 1).length : Int) := of_decide_eq_true as_
           obtain ⟨ad232, e232, hx232_0⟩ := Kd.at_string HR231.out x32_2 p232 q232
           cases e232
           replace hx232_0 := (HB.out.cell (World.block_lt_of_cell? w _ hx232_0)).trans hx232_0
           replace p232 := eq_true p232
           replace q232 := eq_true q232
           have q232t : (x32_2 < ((l0_0.length - 1 : Nat) : Int)) = True := by have q_ := of_eq_true q232; rw [List.length_drop] at q_; exact eq_true q_
           go_wp2_with (first | ((with_reducible refine gate_callee (f := 43) rfl ?_); refine goesL_ (some 37) rfl rfl Tryd.func43 (by kernel_rfl) rfl #[.string (rdOf ByteArray.empty l0_0.tail x32_2)] rfl gl_ ?_; (with_reducible refine (stockyardref03_Part.calls k2 (rdOf ByteArray.empty l0_0.tail x32_2) false _ (by have q_ := A22.out; rw [List.drop_one] at q_; exact q_)).mono ?_); rintro e w' ⟨rfl, ⟨nd, rfl⟩⟩; refine ⟨_, rfl, ?_⟩))
           go_ret
           exact ⟨rt_, hb_⟩
         ·rw [if_neg c21] at H
          exact absurd H (by simp)
        ·rw [if_neg c20] at H
         exact absurd H (by simp)
       ·rw [if_neg c19] at H
        have c19b0 := decide_eq_false c19
        have c19b9 : decide (x32_2 < ((l0_0.length - 1 : Nat) : Int)) = false := by rw [← List.length_drop]; exact c19b0
        clear c19
        by_cases c24 : (l0_0.length : Int) > 12
        ·rw [if_pos c24] at H
         have c24b0 := decide_eq_true c24
         have c24b1 : decide (12 < l0_0.length) = true := decide_eq_true (by omega)
         clear c24
         obtain rfl := Option.some.inj H
         obtain ⟨hcz25_0, hcz25_1, hfz25_0, hfz25_1⟩ := c2_ BK226
         go_wp2
         go_ret
         exact ⟨rt_, hb_⟩
        ·rw [if_neg c24] at H
         have c24b0 := decide_eq_false c24
         have c24b1 : decide (12 < l0_0.length) = false := decide_eq_false (by omega)
         clear c24
         obtain rfl := Option.some.inj H
         obtain ⟨hcz26_0, hcz26_1, hfz26_0, hfz26_1⟩ := c2_ BK226
         go_wp2
         go_ret
         exact ⟨rt_, hb_⟩
    ·rw [if_neg c16] at H
     exact absurd H (by simp)

/-! ### stockyardref03_Kinds: function 67 -/
def stockyardref03_Kinds.l0 : Nat → Int → List ByteArray → Int → Int → List ByteArray → Bool → Option (Int × Bool)
  | 0, _, _, _, _, _, _ => none
  | k + 1, x4, x10, x11, x12, x235000, x235001 => if x12 < x11 then (if 0 ≤ x12 then (if x12 < (x10.length : Int) then ((stockyardref03_Star.f k (rdOf ByteArray.empty x10 x12)).bind fun bt236 => (if bt236.2 = true then (stockyardref03_Kinds.l0 k (wrap64 (x4 + 1)) x10 x11 (wrap64 (x12 + 1)) x235000 x235001) else (stockyardref03_Kinds.l0 k x4 x10 x11 (wrap64 (x12 + 1)) x235000 x235001))) else (none)) else (none)) else (some (x4, x235001))
def stockyardref03_Kinds.f (k : Nat) (l0_0 : List ByteArray) (a0_1 : Bool) : Option (Int × Bool) := stockyardref03_Kinds.l0 k 0 l0_0 (l0_0.length : Int) 0 l0_0 a0_1
set_option maxHeartbeats 8000000 in
set_option maxRecDepth 100000 in
theorem stockyardref03_Kinds.calls (k : Nat) (A0_0 : Option Addr) (c0_0 : Nat) (l0_0 : List ByteArray) (a0_1 : Bool) (r1 : Int) (r2 : Bool) (w : World) (hr0_0 : Kd.C Kd.string w A0_0 l0_0.length l0_0) (hc0_0 : l0_0.length ≤ c0_0) (h : stockyardref03_Kinds.f k l0_0 a0_1 = some (r1, r2)) :
  Calls Tryd.prog 67 #[.agg #[.slice A0_0 l0_0.length c0_0, .bool a0_1]] w fun e w' => e = .returned (.tuple #[.int .i64 r1, .bool r2]) ∧ Below w.heap.size w w' := by
 have hu24 := Tryd.underlying24
 have HR0_0 := Aside0.mk hr0_0
 have HC0_0 := Aside0.mk hc0_0
 clear hr0_0 hc0_0
 have HB := Aside0.mk (Below.refl w.heap.size w)
 have H : (stockyardref03_Kinds.l0 k 0 l0_0 (l0_0.length : Int) 0 l0_0 a0_1) = some (r1, r2) := h
 clear h
 have H' := Aside0.mk H
 clear H
 go_enter Tryd.func67, Tryd.ntmps67
 go_wp2_with (first | ((with_reducible refine gate_dst (N := 1) rfl ?_); refine box_event ?hg (N := 1) ?hd (cs := #[.slice A0_0 l0_0.length c0_0, .bool a0_1]) (t := 24) ?hr ?_; (case hd => rfl); (case hg => rfl); (case hr => first | (go_simp; done) | (go_simp; rfl)); intro gb234 hg w2 hbox hb; have BK234 := Aside0.mk hbox; have GW234 := gw_ HB hg; have GE234 := gw_ HB hg; replace HB := hs_ HB hb; clear hb hbox hg; obtain ⟨hcz3_0, hcz3_1, hfz3_0, hfz3_1⟩ := c2_ BK234))
 repeat (go_quiet (first | ((with_reducible refine gate_dst (N := 1) rfl ?_); refine box_event ?hg (N := 1) ?hd (cs := #[.slice A0_0 l0_0.length c0_0, .bool a0_1]) (t := 24) ?hr ?_; (case hd => rfl); (case hg => rfl); (case hr => first | (go_simp; done) | (go_simp; rfl)); intro gb234 hg w2 hbox hb; have BK234 := Aside0.mk hbox; have GW234 := gw_ HB hg; have GE234 := gw_ HB hg; replace HB := hs_ HB hb; clear hb hbox hg; obtain ⟨hcz3_0, hcz3_1, hfz3_0, hfz3_1⟩ := c2_ BK234)); try go_wp2_with (first | ((with_reducible refine gate_dst (N := 1) rfl ?_); refine box_event ?hg (N := 1) ?hd (cs := #[.slice A0_0 l0_0.length c0_0, .bool a0_1]) (t := 24) ?hr ?_; (case hd => rfl); (case hg => rfl); (case hr => first | (go_simp; done) | (go_simp; rfl)); intro gb234 hg w2 hbox hb; have BK234 := Aside0.mk hbox; have GW234 := gw_ HB hg; have GE234 := gw_ HB hg; replace HB := hs_ HB hb; clear hb hbox hg; obtain ⟨hcz3_0, hcz3_1, hfz3_0, hfz3_1⟩ := c2_ BK234)))
 go_loopg [4, 12] k (fun kq v4 v12 w' => ∃ (x4_1 : Int) (x12_1 : Int), v4 = .int .i64 x4_1 ∧ v12 = .int .i64 x12_1 ∧ Aside0 (stockyardref03_Kinds.l0 kq x4_1 l0_0 (l0_0.length : Int) x12_1 l0_0 a0_1 = some (r1, r2)) ∧ Aside0 (kq ≤ k) ∧ Aside0 (w'.heap[gb234]? = some (.cells #[(.slice A0_0 l0_0.length c0_0), .bool a0_1] 24 (0, 0))) ∧ Aside0 (Below w.heap.size w w'))
 case atStart => exact ⟨(0), (0), rs_, rs_, H', ⟨Nat.le_refl _⟩, ⟨bk_⟩, ⟨hb_⟩⟩
 case round =>
  clear H'
  (try clear hcz3_0); (try clear hcz3_1); (try clear hfz3_0); (try clear hfz3_1)
  obtain ⟨x4_1, x12_1, rfl, rfl, HA, HK1, BK234, HB⟩ := hrel
  cases gk with
  | zero => exact absurd HA.out (by simp [stockyardref03_Kinds.l0])
  | succ k1 =>
   have H := HA.out
   clear HA
   simp only [stockyardref03_Kinds.l0] at H
   by_cases c4 : x12_1 < (l0_0.length : Int)
   ·rw [if_pos c4] at H
    have c4b0 := decide_eq_true c4
    clear c4
    by_cases c5 : 0 ≤ x12_1
    ·rw [if_pos c5] at H
     have c5b0 := decide_eq_true c5
     clear c5
     by_cases c6 : x12_1 < (l0_0.length : Int)
     ·rw [if_pos c6] at H
      have c6b0 := decide_eq_true c6
      clear c6
      replace H := Option.bind_eq_some_iff.mp H
      obtain ⟨⟨t236, t237⟩, A70, H⟩ := H
      replace H : (if t237 = true then (stockyardref03_Kinds.l0 k1 (wrap64 (x4_1 + 1)) l0_0 (l0_0.length : Int) (wrap64 (x12_1 + 1)) l0_0 a0_1) else (stockyardref03_Kinds.l0 k1 x4_1 l0_0 (l0_0.length : Int) (wrap64 (x12_1 + 1)) l0_0 a0_1)) = some (r1, r2) := H
      have A7 := Aside0.mk A70
      clear A70
      by_cases c8 : t237 = true
      ·subst c8
       replace H := ip_ H
       have H' := Aside0.mk H
       clear H
       have p235 : 0 ≤ (x12_1 : Int) := of_decide_eq_true as_
       have q235 : x12_1 < (l0_0.length : Int) := of_decide_eq_true as_
       obtain ⟨ad235, e235, hx235_0⟩ := Kd.at_string HR0_0.out x12_1 p235 q235
       cases e235
       replace hx235_0 := (HB.out.cell (World.block_lt_of_cell? w _ hx235_0)).trans hx235_0
       replace p235 := eq_true p235
       replace q235 := eq_true q235
       go_wp2_with (first | (go_at_call 42; (with_reducible refine (stockyardref03_Star.calls k1 (rdOf ByteArray.empty l0_0 x12_1) t236 true _ A7.out).mono ?_); rintro e w' ⟨rfl, ⟨nd, rfl⟩⟩; (try first | exact ⟨rfl, _, World.drewN_drewN _ _ _⟩ | exact ⟨rfl, _, Eq.trans (World.drewN_drewN _ _ _) (congrArg (World.drewN _) (Nat.add_assoc _ _ _))⟩)))
       repeat (go_quiet (first | (go_at_call 42; (with_reducible refine (stockyardref03_Star.calls k1 (rdOf ByteArray.empty l0_0 x12_1) t236 true _ A7.out).mono ?_); rintro e w' ⟨rfl, ⟨nd, rfl⟩⟩; (try first | exact ⟨rfl, _, World.drewN_drewN _ _ _⟩ | exact ⟨rfl, _, Eq.trans (World.drewN_drewN _ _ _) (congrArg (World.drewN _) (Nat.add_assoc _ _ _))⟩))); try go_wp2_with (first | (go_at_call 42; (with_reducible refine (stockyardref03_Star.calls k1 (rdOf ByteArray.empty l0_0 x12_1) t236 true _ A7.out).mono ?_); rintro e w' ⟨rfl, ⟨nd, rfl⟩⟩; (try first | exact ⟨rfl, _, World.drewN_drewN _ _ _⟩ | exact ⟨rfl, _, Eq.trans (World.drewN_drewN _ _ _) (congrArg (World.drewN _) (Nat.add_assoc _ _ _))⟩))))
       go_roundg k1
       case measure => have := HK1.out; omega
       case rel => exact ⟨(wrap64 (x4_1 + 1)), (wrap64 (x12_1 + 1)), rs_, rs_, H', ⟨by have := HK1.out; omega⟩, ⟨bk_⟩, ⟨hb_⟩⟩
      ·replace c8 := Bool.eq_false_iff.mpr c8
       subst c8
       replace H := in_ H
       have H' := Aside0.mk H
       clear H
       have p235 : 0 ≤ (x12_1 : Int) := of_decide_eq_true as_
       have q235 : x12_1 < (l0_0.length : Int) := of_decide_eq_true as_
       obtain ⟨ad235, e235, hx235_0⟩ := Kd.at_string HR0_0.out x12_1 p235 q235
       cases e235
       replace hx235_0 := (HB.out.cell (World.block_lt_of_cell? w _ hx235_0)).trans hx235_0
       replace p235 := eq_true p235
       replace q235 := eq_true q235
       go_wp2_with (first | (go_at_call 42; (with_reducible refine (stockyardref03_Star.calls k1 (rdOf ByteArray.empty l0_0 x12_1) t236 false _ A7.out).mono ?_); rintro e w' ⟨rfl, ⟨nd, rfl⟩⟩; (try first | exact ⟨rfl, _, World.drewN_drewN _ _ _⟩ | exact ⟨rfl, _, Eq.trans (World.drewN_drewN _ _ _) (congrArg (World.drewN _) (Nat.add_assoc _ _ _))⟩)))
       repeat (go_quiet (first | (go_at_call 42; (with_reducible refine (stockyardref03_Star.calls k1 (rdOf ByteArray.empty l0_0 x12_1) t236 false _ A7.out).mono ?_); rintro e w' ⟨rfl, ⟨nd, rfl⟩⟩; (try first | exact ⟨rfl, _, World.drewN_drewN _ _ _⟩ | exact ⟨rfl, _, Eq.trans (World.drewN_drewN _ _ _) (congrArg (World.drewN _) (Nat.add_assoc _ _ _))⟩))); try go_wp2_with (first | (go_at_call 42; (with_reducible refine (stockyardref03_Star.calls k1 (rdOf ByteArray.empty l0_0 x12_1) t236 false _ A7.out).mono ?_); rintro e w' ⟨rfl, ⟨nd, rfl⟩⟩; (try first | exact ⟨rfl, _, World.drewN_drewN _ _ _⟩ | exact ⟨rfl, _, Eq.trans (World.drewN_drewN _ _ _) (congrArg (World.drewN _) (Nat.add_assoc _ _ _))⟩))))
       go_roundg k1
       case measure => have := HK1.out; omega
       case rel => exact ⟨(x4_1), (wrap64 (x12_1 + 1)), rs_, rs_, H', ⟨by have := HK1.out; omega⟩, ⟨bk_⟩, ⟨hb_⟩⟩
     ·rw [if_neg c6] at H
      exact absurd H (by simp)
    ·rw [if_neg c5] at H
     exact absurd H (by simp)
   ·rw [if_neg c4] at H
    have c4b0 := decide_eq_false c4
    clear c4
    simp only [Option.some.injEq, Prod.mk.injEq] at H
    obtain ⟨rfl, rfl⟩ := H
    obtain ⟨hcz9_0, hcz9_1, hfz9_0, hfz9_1⟩ := c2_ BK234
    go_wp2
    repeat (go_quiet (fail); try go_wp2)
    go_ret2
    exact ⟨rt_, hb_⟩

/-! ### stockyardref03_wildcards: function 41 -/
def stockyardref03_wildcards.f (k : Nat) (l0_0 : List ByteArray) (a0_1 : Bool) : Option (Int) := (stockyardref03_Kinds.f k l0_0 a0_1).bind fun bt239 => (if bt239.2 = true then (some (wrap64 (bt239.1 + 1))) else (some bt239.1))
set_option maxHeartbeats 8000000 in
set_option maxRecDepth 100000 in
theorem stockyardref03_wildcards.calls (k : Nat) (A0_0 : Option Addr) (c0_0 : Nat) (l0_0 : List ByteArray) (a0_1 : Bool) (r : Int) (w : World) (hr0_0 : Kd.C Kd.string w A0_0 l0_0.length l0_0) (hc0_0 : l0_0.length ≤ c0_0) (h : stockyardref03_wildcards.f k l0_0 a0_1 = some r) :
  Calls Tryd.prog 41 #[.agg #[.slice A0_0 l0_0.length c0_0, .bool a0_1]] w fun e w' => e = .returned (.int .i64 r) ∧ Below w.heap.size w w' := by
 have hu24 := Tryd.underlying24
 have HR0_0 := Aside0.mk hr0_0
 have HC0_0 := Aside0.mk hc0_0
 clear hr0_0 hc0_0
 have HB := Aside0.mk (Below.refl w.heap.size w)
 have H : ((stockyardref03_Kinds.f k l0_0 a0_1).bind fun bt239 => (if bt239.2 = true then (some (wrap64 (bt239.1 + 1))) else (some bt239.1))) = some r := h
 clear h
 replace H := Option.bind_eq_some_iff.mp H
 obtain ⟨⟨t239, t240⟩, A20, H⟩ := H
 replace H : (if t240 = true then (some (wrap64 (t239 + 1))) else (some t239)) = some r := H
 have A2 := Aside0.mk A20
 clear A20
 by_cases c3 : t240 = true
 subst c3
 replace H := ip_ H
 obtain rfl := Option.some.inj H
 go_enter Tryd.func41, Tryd.ntmps41
 rotate_left
 replace c3 := Bool.eq_false_iff.mpr c3
 subst c3
 replace H := in_ H
 obtain rfl := Option.some.inj H
 go_enter Tryd.func41, Tryd.ntmps41
 rotate_left
 all_goals go_wp2_with (first | ((with_reducible refine gate_dst (N := 1) rfl ?_); refine box_event ?hg (N := 1) ?hd (cs := #[.slice A0_0 l0_0.length c0_0, .bool a0_1]) (t := 24) ?hr ?_; (case hd => rfl); (case hg => rfl); (case hr => first | (go_simp; done) | (go_simp; rfl)); intro gb238 hg w7 hbox hb; have BK238 := Aside0.mk hbox; have GW238 := gw_ HB hg; have GE238 := gw_ HB hg; replace HB := hs_ HB hb; clear hb hbox hg; obtain ⟨hcz8_0, hcz8_1, hfz8_0, hfz8_1⟩ := c2_ BK238) | ((with_reducible refine gate_callee (f := 67) rfl ?_); refine goesL_ (some 7) rfl rfl Tryd.func67 (by kernel_rfl) rfl #[.agg #[.slice A0_0 l0_0.length c0_0, .bool a0_1]] rfl gl_ ?_; (with_reducible refine (stockyardref03_Kinds.calls k _ _ l0_0 a0_1 t239 false _ ?side1 ?side2 A2.out).mono ?_); (case side1 => exact sd_); (case side2 => exact HC0_0.out); rintro e w9 ⟨rfl, hb⟩; refine ⟨_, rfl, ?_⟩; replace BK238 := bb_ BK238 hb; replace HB := hs_ HB hb; (try clear hb)) | ((with_reducible refine gate_callee (f := 67) rfl ?_); refine goesL_ (some 7) rfl rfl Tryd.func67 (by kernel_rfl) rfl #[.agg #[.slice A0_0 l0_0.length c0_0, .bool a0_1]] rfl gl_ ?_; (with_reducible refine (stockyardref03_Kinds.calls k _ _ l0_0 a0_1 t239 true _ ?side1 ?side2 A2.out).mono ?_); (case side1 => exact sd_); (case side2 => exact HC0_0.out); rintro e w6 ⟨rfl, hb⟩; refine ⟨_, rfl, ?_⟩; replace BK238 := bb_ BK238 hb; replace HB := hs_ HB hb; (try clear hb)))
 ·go_ret
  exact ⟨rt_, hb_⟩
 ·go_ret
  exact ⟨rt_, hb_⟩

/-! ### stockyardref03_Capture: function 58 -/
def stockyardref03_Capture.f (k : Nat) (a0 : ByteArray) (a1 : ByteArray) : Option (ByteArray × Bool) := (stockyardref03_Star.f k a0).bind fun bt635 => (if bt635.2 = true then ((strings_HasSuffix.f a1 bt635.1).bind fun t637 => (if t637 = true then (if 0 ≤ (wrap64 ((a1.size : Int) - (bt635.1.size : Int))) then (if (wrap64 ((a1.size : Int) - (bt635.1.size : Int))) ≤ (a1.size : Int) then ((stockyardref02_Component.f k (a1.extract 0 ((wrap64 ((a1.size : Int) - (bt635.1.size : Int))) : Int).toNat)).bind fun t638 => (some (a1.extract 0 ((wrap64 ((a1.size : Int) - (bt635.1.size : Int))) : Int).toNat, t638))) else (none)) else (none)) else (some ((⟨#[]⟩ : ByteArray), false)))) else (some ((⟨#[]⟩ : ByteArray), (a0.toList == a1.toList))))
set_option maxHeartbeats 8000000 in
set_option maxRecDepth 100000 in
theorem stockyardref03_Capture.calls (k : Nat) (a0 : ByteArray) (a1 : ByteArray) (r1 : ByteArray) (r2 : Bool) (w : World) (h : stockyardref03_Capture.f k a0 a1 = some (r1, r2)) :
  Calls Tryd.prog 58 #[.string a0, .string a1] w fun e w' => e = .returned (.tuple #[.string r1, .bool r2]) ∧ Drawn0 w w' := by
 have H : ((stockyardref03_Star.f k a0).bind fun bt635 => (if bt635.2 = true then ((strings_HasSuffix.f a1 bt635.1).bind fun t637 => (if t637 = true then (if 0 ≤ (wrap64 ((a1.size : Int) - (bt635.1.size : Int))) then (if (wrap64 ((a1.size : Int) - (bt635.1.size : Int))) ≤ (a1.size : Int) then ((stockyardref02_Component.f k (a1.extract 0 ((wrap64 ((a1.size : Int) - (bt635.1.size : Int))) : Int).toNat)).bind fun t638 => (some (a1.extract 0 ((wrap64 ((a1.size : Int) - (bt635.1.size : Int))) : Int).toNat, t638))) else (none)) else (none)) else (some ((⟨#[]⟩ : ByteArray), false)))) else (some ((⟨#[]⟩ : ByteArray), (a0.toList == a1.toList))))) = some (r1, r2) := h
 clear h
 replace H := Option.bind_eq_some_iff.mp H
 obtain ⟨⟨t635, t636⟩, A30, H⟩ := H
 replace H : (if t636 = true then ((strings_HasSuffix.f a1 t635).bind fun t637 => (if t637 = true then (if 0 ≤ (wrap64 ((a1.size : Int) - (t635.size : Int))) then (if (wrap64 ((a1.size : Int) - (t635.size : Int))) ≤ (a1.size : Int) then ((stockyardref02_Component.f k (a1.extract 0 ((wrap64 ((a1.size : Int) - (t635.size : Int))) : Int).toNat)).bind fun t638 => (some (a1.extract 0 ((wrap64 ((a1.size : Int) - (t635.size : Int))) : Int).toNat, t638))) else (none)) else (none)) else (some ((⟨#[]⟩ : ByteArray), false)))) else (some ((⟨#[]⟩ : ByteArray), (a0.toList == a1.toList)))) = some (r1, r2) := H
 have A3 := Aside0.mk A30
 clear A30
 by_cases c4 : t636 = true
 ·subst c4
  replace H := ip_ H
  replace H := Option.bind_eq_some_iff.mp H
  obtain ⟨t637, A50, H⟩ := H
  replace H : (if t637 = true then (if 0 ≤ (wrap64 ((a1.size : Int) - (t635.size : Int))) then (if (wrap64 ((a1.size : Int) - (t635.size : Int))) ≤ (a1.size : Int) then ((stockyardref02_Component.f k (a1.extract 0 ((wrap64 ((a1.size : Int) - (t635.size : Int))) : Int).toNat)).bind fun t638 => (some (a1.extract 0 ((wrap64 ((a1.size : Int) - (t635.size : Int))) : Int).toNat, t638))) else (none)) else (none)) else (some ((⟨#[]⟩ : ByteArray), false))) = some (r1, r2) := H
  have A5 := Aside0.mk A50
  clear A50
  by_cases c6 : t637 = true
  ·subst c6
   replace H := ip_ H
   obtain ⟨ji7, hji7⟩ : ∃ j_ : Int, (wrap64 ((a1.size : Int) - (t635.size : Int))) = j_ := ⟨_, rfl⟩
   replace H : (if 0 ≤ (ji7) then (if (ji7) ≤ (a1.size : Int) then ((stockyardref02_Component.f k (a1.extract 0 ((ji7) : Int).toNat)).bind fun t638 => (some (a1.extract 0 ((ji7) : Int).toNat, t638))) else (none)) else (none)) = some (r1, r2) := by first | (rw [hji7] at H; exact H) | (simp only [hji7] at H ⊢; exact H)
   (try rw [hji7] at A3)
   (try rw [hji7] at A5)
   have hji7w : (IntKind.i64.wrap ((a1.size : Int) - (t635.size : Int))) = ji7 := (i64_w _).trans hji7
   by_cases c8 : 0 ≤ (ji7)
   ·rw [if_pos c8] at H
    have c8b0 := eq_true c8
    have c8b1 := decide_eq_true c8
    clear c8
    by_cases c9 : (ji7) ≤ (a1.size : Int)
    ·rw [if_pos c9] at H
     have c9b0 := eq_true c9
     have c9b1 := decide_eq_true c9
     clear c9
     replace H := Option.bind_eq_some_iff.mp H
     obtain ⟨t638, A100, H⟩ := H
     replace H : (some (a1.extract 0 ((ji7) : Int).toNat, t638)) = some (r1, r2) := H
     have A10 := Aside0.mk A100
     clear A100
     simp only [Option.some.injEq, Prod.mk.injEq] at H
     obtain ⟨rfl, rfl⟩ := H
     go_enter Tryd.func58, Tryd.ntmps58
     go_wp2_with (first | ((with_reducible refine gate_callee (f := 42) rfl ?_); refine goesL_ (some 11) rfl rfl Tryd.func42 (by kernel_rfl) rfl #[.string a0] rfl gl_ ?_; (with_reducible refine (stockyardref03_Star.calls k a0 t635 true _ A3.out).mono ?_); rintro e w' ⟨rfl, ⟨nd, rfl⟩⟩; refine ⟨_, rfl, ?_⟩) | ((with_reducible refine gate_callee (f := 79) rfl ?_); refine goesL_ (some 21) rfl rfl Tryd.func79 (by kernel_rfl) rfl #[.string a1, .string t635] rfl gl_ ?_; (with_reducible refine (strings_HasSuffix.calls a1 t635 true _ A5.out).mono ?_); rintro e w' ⟨rfl, ⟨nd, rfl⟩⟩; refine ⟨_, rfl, ?_⟩) | ((with_reducible refine gate_callee (f := 66) rfl ?_); refine goesL_ (some 32) rfl rfl Tryd.func66 (by kernel_rfl) rfl #[.string (a1.extract 0 ((ji7) : Int).toNat)] rfl (by (try simp only [List.map_toArray, List.map_cons, List.map_nil]); first | done | (simp only [hji7]; rfl) | rfl | (simp only [List.length_drop, List.length_take]; rfl)) ?_; (with_reducible refine (stockyardref02_Component.calls k (a1.extract 0 ((ji7) : Int).toNat) t638 _ A10.out).mono ?_); rintro e w' ⟨rfl, ⟨nd, rfl⟩⟩; refine ⟨_, rfl, ?_⟩))
     go_ret2
     exact ⟨by first | rfl | (simp; done) | (simp only [← hji7] <;> (first | rfl | simp)) | (simp [*]; done), dr_⟩
    ·rw [if_neg c9] at H
     exact absurd H (by simp)
   ·rw [if_neg c8] at H
    exact absurd H (by simp)
  ·replace c6 := Bool.eq_false_iff.mpr c6
   subst c6
   replace H := in_ H
   simp only [Option.some.injEq, Prod.mk.injEq] at H
   obtain ⟨rfl, rfl⟩ := H
   go_enter Tryd.func58, Tryd.ntmps58
   go_wp2_with (first | ((with_reducible refine gate_callee (f := 42) rfl ?_); refine goesL_ (some 11) rfl rfl Tryd.func42 (by kernel_rfl) rfl #[.string a0] rfl gl_ ?_; (with_reducible refine (stockyardref03_Star.calls k a0 t635 true _ A3.out).mono ?_); rintro e w' ⟨rfl, ⟨nd, rfl⟩⟩; refine ⟨_, rfl, ?_⟩) | ((with_reducible refine gate_callee (f := 79) rfl ?_); refine goesL_ (some 21) rfl rfl Tryd.func79 (by kernel_rfl) rfl #[.string a1, .string t635] rfl gl_ ?_; (with_reducible refine (strings_HasSuffix.calls a1 t635 false _ A5.out).mono ?_); rintro e w' ⟨rfl, ⟨nd, rfl⟩⟩; refine ⟨_, rfl, ?_⟩))
   go_ret2
   exact ⟨by first | rfl | (simp; done) | (simp [*]; done), dr_⟩
 ·replace c4 := Bool.eq_false_iff.mpr c4
  subst c4
  replace H := in_ H
  simp only [Option.some.injEq, Prod.mk.injEq] at H
  obtain ⟨rfl, rfl⟩ := H
  go_enter Tryd.func58, Tryd.ntmps58
  go_wp2_with (first | ((with_reducible refine gate_callee (f := 42) rfl ?_); refine goesL_ (some 11) rfl rfl Tryd.func42 (by kernel_rfl) rfl #[.string a0] rfl gl_ ?_; (with_reducible refine (stockyardref03_Star.calls k a0 t635 false _ A3.out).mono ?_); rintro e w' ⟨rfl, ⟨nd, rfl⟩⟩; refine ⟨_, rfl, ?_⟩))
  go_ret2
  exact ⟨by first | rfl | (simp; done) | (simp [*]; done), dr_⟩

/-! ### stockyardref03_Inside: function 72 -/
def stockyardref03_Inside.f (k : Nat) (a0 : ByteArray) (a1 : ByteArray) : Option (Bool) := (stockyardref03_Star.f k a0).bind fun bt639 => ((stockyardref03_Star.f k a1).bind fun bt641 => (if bt641.2 = true then (if bt639.2 = true then ((strings_HasSuffix.f bt639.1 bt641.1).bind fun t643 => (some t643)) else ((stockyardref03_Capture.f k a1 a0).bind fun bt644 => (some bt644.2))) else (some (a0.toList == a1.toList))))
set_option maxHeartbeats 8000000 in
set_option maxRecDepth 100000 in
theorem stockyardref03_Inside.calls (k : Nat) (a0 : ByteArray) (a1 : ByteArray) (r : Bool) (w : World) (h : stockyardref03_Inside.f k a0 a1 = some r) :
  Calls Tryd.prog 72 #[.string a0, .string a1] w fun e w' => e = .returned (.bool r) ∧ Drawn0 w w' := by
 have H : ((stockyardref03_Star.f k a0).bind fun bt639 => ((stockyardref03_Star.f k a1).bind fun bt641 => (if bt641.2 = true then (if bt639.2 = true then ((strings_HasSuffix.f bt639.1 bt641.1).bind fun t643 => (some t643)) else ((stockyardref03_Capture.f k a1 a0).bind fun bt644 => (some bt644.2))) else (some (a0.toList == a1.toList))))) = some r := h
 clear h
 replace H := Option.bind_eq_some_iff.mp H
 obtain ⟨⟨t639, t640⟩, A30, H⟩ := H
 replace H : ((stockyardref03_Star.f k a1).bind fun bt641 => (if bt641.2 = true then (if t640 = true then ((strings_HasSuffix.f t639 bt641.1).bind fun t643 => (some t643)) else ((stockyardref03_Capture.f k a1 a0).bind fun bt644 => (some bt644.2))) else (some (a0.toList == a1.toList)))) = some r := H
 have A3 := Aside0.mk A30
 clear A30
 replace H := Option.bind_eq_some_iff.mp H
 obtain ⟨⟨t641, t642⟩, A40, H⟩ := H
 replace H : (if t642 = true then (if t640 = true then ((strings_HasSuffix.f t639 t641).bind fun t643 => (some t643)) else ((stockyardref03_Capture.f k a1 a0).bind fun bt644 => (some bt644.2))) else (some (a0.toList == a1.toList))) = some r := H
 have A4 := Aside0.mk A40
 clear A40
 by_cases c5 : t642 = true
 subst c5
 replace H := ip_ H
 by_cases c6 : t640 = true
 subst c6
 replace H := ip_ H
 replace H := Option.bind_eq_some_iff.mp H
 obtain ⟨t643, A70, H⟩ := H
 replace H : (some t643) = some r := H
 have A7 := Aside0.mk A70
 clear A70
 obtain rfl := Option.some.inj H
 go_enter Tryd.func72, Tryd.ntmps72
 rotate_left
 replace c6 := Bool.eq_false_iff.mpr c6
 subst c6
 replace H := in_ H
 replace H := Option.bind_eq_some_iff.mp H
 obtain ⟨⟨t644, t645⟩, A80, H⟩ := H
 replace H : (some t645) = some r := H
 have A8 := Aside0.mk A80
 clear A80
 obtain rfl := Option.some.inj H
 go_enter Tryd.func72, Tryd.ntmps72
 rotate_left
 replace c5 := Bool.eq_false_iff.mpr c5
 subst c5
 replace H := in_ H
 obtain rfl := Option.some.inj H
 go_enter Tryd.func72, Tryd.ntmps72
 rotate_left
 all_goals go_wp2_with (first | ((with_reducible refine gate_callee (f := 42) rfl ?_); refine goesL_ (some 13) rfl rfl Tryd.func42 (by kernel_rfl) rfl #[.string a0] rfl gl_ ?_; (with_reducible refine (stockyardref03_Star.calls k a0 t639 false _ A3.out).mono ?_); rintro e w' ⟨rfl, ⟨nd, rfl⟩⟩; refine ⟨_, rfl, ?_⟩) | ((with_reducible refine gate_callee (f := 42) rfl ?_); refine goesL_ (some 18) rfl rfl Tryd.func42 (by kernel_rfl) rfl #[.string a1] rfl gl_ ?_; (with_reducible refine (stockyardref03_Star.calls k a1 t641 true _ A4.out).mono ?_); rintro e w' ⟨rfl, ⟨nd, rfl⟩⟩; refine ⟨_, rfl, ?_⟩) | ((with_reducible refine gate_callee (f := 58) rfl ?_); refine goesL_ (some 35) rfl rfl Tryd.func58 (by kernel_rfl) rfl #[.string a1, .string a0] rfl gl_ ?_; (with_reducible refine (stockyardref03_Capture.calls k a1 a0 t644 t645 _ A8.out).mono ?_); rintro e w' ⟨rfl, ⟨nd, rfl⟩⟩; refine ⟨_, rfl, ?_⟩) | ((with_reducible refine gate_callee (f := 42) rfl ?_); refine goesL_ (some 13) rfl rfl Tryd.func42 (by kernel_rfl) rfl #[.string a0] rfl gl_ ?_; (with_reducible refine (stockyardref03_Star.calls k a0 t639 true _ A3.out).mono ?_); rintro e w' ⟨rfl, ⟨nd, rfl⟩⟩; refine ⟨_, rfl, ?_⟩) | ((with_reducible refine gate_callee (f := 79) rfl ?_); refine goesL_ (some 31) rfl rfl Tryd.func79 (by kernel_rfl) rfl #[.string t639, .string t641] rfl gl_ ?_; (with_reducible refine (strings_HasSuffix.calls t639 t641 t643 _ A7.out).mono ?_); rintro e w' ⟨rfl, ⟨nd, rfl⟩⟩; refine ⟨_, rfl, ?_⟩) | ((with_reducible refine gate_callee (f := 42) rfl ?_); refine goesL_ (some 13) rfl rfl Tryd.func42 (by kernel_rfl) rfl #[.string a0] rfl gl_ ?_; (with_reducible refine (stockyardref03_Star.calls k a0 t639 t640 _ A3.out).mono ?_); rintro e w' ⟨rfl, ⟨nd, rfl⟩⟩; refine ⟨_, rfl, ?_⟩) | ((with_reducible refine gate_callee (f := 42) rfl ?_); refine goesL_ (some 18) rfl rfl Tryd.func42 (by kernel_rfl) rfl #[.string a1] rfl gl_ ?_; (with_reducible refine (stockyardref03_Star.calls k a1 t641 false _ A4.out).mono ?_); rintro e w' ⟨rfl, ⟨nd, rfl⟩⟩; refine ⟨_, rfl, ?_⟩))
 ·go_ret
  exact ⟨by first | rfl | (simp; done) | (simp [*]; done), dr_⟩
 ·go_ret
  exact ⟨by first | rfl | (simp; done) | (simp [*]; done), dr_⟩
 ·go_ret
  exact ⟨by first | rfl | (simp; done) | (simp [*]; done), dr_⟩

end Go.Proofs.YthclkdplihchjaaDoor.P

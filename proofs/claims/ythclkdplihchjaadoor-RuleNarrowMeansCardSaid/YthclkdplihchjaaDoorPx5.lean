-- Written by a program of this session (wip/gen.py) over the kit's print: each Go function as a plain Lean function, and the proof that the Go code comes to it. Nothing here is trusted: Lean checks it.
import Derived.Test.YthclkdplihchjaaDoorPx0
import Derived.Test.YthclkdplihchjaaDoorPx1
import Derived.Test.YthclkdplihchjaaDoorPx4
import Derived.Test.YthclkdplihchjaaDoorSq
namespace Go.Proofs.YthclkdplihchjaaDoor.P
open Go.RowKit Go.Proofs.YthclkdplihchjaaDoorW.PrintWords Go.Proofs.YthclkdplihchjaaDoorW.PrintLast Go.Proofs.YthclkdplihchjaaDoorW.PrintMore
attribute [local go_sem] str_gtr str_leq str_geq max2_int min2_int max_two min_two max_three min_three max_four min_four   -- for this text's walks alone
set_option linter.unusedVariables false
set_option linter.unusedSimpArgs false

/-! ### stockyardref02_Parts: function 88 -/
def stockyardref02_Parts.l0 : Nat → List ByteArray → List ByteArray → Int → Int → Option (List ByteArray × Bool)
  | 0, _, _, _, _ => none
  | k + 1, x4, x13, x14, x15 => if x15 < x14 then (if 0 ≤ x15 then (if x15 < (x13.length : Int) then ((stockyardref02_Component.f k (rdOf ByteArray.empty x13 x15)).bind fun t877 => (if t877 = true then (stockyardref02_Parts.l0 k x4 x13 x14 (wrap64 (x15 + 1))) else (some (([] : List ByteArray), false)))) else (none)) else (none)) else (some (x4, true))
def stockyardref02_Parts.f (k : Nat) (a0 : ByteArray) : Option (List ByteArray × Bool) := (strings_HasPrefix.f a0 (⟨#[47, 47]⟩ : ByteArray)).bind fun t872 => (if t872 = true then (if 2 ≤ (a0.size : Int) then ((strings_Split.f (a0.extract 2 a0.size) (⟨#[47]⟩ : ByteArray)).bind fun t873 => (stockyardref02_Parts.l0 k t873 t873 (t873.length : Int) 0)) else (none)) else (some (([] : List ByteArray), false)))
set_option maxHeartbeats 8000000 in
set_option maxRecDepth 100000 in
theorem stockyardref02_Parts.calls (k : Nat) (a0 : ByteArray) (r1 : List ByteArray) (r2 : Bool) (w : World) (h : stockyardref02_Parts.f k a0 = some (r1, r2)) :
  Calls Tryd.prog 88 #[.string a0] w fun e w' => ∃ v0_ : Value, e = .returned (.tuple #[v0_, .bool r2]) ∧ Kd.R Kd.string 9 w' w.heap.size (fun _ => True) v0_ r1 ∧ Below w.heap.size w w' := by
 have HB := Aside0.mk (Below.refl w.heap.size w)
 have H : ((strings_HasPrefix.f a0 (⟨#[47, 47]⟩ : ByteArray)).bind fun t872 => (if t872 = true then (if 2 ≤ (a0.size : Int) then ((strings_Split.f (a0.extract 2 a0.size) (⟨#[47]⟩ : ByteArray)).bind fun t873 => (stockyardref02_Parts.l0 k t873 t873 (t873.length : Int) 0)) else (none)) else (some (([] : List ByteArray), false)))) = some (r1, r2) := h
 clear h
 replace H := Option.bind_eq_some_iff.mp H
 obtain ⟨t872, A20, H⟩ := H
 replace H : (if t872 = true then (if 2 ≤ (a0.size : Int) then ((strings_Split.f (a0.extract 2 a0.size) (⟨#[47]⟩ : ByteArray)).bind fun t873 => (stockyardref02_Parts.l0 k t873 t873 (t873.length : Int) 0)) else (none)) else (some (([] : List ByteArray), false))) = some (r1, r2) := H
 have A2 := Aside0.mk A20
 clear A20
 by_cases c3 : t872 = true
 ·subst c3
  replace H := ip_ H
  by_cases c4 : 2 ≤ (a0.size : Int)
  ·rw [if_pos c4] at H
   have c4b0 := eq_true c4
   have c4b1 := decide_eq_true c4
   clear c4
   replace H := Option.bind_eq_some_iff.mp H
   obtain ⟨t873, A50, H⟩ := H
   replace H : (stockyardref02_Parts.l0 k t873 t873 (t873.length : Int) 0) = some (r1, r2) := H
   have A5 := Aside0.mk A50
   clear A50
   have H' := Aside0.mk H
   clear H
   go_enter Tryd.func88, Tryd.ntmps88
   go_wp2_with (first | ((with_reducible refine gate_callee (f := 55) rfl ?_); refine goesL_ (some 8) rfl rfl Tryd.func55 (by kernel_rfl) rfl #[.string a0, .string (⟨#[47, 47]⟩ : ByteArray)] rfl gl_ ?_; (with_reducible refine (strings_HasPrefix.calls a0 (⟨#[47, 47]⟩ : ByteArray) true _ A2.out).mono ?_); rintro e w' ⟨rfl, ⟨nd, rfl⟩⟩; refine ⟨_, rfl, ?_⟩) | ((with_reducible refine gate_callee (f := 61) rfl ?_); refine goesL_ (some 12) rfl rfl Tryd.func61 (by kernel_rfl) rfl #[.string (a0.extract 2 a0.size), .string (⟨#[47]⟩ : ByteArray)] rfl gl_ ?_; (with_reducible refine (strings_Split.calls (a0.extract 2 a0.size) (⟨#[47]⟩ : ByteArray) t873 _ A5.out).mono ?_); rintro e w6 ⟨v874, rfl, ho0, hb⟩; refine ⟨_, rfl, ?_⟩; have n0_ := Aside0.mk (Kd.R_lower ho0 (below_size hb_)); replace HB := hs_ HB hb; have HO875 := n0_; clear n0_; (try clear hb); (try clear ho0); obtain ⟨Ao7, co7, eo7⟩ := Kd.R_slice HO875.out; subst eo7))
   go_loopg [15] k (fun kq v15 w' => ∃ (x15_1 : Int), v15 = .int .i64 x15_1 ∧ Aside0 (stockyardref02_Parts.l0 kq t873 t873 (t873.length : Int) x15_1 = some (r1, r2)) ∧ Aside0 (kq ≤ k) ∧ Aside0 (Kd.R Kd.string 9 w' w.heap.size (fun _ => True) (.slice Ao7 t873.length co7) t873) ∧ Aside0 (Kd.R Kd.string 9 w' w.heap.size (fun _ => True) (.slice Ao7 t873.length co7) t873) ∧ Aside0 (Below w.heap.size w w'))
   case atStart => exact ⟨(0), rs_, H', ⟨Nat.le_refl _⟩, ⟨by (with_reducible repeat (first | apply Kd.R_alloc | apply Kd.R_drewN | apply Kd.R_drew)); exact HO875.out⟩, ⟨by (with_reducible repeat (first | apply Kd.R_alloc | apply Kd.R_drewN | apply Kd.R_drew)); exact HO875.out⟩, ⟨hb_⟩⟩
   case round =>
    clear H'
    (try clear c3); (try clear c4); (try clear c4b0); (try clear c4b1)
    obtain ⟨x15_1, rfl, HA, HK1, HO_4, HO_13, HB⟩ := hrel
    cases gk with
    | zero => exact absurd HA.out (by simp [stockyardref02_Parts.l0])
    | succ k1 =>
     have H := HA.out
     clear HA
     simp only [stockyardref02_Parts.l0] at H
     by_cases c8 : x15_1 < (t873.length : Int)
     ·rw [if_pos c8] at H
      have c8b0 := decide_eq_true c8
      clear c8
      by_cases c9 : 0 ≤ x15_1
      ·rw [if_pos c9] at H
       have c9b0 := decide_eq_true c9
       clear c9
       by_cases c10 : x15_1 < (t873.length : Int)
       ·rw [if_pos c10] at H
        have c10b0 := decide_eq_true c10
        clear c10
        replace H := Option.bind_eq_some_iff.mp H
        obtain ⟨t877, A110, H⟩ := H
        replace H : (if t877 = true then (stockyardref02_Parts.l0 k1 t873 t873 (t873.length : Int) (wrap64 (x15_1 + 1))) else (some (([] : List ByteArray), false))) = some (r1, r2) := H
        have A11 := Aside0.mk A110
        clear A110
        by_cases c12 : t877 = true
        ·subst c12
         replace H := ip_ H
         have H' := Aside0.mk H
         clear H
         have p876 : 0 ≤ (x15_1 : Int) := of_decide_eq_true as_
         have q876 : x15_1 < (t873.length : Int) := of_decide_eq_true as_
         obtain ⟨ad876, e876, hx876_0⟩ := Kd.at_string (Kd.R_reads' HO_13.out).2.2 x15_1 p876 q876
         cases e876
         replace p876 := eq_true p876
         replace q876 := eq_true q876
         go_wp2_with (first | ((with_reducible refine gate_callee (f := 66) rfl ?_); refine goesL_ (some 20) rfl rfl Tryd.func66 (by kernel_rfl) rfl #[.string (rdOf ByteArray.empty t873 x15_1)] rfl gl_ ?_; (with_reducible refine (stockyardref02_Component.calls k1 (rdOf ByteArray.empty t873 x15_1) true _ A11.out).mono ?_); rintro e w' ⟨rfl, ⟨nd, rfl⟩⟩; refine ⟨_, rfl, ?_⟩))
         go_roundg k1
         case measure => have := HK1.out; omega
         case rel => exact ⟨(wrap64 (x15_1 + 1)), rs_, H', ⟨by have := HK1.out; omega⟩, ⟨by (with_reducible repeat (first | apply Kd.R_alloc | apply Kd.R_drewN | apply Kd.R_drew)); exact HO_4.out⟩, ⟨by (with_reducible repeat (first | apply Kd.R_alloc | apply Kd.R_drewN | apply Kd.R_drew)); exact HO_13.out⟩, ⟨hb_⟩⟩
        ·replace c12 := Bool.eq_false_iff.mpr c12
         subst c12
         replace H := in_ H
         simp only [Option.some.injEq, Prod.mk.injEq] at H
         obtain ⟨rfl, rfl⟩ := H
         have p876 : 0 ≤ (x15_1 : Int) := of_decide_eq_true as_
         have q876 : x15_1 < (t873.length : Int) := of_decide_eq_true as_
         obtain ⟨ad876, e876, hx876_0⟩ := Kd.at_string (Kd.R_reads' HO_13.out).2.2 x15_1 p876 q876
         cases e876
         replace p876 := eq_true p876
         replace q876 := eq_true q876
         go_wp2_with (first | ((with_reducible refine gate_callee (f := 66) rfl ?_); refine goesL_ (some 20) rfl rfl Tryd.func66 (by kernel_rfl) rfl #[.string (rdOf ByteArray.empty t873 x15_1)] rfl gl_ ?_; (with_reducible refine (stockyardref02_Component.calls k1 (rdOf ByteArray.empty t873 x15_1) false _ A11.out).mono ?_); rintro e w' ⟨rfl, ⟨nd, rfl⟩⟩; refine ⟨_, rfl, ?_⟩))
         go_ret2
         exact ⟨_, rt_, rn_, hb_⟩
       ·rw [if_neg c10] at H
        exact absurd H (by simp)
      ·rw [if_neg c9] at H
       exact absurd H (by simp)
     ·rw [if_neg c8] at H
      have c8b0 := decide_eq_false c8
      clear c8
      simp only [Option.some.injEq, Prod.mk.injEq] at H
      obtain ⟨rfl, rfl⟩ := H
      go_wp2
      go_ret2
      exact ⟨_, rt_, by (with_reducible repeat (first | apply Kd.R_alloc | apply Kd.R_drewN | apply Kd.R_drew)); exact HO_4.out, hb_⟩
  ·rw [if_neg c4] at H
   exact absurd H (by simp)
 ·replace c3 := Bool.eq_false_iff.mpr c3
  subst c3
  replace H := in_ H
  simp only [Option.some.injEq, Prod.mk.injEq] at H
  obtain ⟨rfl, rfl⟩ := H
  go_enter Tryd.func88, Tryd.ntmps88
  go_wp2_with (first | ((with_reducible refine gate_callee (f := 55) rfl ?_); refine goesL_ (some 8) rfl rfl Tryd.func55 (by kernel_rfl) rfl #[.string a0, .string (⟨#[47, 47]⟩ : ByteArray)] rfl gl_ ?_; (with_reducible refine (strings_HasPrefix.calls a0 (⟨#[47, 47]⟩ : ByteArray) false _ A2.out).mono ?_); rintro e w' ⟨rfl, ⟨nd, rfl⟩⟩; refine ⟨_, rfl, ?_⟩))
  go_ret2
  exact ⟨_, rt_, rn_, hb_⟩

/-! ### stockyardref02_Path: function 74 -/
def stockyardref02_Path.f (k : Nat) (a0 : ByteArray) : Option (List ByteArray × Bool) := (stockyardref02_Parts.f k a0).bind fun bt878 => (if bt878.2 = true then (if (bt878.1.length : Int) < 2 then (some (([] : List ByteArray), false)) else (some (bt878.1, true))) else (some (([] : List ByteArray), false)))
set_option maxHeartbeats 8000000 in
set_option maxRecDepth 100000 in
theorem stockyardref02_Path.calls (k : Nat) (a0 : ByteArray) (r1 : List ByteArray) (r2 : Bool) (w : World) (h : stockyardref02_Path.f k a0 = some (r1, r2)) :
  Calls Tryd.prog 74 #[.string a0] w fun e w' => ∃ v0_ : Value, e = .returned (.tuple #[v0_, .bool r2]) ∧ Kd.R Kd.string 9 w' w.heap.size (fun _ => True) v0_ r1 ∧ Below w.heap.size w w' := by
 have HB := Aside0.mk (Below.refl w.heap.size w)
 have H : ((stockyardref02_Parts.f k a0).bind fun bt878 => (if bt878.2 = true then (if (bt878.1.length : Int) < 2 then (some (([] : List ByteArray), false)) else (some (bt878.1, true))) else (some (([] : List ByteArray), false)))) = some (r1, r2) := h
 clear h
 replace H := Option.bind_eq_some_iff.mp H
 obtain ⟨⟨t878, t879⟩, A20, H⟩ := H
 replace H : (if t879 = true then (if (t878.length : Int) < 2 then (some (([] : List ByteArray), false)) else (some (t878, true))) else (some (([] : List ByteArray), false))) = some (r1, r2) := H
 have A2 := Aside0.mk A20
 clear A20
 by_cases c3 : t879 = true
 subst c3
 replace H := ip_ H
 by_cases c4 : (t878.length : Int) < 2
 rw [if_pos c4] at H
 have c4b0 := decide_eq_true c4
 have c4b1 : decide (t878.length < 2) = true := decide_eq_true (by omega)
 clear c4
 simp only [Option.some.injEq, Prod.mk.injEq] at H
 obtain ⟨rfl, rfl⟩ := H
 go_enter Tryd.func74, Tryd.ntmps74
 rotate_left
 rw [if_neg c4] at H
 have c4b0 := decide_eq_false c4
 have c4b1 : decide (t878.length < 2) = false := decide_eq_false (by omega)
 clear c4
 simp only [Option.some.injEq, Prod.mk.injEq] at H
 obtain ⟨rfl, rfl⟩ := H
 go_enter Tryd.func74, Tryd.ntmps74
 rotate_left
 replace c3 := Bool.eq_false_iff.mpr c3
 subst c3
 replace H := in_ H
 simp only [Option.some.injEq, Prod.mk.injEq] at H
 obtain ⟨rfl, rfl⟩ := H
 go_enter Tryd.func74, Tryd.ntmps74
 rotate_left
 all_goals go_wp2_with (first | ((with_reducible refine gate_callee (f := 88) rfl ?_); refine goesL_ (some 8) rfl rfl Tryd.func88 (by kernel_rfl) rfl #[.string a0] rfl gl_ ?_; (with_reducible refine (stockyardref02_Parts.calls k a0 t878 true _ A2.out).mono ?_); rintro e w5 ⟨v880, rfl, ho0, hb⟩; refine ⟨_, rfl, ?_⟩; have n0_ := Aside0.mk (Kd.R_lower ho0 (below_size hb_)); replace HB := hs_ HB hb; have HO881 := n0_; clear n0_; (try clear hb); (try clear ho0); obtain ⟨Ao6, co6, eo6⟩ := Kd.R_slice HO881.out; subst eo6) | ((with_reducible refine gate_callee (f := 88) rfl ?_); refine goesL_ (some 8) rfl rfl Tryd.func88 (by kernel_rfl) rfl #[.string a0] rfl gl_ ?_; (with_reducible refine (stockyardref02_Parts.calls k a0 t878 false _ A2.out).mono ?_); rintro e w9 ⟨v880, rfl, ho0, hb⟩; refine ⟨_, rfl, ?_⟩; have n0_ := Aside0.mk (Kd.R_lower ho0 (below_size hb_)); replace HB := hs_ HB hb; have HO881 := n0_; clear n0_; (try clear hb); (try clear ho0)))
 ·go_ret2
  exact ⟨_, rt_, rn_, hb_⟩
 ·go_ret2
  exact ⟨_, rt_, by (with_reducible repeat (first | apply Kd.R_alloc | apply Kd.R_drewN | apply Kd.R_drew)); exact HO881.out, hb_⟩
 ·go_ret2
  exact ⟨_, rt_, rn_, hb_⟩

/-! ### stockyardref03_Match: function 52 -/
mutual
def stockyardref03_Match.j0 : Nat → List ByteArray → Int → Bool → List ByteArray → Bool → Option (List ByteArray × Bool)
  | 0, _, _, _, _, _ => none
  | k + 1, x6, x8, x57, x883000, x883001 => if x57 = true then (some (([] : List ByteArray), false)) else (stockyardref03_Match.l0 k x6 x8 ([] : List ByteArray) x883000 (x883000.length : Int) 0 x883000 x883001)
def stockyardref03_Match.l0 : Nat → List ByteArray → Int → List ByteArray → List ByteArray → Int → Int → List ByteArray → Bool → Option (List ByteArray × Bool)
  | 0, _, _, _, _, _, _, _, _ => none
  | k + 1, x6, x8, x9, x59, x60, x61, x883000, x883001 => if x61 < x60 then (if 0 ≤ x61 then (if x61 < (x59.length : Int) then (if x61 < (x6.length : Int) then ((stockyardref03_Capture.f k (rdOf ByteArray.empty x59 x61) (rdOf ByteArray.empty x6 x61)).bind fun bt898 => (if bt898.2 = true then ((stockyardref03_Star.f k (rdOf ByteArray.empty x59 x61)).bind fun bt900 => (if bt900.2 = true then (if x9.length < 8796093022208 then (stockyardref03_Match.l0 k x6 x8 (x9 ++ [bt898.1]) x59 x60 (wrap64 (x61 + 1)) x883000 x883001) else (none)) else (stockyardref03_Match.l0 k x6 x8 x9 x59 x60 (wrap64 (x61 + 1)) x883000 x883001))) else (some (([] : List ByteArray), false)))) else (none)) else (none)) else (none)) else (if x883001 = true then (if 0 ≤ x8 then (if x8 ≤ (x6.length : Int) then ((strings_Join.f (x6.drop (x8 : Int).toNat) (⟨#[47]⟩ : ByteArray)).bind fun t892 => (if x9.length < 8796093022208 then (some ((x9 ++ [t892]), true)) else (none))) else (none)) else (none)) else (some (x9, true)))
end
def stockyardref03_Match.f (k : Nat) (l0_0 : List ByteArray) (a0_1 : Bool) (a1 : ByteArray) : Option (List ByteArray × Bool) := (stockyardref02_Path.f k a1).bind fun bt883 => ((stockyardref03_Check.f k l0_0 a0_1).bind fun t887 => (if t887 = 0 then (if bt883.2 = true then (if (bt883.1.length : Int) < (l0_0.length : Int) then (stockyardref03_Match.j0 k bt883.1 (l0_0.length : Int) true l0_0 a0_1) else (if a0_1 = true then (stockyardref03_Match.j0 k bt883.1 (l0_0.length : Int) ((bt883.1.length : Int) == (l0_0.length : Int)) l0_0 a0_1) else (if (bt883.1.length : Int) > (l0_0.length : Int) then (stockyardref03_Match.j0 k bt883.1 (l0_0.length : Int) true l0_0 a0_1) else (stockyardref03_Match.j0 k bt883.1 (l0_0.length : Int) false l0_0 a0_1)))) else (stockyardref03_Match.j0 k bt883.1 (l0_0.length : Int) true l0_0 a0_1)) else (stockyardref03_Match.j0 k bt883.1 (l0_0.length : Int) true l0_0 a0_1)))
set_option maxHeartbeats 8000000 in
set_option maxRecDepth 100000 in
theorem stockyardref03_Match.calls (k : Nat) (A0_0 : Option Addr) (c0_0 : Nat) (l0_0 : List ByteArray) (a0_1 : Bool) (a1 : ByteArray) (r1 : List ByteArray) (r2 : Bool) (w : World) (hr0_0 : Kd.C Kd.string w A0_0 l0_0.length l0_0) (hc0_0 : l0_0.length ≤ c0_0) (h : stockyardref03_Match.f k l0_0 a0_1 a1 = some (r1, r2)) :
    Calls Tryd.prog 52 #[.agg #[.slice A0_0 l0_0.length c0_0, .bool a0_1], .string a1] w fun e w' => ∃ v0_ : Value, e = .returned (.tuple #[v0_, .bool r2]) ∧ Kd.R Kd.string 9 w' w.heap.size (fun _ => True) v0_ r1 ∧ Below w.heap.size w w' := by
  have hu24 := Tryd.underlying24
  have HR0_0 := Aside0.mk hr0_0
  have HC0_0 := Aside0.mk hc0_0
  clear hr0_0 hc0_0
  have HB := Aside0.mk (Below.refl w.heap.size w)
  have H : ((stockyardref02_Path.f k a1).bind fun bt883 => ((stockyardref03_Check.f k l0_0 a0_1).bind fun t887 => (if t887 = 0 then (if bt883.2 = true then (if (bt883.1.length : Int) < (l0_0.length : Int) then (stockyardref03_Match.j0 k bt883.1 (l0_0.length : Int) true l0_0 a0_1) else (if a0_1 = true then (stockyardref03_Match.j0 k bt883.1 (l0_0.length : Int) ((bt883.1.length : Int) == (l0_0.length : Int)) l0_0 a0_1) else (if (bt883.1.length : Int) > (l0_0.length : Int) then (stockyardref03_Match.j0 k bt883.1 (l0_0.length : Int) true l0_0 a0_1) else (stockyardref03_Match.j0 k bt883.1 (l0_0.length : Int) false l0_0 a0_1)))) else (stockyardref03_Match.j0 k bt883.1 (l0_0.length : Int) true l0_0 a0_1)) else (stockyardref03_Match.j0 k bt883.1 (l0_0.length : Int) true l0_0 a0_1)))) = some (r1, r2) := h
  clear h
  replace H := Option.bind_eq_some_iff.mp H
  obtain ⟨⟨t883, t884⟩, A30, H⟩ := H
  replace H : ((stockyardref03_Check.f k l0_0 a0_1).bind fun t887 => (if t887 = 0 then (if t884 = true then (if (t883.length : Int) < (l0_0.length : Int) then (stockyardref03_Match.j0 k t883 (l0_0.length : Int) true l0_0 a0_1) else (if a0_1 = true then (stockyardref03_Match.j0 k t883 (l0_0.length : Int) ((t883.length : Int) == (l0_0.length : Int)) l0_0 a0_1) else (if (t883.length : Int) > (l0_0.length : Int) then (stockyardref03_Match.j0 k t883 (l0_0.length : Int) true l0_0 a0_1) else (stockyardref03_Match.j0 k t883 (l0_0.length : Int) false l0_0 a0_1)))) else (stockyardref03_Match.j0 k t883 (l0_0.length : Int) true l0_0 a0_1)) else (stockyardref03_Match.j0 k t883 (l0_0.length : Int) true l0_0 a0_1))) = some (r1, r2) := H
  have A3 := Aside0.mk A30
  clear A30
  have HC4 := Aside0.mk H
  clear H
  go_enter Tryd.func52, Tryd.ntmps52
  go_upto_region 3 with (first | ((with_reducible refine gate_dst (N := 2) rfl ?_); (try (refine gate_guard (by rfl) ?_; dsimp only)); refine box_event ?hg (N := 2) ?hd (cs := #[.slice A0_0 l0_0.length c0_0, .bool a0_1]) (t := 24) ?hr ?_; (case hd => rfl); (case hg => rfl); (case hr => first | (go_simp; done) | (go_simp; rfl)); intro gb882 hg w5 hbox hb; have n0_ := Aside0.mk (below_step (by repeat (first | (with_reducible first | exact HB.out | apply below_alloc | apply pw_below_drewN | apply below_drew1) | exact HB.out)) hb); have n1_ := Aside0.mk (hbox); have n2_ := Aside0.mk ((by rw [hg]; exact (below_size (by repeat (first | (with_reducible first | exact HB.out | apply below_alloc | apply pw_below_drewN | apply below_drew1) | exact HB.out))) : w.heap.size ≤ gb882)); have n3_ := Aside0.mk ((by rw [hg]; exact (below_size (by repeat (first | (with_reducible first | exact HB.out | apply below_alloc | apply pw_below_drewN | apply below_drew1) | exact HB.out))) : w.heap.size ≤ gb882)); clear HB; have HB := n0_; have BK882 := n1_; have GW882 := n2_; have GE882 := n3_; clear n0_ n1_ n2_ n3_; clear hb hbox hg) | ((with_reducible refine gate_callee (f := 74) rfl ?_); refine goesL_ (some 18) rfl rfl Tryd.func74 (by kernel_rfl) rfl #[.string a1] rfl (by (try simp only [List.map_toArray, List.map_cons, List.map_nil]); first | done | rfl | (simp only [List.length_drop, List.length_take]; rfl)) ?_; (with_reducible refine (stockyardref02_Path.calls k a1 t883 t884 _ A3.out).mono ?_); rintro e w6 ⟨v885, rfl, ho0, hb⟩; refine ⟨_, rfl, ?_⟩; have n0_ := Aside0.mk (Kd.R_lower ho0 (below_size (by repeat (first | (with_reducible first | exact HB.out | apply below_alloc | apply pw_below_drewN | apply below_drew1 | refine below_set ?_ GE882.out) | exact HB.out)))); have n1_ := Aside0.mk (blk_below (g := gb882) (o := .cells #[.slice A0_0 l0_0.length c0_0, .bool a0_1] 24 (0, 0)) (by (with_reducible repeat (first | refine blk_drewN ?_ _ | refine blk_drew ?_ | refine blk_alloc ?_ _)); exact BK882.out) hb); have n2_ := Aside0.mk (below_step (by repeat (first | (with_reducible first | exact HB.out | apply below_alloc | apply pw_below_drewN | apply below_drew1 | refine below_set ?_ GE882.out) | exact HB.out)) hb); clear BK882; clear HB; have HO886 := n0_; have BK882 := n1_; have HB := n2_; clear n0_ n1_ n2_; (try clear hb); (try clear hb2); (try clear hk); (try clear hi); (try clear ho0); have hcz7_0 : w6.cell? ⟨gb882, 0, none⟩ = some (.slice A0_0 l0_0.length c0_0) := (blk_cell BK882.out 0).trans rfl; have hcz7_1 : w6.cell? ⟨gb882, 1, none⟩ = some (.bool a0_1) := (blk_cell BK882.out 1).trans rfl; have hfz7_0 := blk_frozen BK882.out 0; have hfz7_1 := blk_frozen BK882.out 1))
  (try simp only [Act.put, List.setIfInBounds_toArray, List.set_cons_zero, List.set_cons_succ])
  go_cut [57] (fun v57 wc => ∃ (kq : Nat) (x57_3 : Bool), v57 = .bool x57_3 ∧ Aside0 (stockyardref03_Match.j0 kq t883 (l0_0.length : Int) x57_3 l0_0 a0_1 = some (r1, r2)) ∧ Aside0 (kq ≤ k) ∧ Aside0 (Kd.R Kd.string 9 wc w.heap.size (fun _ => True) v885 t883) ∧ Aside0 (wc.heap[gb882]? = some (.cells #[(.slice A0_0 l0_0.length c0_0), .bool a0_1] 24 (0, 0))) ∧ Aside0 (Below w.heap.size w wc))
  case first =>
    have H := HC4.out
    clear HC4
    replace H := Option.bind_eq_some_iff.mp H
    obtain ⟨t887, A80, H⟩ := H
    replace H : (if t887 = 0 then (if t884 = true then (if (t883.length : Int) < (l0_0.length : Int) then (stockyardref03_Match.j0 k t883 (l0_0.length : Int) true l0_0 a0_1) else (if a0_1 = true then (stockyardref03_Match.j0 k t883 (l0_0.length : Int) ((t883.length : Int) == (l0_0.length : Int)) l0_0 a0_1) else (if (t883.length : Int) > (l0_0.length : Int) then (stockyardref03_Match.j0 k t883 (l0_0.length : Int) true l0_0 a0_1) else (stockyardref03_Match.j0 k t883 (l0_0.length : Int) false l0_0 a0_1)))) else (stockyardref03_Match.j0 k t883 (l0_0.length : Int) true l0_0 a0_1)) else (stockyardref03_Match.j0 k t883 (l0_0.length : Int) true l0_0 a0_1)) = some (r1, r2) := H
    have A8 := Aside0.mk A80
    clear A80
    by_cases c9 : t887 = 0
    · rw [if_pos c9] at H
      have c9b0 : (t887 == 0) = true := beq_iff_eq.mpr c9
      have c9b1 : (t887 != 0) = false := bne_eq_false_iff_eq.mpr c9
      clear c9
      (first | rw [c9b0] | (simp only [i64_w, i32_w]; rw [c9b0]) | skip)
      by_cases c10 : t884 = true
      · subst c10
        have H1 : (if (t883.length : Int) < (l0_0.length : Int) then (stockyardref03_Match.j0 k t883 (l0_0.length : Int) true l0_0 a0_1) else (if a0_1 = true then (stockyardref03_Match.j0 k t883 (l0_0.length : Int) ((t883.length : Int) == (l0_0.length : Int)) l0_0 a0_1) else (if (t883.length : Int) > (l0_0.length : Int) then (stockyardref03_Match.j0 k t883 (l0_0.length : Int) true l0_0 a0_1) else (stockyardref03_Match.j0 k t883 (l0_0.length : Int) false l0_0 a0_1)))) = some (r1, r2) := by rw [if_pos rfl] at H; exact H
        clear H
        have H := H1
        clear H1
        by_cases c11 : (t883.length : Int) < (l0_0.length : Int)
        · rw [if_pos c11] at H
          have c11b0 : decide ((t883.length : Int) < (l0_0.length : Int)) = true := decide_eq_true c11
          have c11b1 : decide (t883.length < l0_0.length) = true := decide_eq_true (Int.ofNat_lt.mp c11)
          clear c11
          have H' := Aside0.mk H
          clear H
          have hcz12_0 : w6.cell? ⟨gb882, 0, none⟩ = some (.slice A0_0 l0_0.length c0_0) := (blk_cell BK882.out 0).trans rfl
          have hcz12_1 : w6.cell? ⟨gb882, 1, none⟩ = some (.bool a0_1) := (blk_cell BK882.out 1).trans rfl
          have hfz12_0 := blk_frozen BK882.out 0
          have hfz12_1 := blk_frozen BK882.out 1
          go_wp2_with (first | ((with_reducible refine gate_callee (f := 40) rfl ?_); refine goesL_ (some 25) rfl rfl Tryd.func40 (by kernel_rfl) rfl #[.agg #[.slice A0_0 l0_0.length c0_0, .bool a0_1]] rfl (by (try simp only [List.map_toArray, List.map_cons, List.map_nil]); first | done | rfl | (simp only [List.length_drop, List.length_take]; rfl)) ?_; (with_reducible refine (stockyardref03_Check.calls k _ _ l0_0 a0_1 t887 _ ?side1 ?side2 A8.out).mono ?_); (case side1 => repeat (first | exact (Kd.C_below HR0_0.out HB.out) | (with_reducible refine Kd.C_alloc ?_ _) | (with_reducible refine Kd.C_drewN ?_ _) | (with_reducible refine Kd.C_drew ?_))); (case side2 => exact HC0_0.out); rintro e w13 ⟨rfl, hb⟩; refine ⟨_, rfl, ?_⟩; have n0_ := Aside0.mk (Kd.R_below (by (with_reducible repeat (first | apply Kd.R_alloc | apply Kd.R_drewN | apply Kd.R_drew)); exact HO886.out) hb); have n1_ := Aside0.mk (blk_below (g := gb882) (o := .cells #[.slice A0_0 l0_0.length c0_0, .bool a0_1] 24 (0, 0)) (by (with_reducible repeat (first | refine blk_drewN ?_ _ | refine blk_drew ?_ | refine blk_alloc ?_ _)); exact BK882.out) hb); have n2_ := Aside0.mk (below_step (by repeat (first | (with_reducible first | exact HB.out | apply below_alloc | apply pw_below_drewN | apply below_drew1 | refine below_set ?_ GE882.out) | exact HB.out)) hb); clear HO886; clear BK882; clear HB; have HO886 := n0_; have BK882 := n1_; have HB := n2_; clear n0_ n1_ n2_; (try clear hb); (try clear hb2); (try clear hk); (try clear hi); obtain ⟨Ao14, co14, eo14⟩ := Kd.R_slice HO886.out; subst eo14))
          go_meet
          case rel => exact ⟨_, (true), (by first | rfl | (simp; done) | (simp [*]; done)), H', ⟨by first | omega | exact Nat.le_refl _⟩, ⟨by (with_reducible repeat (first | apply Kd.R_alloc | apply Kd.R_drewN | apply Kd.R_drew)); exact HO886.out⟩, ⟨by (with_reducible repeat (first | refine blk_drewN ?_ _ | refine blk_drew ?_ | refine blk_alloc ?_ _)); exact BK882.out⟩, ⟨by repeat (first | (with_reducible first | exact HB.out | apply below_alloc | apply pw_below_drewN | apply below_drew1 | refine below_set ?_ GE882.out) | exact HB.out)⟩⟩
        · rw [if_neg c11] at H
          have c11b0 : decide ((t883.length : Int) < (l0_0.length : Int)) = false := decide_eq_false c11
          have c11b1 : decide (t883.length < l0_0.length) = false := decide_eq_false (fun h => c11 (Int.ofNat_lt.mpr h))
          clear c11
          by_cases c15 : a0_1 = true
          · subst c15
            have H1 : (stockyardref03_Match.j0 k t883 (l0_0.length : Int) ((t883.length : Int) == (l0_0.length : Int)) l0_0 true) = some (r1, r2) := by rw [if_pos rfl] at H; exact H
            clear H
            have H := H1
            clear H1
            have H' := Aside0.mk H
            clear H
            have hcz16_0 : w6.cell? ⟨gb882, 0, none⟩ = some (.slice A0_0 l0_0.length c0_0) := (blk_cell BK882.out 0).trans rfl
            have hcz16_1 : w6.cell? ⟨gb882, 1, none⟩ = some (.bool true) := (blk_cell BK882.out 1).trans rfl
            have hfz16_0 := blk_frozen BK882.out 0
            have hfz16_1 := blk_frozen BK882.out 1
            go_wp2_with (first | ((with_reducible refine gate_callee (f := 40) rfl ?_); refine goesL_ (some 25) rfl rfl Tryd.func40 (by kernel_rfl) rfl #[.agg #[.slice A0_0 l0_0.length c0_0, .bool true]] rfl (by (try simp only [List.map_toArray, List.map_cons, List.map_nil]); first | done | rfl | (simp only [List.length_drop, List.length_take]; rfl)) ?_; (with_reducible refine (stockyardref03_Check.calls k _ _ l0_0 true t887 _ ?side1 ?side2 A8.out).mono ?_); (case side1 => repeat (first | exact (Kd.C_below HR0_0.out HB.out) | (with_reducible refine Kd.C_alloc ?_ _) | (with_reducible refine Kd.C_drewN ?_ _) | (with_reducible refine Kd.C_drew ?_))); (case side2 => exact HC0_0.out); rintro e w17 ⟨rfl, hb⟩; refine ⟨_, rfl, ?_⟩; have n0_ := Aside0.mk (Kd.R_below (by (with_reducible repeat (first | apply Kd.R_alloc | apply Kd.R_drewN | apply Kd.R_drew)); exact HO886.out) hb); have n1_ := Aside0.mk (blk_below (g := gb882) (o := .cells #[.slice A0_0 l0_0.length c0_0, .bool true] 24 (0, 0)) (by (with_reducible repeat (first | refine blk_drewN ?_ _ | refine blk_drew ?_ | refine blk_alloc ?_ _)); exact BK882.out) hb); have n2_ := Aside0.mk (below_step (by repeat (first | (with_reducible first | exact HB.out | apply below_alloc | apply pw_below_drewN | apply below_drew1 | refine below_set ?_ GE882.out) | exact HB.out)) hb); clear HO886; clear BK882; clear HB; have HO886 := n0_; have BK882 := n1_; have HB := n2_; clear n0_ n1_ n2_; (try clear hb); (try clear hb2); (try clear hk); (try clear hi); obtain ⟨Ao18, co18, eo18⟩ := Kd.R_slice HO886.out; subst eo18; have hcz19_0 : w17.cell? ⟨gb882, 0, none⟩ = some (.slice A0_0 l0_0.length c0_0) := (blk_cell BK882.out 0).trans rfl; have hcz19_1 : w17.cell? ⟨gb882, 1, none⟩ = some (.bool true) := (blk_cell BK882.out 1).trans rfl; have hfz19_0 := blk_frozen BK882.out 0; have hfz19_1 := blk_frozen BK882.out 1))
            go_meet
            case rel => exact ⟨_, (((t883.length : Int) == (l0_0.length : Int))), (by first | rfl | (simp; done) | (simp [*]; done)), H', ⟨by first | omega | exact Nat.le_refl _⟩, ⟨by (with_reducible repeat (first | apply Kd.R_alloc | apply Kd.R_drewN | apply Kd.R_drew)); exact HO886.out⟩, ⟨by (with_reducible repeat (first | refine blk_drewN ?_ _ | refine blk_drew ?_ | refine blk_alloc ?_ _)); exact BK882.out⟩, ⟨by repeat (first | (with_reducible first | exact HB.out | apply below_alloc | apply pw_below_drewN | apply below_drew1 | refine below_set ?_ GE882.out) | exact HB.out)⟩⟩
          · replace c15 := Bool.eq_false_iff.mpr c15
            subst c15
            have H1 : (if (t883.length : Int) > (l0_0.length : Int) then (stockyardref03_Match.j0 k t883 (l0_0.length : Int) true l0_0 false) else (stockyardref03_Match.j0 k t883 (l0_0.length : Int) false l0_0 false)) = some (r1, r2) := by rw [if_neg (show ¬ (false = true) by decide)] at H; exact H
            clear H
            have H := H1
            clear H1
            by_cases c20 : (t883.length : Int) > (l0_0.length : Int)
            · rw [if_pos c20] at H
              have c20b0 : decide ((l0_0.length : Int) < (t883.length : Int)) = true := decide_eq_true c20
              have c20b1 : decide (l0_0.length < t883.length) = true := decide_eq_true (Int.ofNat_lt.mp c20)
              clear c20
              have H' := Aside0.mk H
              clear H
              have hcz21_0 : w6.cell? ⟨gb882, 0, none⟩ = some (.slice A0_0 l0_0.length c0_0) := (blk_cell BK882.out 0).trans rfl
              have hcz21_1 : w6.cell? ⟨gb882, 1, none⟩ = some (.bool false) := (blk_cell BK882.out 1).trans rfl
              have hfz21_0 := blk_frozen BK882.out 0
              have hfz21_1 := blk_frozen BK882.out 1
              go_wp2_with (first | ((with_reducible refine gate_callee (f := 40) rfl ?_); refine goesL_ (some 25) rfl rfl Tryd.func40 (by kernel_rfl) rfl #[.agg #[.slice A0_0 l0_0.length c0_0, .bool false]] rfl (by (try simp only [List.map_toArray, List.map_cons, List.map_nil]); first | done | rfl | (simp only [List.length_drop, List.length_take]; rfl)) ?_; (with_reducible refine (stockyardref03_Check.calls k _ _ l0_0 false t887 _ ?side1 ?side2 A8.out).mono ?_); (case side1 => repeat (first | exact (Kd.C_below HR0_0.out HB.out) | (with_reducible refine Kd.C_alloc ?_ _) | (with_reducible refine Kd.C_drewN ?_ _) | (with_reducible refine Kd.C_drew ?_))); (case side2 => exact HC0_0.out); rintro e w22 ⟨rfl, hb⟩; refine ⟨_, rfl, ?_⟩; have n0_ := Aside0.mk (Kd.R_below (by (with_reducible repeat (first | apply Kd.R_alloc | apply Kd.R_drewN | apply Kd.R_drew)); exact HO886.out) hb); have n1_ := Aside0.mk (blk_below (g := gb882) (o := .cells #[.slice A0_0 l0_0.length c0_0, .bool false] 24 (0, 0)) (by (with_reducible repeat (first | refine blk_drewN ?_ _ | refine blk_drew ?_ | refine blk_alloc ?_ _)); exact BK882.out) hb); have n2_ := Aside0.mk (below_step (by repeat (first | (with_reducible first | exact HB.out | apply below_alloc | apply pw_below_drewN | apply below_drew1 | refine below_set ?_ GE882.out) | exact HB.out)) hb); clear HO886; clear BK882; clear HB; have HO886 := n0_; have BK882 := n1_; have HB := n2_; clear n0_ n1_ n2_; (try clear hb); (try clear hb2); (try clear hk); (try clear hi); obtain ⟨Ao23, co23, eo23⟩ := Kd.R_slice HO886.out; subst eo23; have hcz24_0 : w22.cell? ⟨gb882, 0, none⟩ = some (.slice A0_0 l0_0.length c0_0) := (blk_cell BK882.out 0).trans rfl; have hcz24_1 : w22.cell? ⟨gb882, 1, none⟩ = some (.bool false) := (blk_cell BK882.out 1).trans rfl; have hfz24_0 := blk_frozen BK882.out 0; have hfz24_1 := blk_frozen BK882.out 1))
              go_meet
              case rel => exact ⟨_, (true), (by first | rfl | (simp; done) | (simp [*]; done)), H', ⟨by first | omega | exact Nat.le_refl _⟩, ⟨by (with_reducible repeat (first | apply Kd.R_alloc | apply Kd.R_drewN | apply Kd.R_drew)); exact HO886.out⟩, ⟨by (with_reducible repeat (first | refine blk_drewN ?_ _ | refine blk_drew ?_ | refine blk_alloc ?_ _)); exact BK882.out⟩, ⟨by repeat (first | (with_reducible first | exact HB.out | apply below_alloc | apply pw_below_drewN | apply below_drew1 | refine below_set ?_ GE882.out) | exact HB.out)⟩⟩
            · rw [if_neg c20] at H
              have c20b0 : decide ((l0_0.length : Int) < (t883.length : Int)) = false := decide_eq_false c20
              have c20b1 : decide (l0_0.length < t883.length) = false := decide_eq_false (fun h => c20 (Int.ofNat_lt.mpr h))
              clear c20
              have H' := Aside0.mk H
              clear H
              have hcz25_0 : w6.cell? ⟨gb882, 0, none⟩ = some (.slice A0_0 l0_0.length c0_0) := (blk_cell BK882.out 0).trans rfl
              have hcz25_1 : w6.cell? ⟨gb882, 1, none⟩ = some (.bool false) := (blk_cell BK882.out 1).trans rfl
              have hfz25_0 := blk_frozen BK882.out 0
              have hfz25_1 := blk_frozen BK882.out 1
              go_wp2_with (first | ((with_reducible refine gate_callee (f := 40) rfl ?_); refine goesL_ (some 25) rfl rfl Tryd.func40 (by kernel_rfl) rfl #[.agg #[.slice A0_0 l0_0.length c0_0, .bool false]] rfl (by (try simp only [List.map_toArray, List.map_cons, List.map_nil]); first | done | rfl | (simp only [List.length_drop, List.length_take]; rfl)) ?_; (with_reducible refine (stockyardref03_Check.calls k _ _ l0_0 false t887 _ ?side1 ?side2 A8.out).mono ?_); (case side1 => repeat (first | exact (Kd.C_below HR0_0.out HB.out) | (with_reducible refine Kd.C_alloc ?_ _) | (with_reducible refine Kd.C_drewN ?_ _) | (with_reducible refine Kd.C_drew ?_))); (case side2 => exact HC0_0.out); rintro e w26 ⟨rfl, hb⟩; refine ⟨_, rfl, ?_⟩; have n0_ := Aside0.mk (Kd.R_below (by (with_reducible repeat (first | apply Kd.R_alloc | apply Kd.R_drewN | apply Kd.R_drew)); exact HO886.out) hb); have n1_ := Aside0.mk (blk_below (g := gb882) (o := .cells #[.slice A0_0 l0_0.length c0_0, .bool false] 24 (0, 0)) (by (with_reducible repeat (first | refine blk_drewN ?_ _ | refine blk_drew ?_ | refine blk_alloc ?_ _)); exact BK882.out) hb); have n2_ := Aside0.mk (below_step (by repeat (first | (with_reducible first | exact HB.out | apply below_alloc | apply pw_below_drewN | apply below_drew1 | refine below_set ?_ GE882.out) | exact HB.out)) hb); clear HO886; clear BK882; clear HB; have HO886 := n0_; have BK882 := n1_; have HB := n2_; clear n0_ n1_ n2_; (try clear hb); (try clear hb2); (try clear hk); (try clear hi); obtain ⟨Ao27, co27, eo27⟩ := Kd.R_slice HO886.out; subst eo27; have hcz28_0 : w26.cell? ⟨gb882, 0, none⟩ = some (.slice A0_0 l0_0.length c0_0) := (blk_cell BK882.out 0).trans rfl; have hcz28_1 : w26.cell? ⟨gb882, 1, none⟩ = some (.bool false) := (blk_cell BK882.out 1).trans rfl; have hfz28_0 := blk_frozen BK882.out 0; have hfz28_1 := blk_frozen BK882.out 1))
              go_meet
              case rel => exact ⟨_, (false), (by first | rfl | (simp; done) | (simp [*]; done)), H', ⟨by first | omega | exact Nat.le_refl _⟩, ⟨by (with_reducible repeat (first | apply Kd.R_alloc | apply Kd.R_drewN | apply Kd.R_drew)); exact HO886.out⟩, ⟨by (with_reducible repeat (first | refine blk_drewN ?_ _ | refine blk_drew ?_ | refine blk_alloc ?_ _)); exact BK882.out⟩, ⟨by repeat (first | (with_reducible first | exact HB.out | apply below_alloc | apply pw_below_drewN | apply below_drew1 | refine below_set ?_ GE882.out) | exact HB.out)⟩⟩
      · replace c10 := Bool.eq_false_iff.mpr c10
        subst c10
        have H1 : (stockyardref03_Match.j0 k t883 (l0_0.length : Int) true l0_0 a0_1) = some (r1, r2) := by rw [if_neg (show ¬ (false = true) by decide)] at H; exact H
        clear H
        have H := H1
        clear H1
        have H' := Aside0.mk H
        clear H
        have hcz29_0 : w6.cell? ⟨gb882, 0, none⟩ = some (.slice A0_0 l0_0.length c0_0) := (blk_cell BK882.out 0).trans rfl
        have hcz29_1 : w6.cell? ⟨gb882, 1, none⟩ = some (.bool a0_1) := (blk_cell BK882.out 1).trans rfl
        have hfz29_0 := blk_frozen BK882.out 0
        have hfz29_1 := blk_frozen BK882.out 1
        go_wp2_with (first | ((with_reducible refine gate_callee (f := 40) rfl ?_); refine goesL_ (some 25) rfl rfl Tryd.func40 (by kernel_rfl) rfl #[.agg #[.slice A0_0 l0_0.length c0_0, .bool a0_1]] rfl (by (try simp only [List.map_toArray, List.map_cons, List.map_nil]); first | done | rfl | (simp only [List.length_drop, List.length_take]; rfl)) ?_; (with_reducible refine (stockyardref03_Check.calls k _ _ l0_0 a0_1 t887 _ ?side1 ?side2 A8.out).mono ?_); (case side1 => repeat (first | exact (Kd.C_below HR0_0.out HB.out) | (with_reducible refine Kd.C_alloc ?_ _) | (with_reducible refine Kd.C_drewN ?_ _) | (with_reducible refine Kd.C_drew ?_))); (case side2 => exact HC0_0.out); rintro e w30 ⟨rfl, hb⟩; refine ⟨_, rfl, ?_⟩; have n0_ := Aside0.mk (Kd.R_below (by (with_reducible repeat (first | apply Kd.R_alloc | apply Kd.R_drewN | apply Kd.R_drew)); exact HO886.out) hb); have n1_ := Aside0.mk (blk_below (g := gb882) (o := .cells #[.slice A0_0 l0_0.length c0_0, .bool a0_1] 24 (0, 0)) (by (with_reducible repeat (first | refine blk_drewN ?_ _ | refine blk_drew ?_ | refine blk_alloc ?_ _)); exact BK882.out) hb); have n2_ := Aside0.mk (below_step (by repeat (first | (with_reducible first | exact HB.out | apply below_alloc | apply pw_below_drewN | apply below_drew1 | refine below_set ?_ GE882.out) | exact HB.out)) hb); clear HO886; clear BK882; clear HB; have HO886 := n0_; have BK882 := n1_; have HB := n2_; clear n0_ n1_ n2_; (try clear hb); (try clear hb2); (try clear hk); (try clear hi)))
        go_meet
        case rel => exact ⟨_, (true), (by first | rfl | (simp; done) | (simp [*]; done)), H', ⟨by first | omega | exact Nat.le_refl _⟩, ⟨by (with_reducible repeat (first | apply Kd.R_alloc | apply Kd.R_drewN | apply Kd.R_drew)); exact HO886.out⟩, ⟨by (with_reducible repeat (first | refine blk_drewN ?_ _ | refine blk_drew ?_ | refine blk_alloc ?_ _)); exact BK882.out⟩, ⟨by repeat (first | (with_reducible first | exact HB.out | apply below_alloc | apply pw_below_drewN | apply below_drew1 | refine below_set ?_ GE882.out) | exact HB.out)⟩⟩
    · rw [if_neg c9] at H
      have c9b0 : (t887 == 0) = false := beq_eq_false_iff_ne.mpr c9
      have c9b1 : (t887 != 0) = true := bne_iff_ne.mpr c9
      (first | rw [c9b0] | (simp only [i64_w, i32_w]; rw [c9b0]) | skip)
      have H' := Aside0.mk H
      clear H
      have hcz31_0 : w6.cell? ⟨gb882, 0, none⟩ = some (.slice A0_0 l0_0.length c0_0) := (blk_cell BK882.out 0).trans rfl
      have hcz31_1 : w6.cell? ⟨gb882, 1, none⟩ = some (.bool a0_1) := (blk_cell BK882.out 1).trans rfl
      have hfz31_0 := blk_frozen BK882.out 0
      have hfz31_1 := blk_frozen BK882.out 1
      go_wp2_with (first | ((with_reducible refine gate_callee (f := 40) rfl ?_); refine goesL_ (some 25) rfl rfl Tryd.func40 (by kernel_rfl) rfl #[.agg #[.slice A0_0 l0_0.length c0_0, .bool a0_1]] rfl (by (try simp only [List.map_toArray, List.map_cons, List.map_nil]); first | done | rfl | (simp only [List.length_drop, List.length_take]; rfl)) ?_; (with_reducible refine (stockyardref03_Check.calls k _ _ l0_0 a0_1 t887 _ ?side1 ?side2 A8.out).mono ?_); (case side1 => repeat (first | exact (Kd.C_below HR0_0.out HB.out) | (with_reducible refine Kd.C_alloc ?_ _) | (with_reducible refine Kd.C_drewN ?_ _) | (with_reducible refine Kd.C_drew ?_))); (case side2 => exact HC0_0.out); rintro e w32 ⟨rfl, hb⟩; refine ⟨_, rfl, ?_⟩; have n0_ := Aside0.mk (Kd.R_below (by (with_reducible repeat (first | apply Kd.R_alloc | apply Kd.R_drewN | apply Kd.R_drew)); exact HO886.out) hb); have n1_ := Aside0.mk (blk_below (g := gb882) (o := .cells #[.slice A0_0 l0_0.length c0_0, .bool a0_1] 24 (0, 0)) (by (with_reducible repeat (first | refine blk_drewN ?_ _ | refine blk_drew ?_ | refine blk_alloc ?_ _)); exact BK882.out) hb); have n2_ := Aside0.mk (below_step (by repeat (first | (with_reducible first | exact HB.out | apply below_alloc | apply pw_below_drewN | apply below_drew1 | refine below_set ?_ GE882.out) | exact HB.out)) hb); clear HO886; clear BK882; clear HB; have HO886 := n0_; have BK882 := n1_; have HB := n2_; clear n0_ n1_ n2_; (try clear hb); (try clear hb2); (try clear hk); (try clear hi)))
      go_meet
      case rel => exact ⟨_, (true), (by first | rfl | (simp; done) | (simp [*]; done)), H', ⟨by first | omega | exact Nat.le_refl _⟩, ⟨by (with_reducible repeat (first | apply Kd.R_alloc | apply Kd.R_drewN | apply Kd.R_drew)); exact HO886.out⟩, ⟨by (with_reducible repeat (first | refine blk_drewN ?_ _ | refine blk_drew ?_ | refine blk_alloc ?_ _)); exact BK882.out⟩, ⟨by repeat (first | (with_reducible first | exact HB.out | apply below_alloc | apply pw_below_drewN | apply below_drew1 | refine below_set ?_ GE882.out) | exact HB.out)⟩⟩
  case rest =>
    clear HC4
    try clear c1
    try clear c2
    try clear p2
    try clear c4
    try clear c5
    try clear c7
    try clear c9
    try clear c9b0
    try clear c9b1
    try clear c10
    try clear c11
    try clear c11b0
    try clear c11b1
    try clear c15
    try clear c20
    try clear c20b0
    try clear c20b1
    try clear hcz12_0
    try clear hcz12_1
    try clear hcz16_0
    try clear hcz16_1
    try clear hcz19_0
    try clear hcz19_1
    try clear hcz21_0
    try clear hcz21_1
    try clear hcz24_0
    try clear hcz24_1
    try clear hcz25_0
    try clear hcz25_1
    try clear hcz28_0
    try clear hcz28_1
    try clear hcz29_0
    try clear hcz29_1
    try clear hcz31_0
    try clear hcz31_1
    try clear hcz7_0
    try clear hcz7_1
    try clear hfz12_0
    try clear hfz12_1
    try clear hfz16_0
    try clear hfz16_1
    try clear hfz19_0
    try clear hfz19_1
    try clear hfz21_0
    try clear hfz21_1
    try clear hfz24_0
    try clear hfz24_1
    try clear hfz25_0
    try clear hfz25_1
    try clear hfz28_0
    try clear hfz28_1
    try clear hfz29_0
    try clear hfz29_1
    try clear hfz31_0
    try clear hfz31_1
    try clear hfz7_0
    try clear hfz7_1
    obtain ⟨kq, x57_3, rfl, HA, HJ3, HO_6, BK882, HB⟩ := hcut
    cases kq with
    | zero => exact absurd HA.out (by simp [stockyardref03_Match.j0])
    | succ kj3 =>
      have H := HA.out
      clear HA
      simp only [stockyardref03_Match.j0] at H
      by_cases c33 : x57_3 = true
      · subst c33
        have H1 : (some (([] : List ByteArray), false)) = some (r1, r2) := by rw [if_pos rfl] at H; exact H
        clear H
        have H := H1
        clear H1
        simp only [Option.some.injEq, Prod.mk.injEq] at H
        obtain ⟨rfl, rfl⟩ := H
        go_wp2
        go_ret2
        exact ⟨_, by first | rfl | (simp [errW_none, errW_some] <;> rfl) | (simp [*, errW_none, errW_some] <;> rfl), by first | exact Kd.R_nil _ _ _ _ _ | exact Kd.N_nil _ _ _ _ _ | exact Kd.V_nil _ _ _ _ _ | exact Kd.Q_nil _ _ _ _ _ | exact Kd.S_nil _ _ _ _ _, by repeat (first | (with_reducible first | exact HB.out | apply below_alloc | apply pw_below_drewN | apply below_drew1 | refine below_set ?_ GE882.out) | exact HB.out)⟩
      · replace c33 := Bool.eq_false_iff.mpr c33
        subst c33
        have H1 : (stockyardref03_Match.l0 kj3 t883 (l0_0.length : Int) ([] : List ByteArray) l0_0 (l0_0.length : Int) 0 l0_0 a0_1) = some (r1, r2) := by rw [if_neg (show ¬ (false = true) by decide)] at H; exact H
        clear H
        have H := H1
        clear H1
        have H' := Aside0.mk H
        clear H
        have hcz34_0 : wc.cell? ⟨gb882, 0, none⟩ = some (.slice A0_0 l0_0.length c0_0) := (blk_cell BK882.out 0).trans rfl
        have hcz34_1 : wc.cell? ⟨gb882, 1, none⟩ = some (.bool a0_1) := (blk_cell BK882.out 1).trans rfl
        have hfz34_0 := blk_frozen BK882.out 0
        have hfz34_1 := blk_frozen BK882.out 1
        go_wp2
        go_loopg [9, 61] kj3 (fun kq v9 v61 w' => ∃ (x9_2 : List ByteArray) (x61_2 : Int), v61 = .int .i64 x61_2 ∧ Aside0 (stockyardref03_Match.l0 kq t883 (l0_0.length : Int) x9_2 l0_0 (l0_0.length : Int) x61_2 l0_0 a0_1 = some (r1, r2)) ∧ Aside0 (kq ≤ kj3) ∧ Aside0 (Kd.R Kd.string 9 w' w.heap.size (fun k_ => some k_ ≠ (v9 : Value).ownBlock) v885 t883) ∧ Aside0 (Kd.R Kd.string 9 w' w.heap.size (fun k_ => some k_ ≠ (v885 : Value).ownBlock) v9 x9_2) ∧ Aside0 (w'.heap[gb882]? = some (.cells #[(.slice A0_0 l0_0.length c0_0), .bool a0_1] 24 (0, 0))) ∧ Aside0 (Below w.heap.size w w'))
        case atStart => exact ⟨(([] : List ByteArray)), (0), (by first | rfl | (simp; done) | (simp [*]; done)), H', ⟨Nat.le_refl _⟩, ⟨by (with_reducible repeat (first | apply Kd.R_alloc | apply Kd.R_drewN | apply Kd.R_drew)); exact Kd.R_mono HO_6.out (fun _ hk => (by simp [Value.ownBlock]))⟩, ⟨by first | exact Kd.R_nil _ _ _ _ _ | exact Kd.N_nil _ _ _ _ _ | exact Kd.V_nil _ _ _ _ _ | exact Kd.Q_nil _ _ _ _ _ | exact Kd.S_nil _ _ _ _ _⟩, ⟨by (with_reducible repeat (first | refine blk_drewN ?_ _ | refine blk_drew ?_ | refine blk_alloc ?_ _)); exact BK882.out⟩, ⟨by repeat (first | (with_reducible first | exact HB.out | apply below_alloc | apply pw_below_drewN | apply below_drew1 | refine below_set ?_ GE882.out) | exact HB.out)⟩⟩
        case round =>
          clear H'
          try clear c1
          try clear c2
          try clear p2
          try clear c3
          try clear c4
          try clear c5
          try clear c7
          try clear c9
          try clear c9b0
          try clear c9b1
          try clear c10
          try clear c11
          try clear c11b0
          try clear c11b1
          try clear c15
          try clear c20
          try clear c20b0
          try clear c20b1
          try clear c33
          try clear hcz12_0
          try clear hcz12_1
          try clear hcz16_0
          try clear hcz16_1
          try clear hcz19_0
          try clear hcz19_1
          try clear hcz21_0
          try clear hcz21_1
          try clear hcz24_0
          try clear hcz24_1
          try clear hcz25_0
          try clear hcz25_1
          try clear hcz28_0
          try clear hcz28_1
          try clear hcz29_0
          try clear hcz29_1
          try clear hcz31_0
          try clear hcz31_1
          try clear hcz34_0
          try clear hcz34_1
          try clear hcz7_0
          try clear hcz7_1
          try clear hfz12_0
          try clear hfz12_1
          try clear hfz16_0
          try clear hfz16_1
          try clear hfz19_0
          try clear hfz19_1
          try clear hfz21_0
          try clear hfz21_1
          try clear hfz24_0
          try clear hfz24_1
          try clear hfz25_0
          try clear hfz25_1
          try clear hfz28_0
          try clear hfz28_1
          try clear hfz29_0
          try clear hfz29_1
          try clear hfz31_0
          try clear hfz31_1
          try clear hfz34_0
          try clear hfz34_1
          try clear hfz7_0
          try clear hfz7_1
          try clear p2
          obtain ⟨x9_2, x61_2, rfl, HA, HK2, HO_6, HO_9, BK882, HB⟩ := hrel
          cases gk with
          | zero => exact absurd HA.out (by simp [stockyardref03_Match.l0])
          | succ k2 =>
            have H := HA.out
            clear HA
            simp only [stockyardref03_Match.l0] at H
            by_cases c35 : x61_2 < (l0_0.length : Int)
            · rw [if_pos c35] at H
              have c35b0 : decide (x61_2 < (l0_0.length : Int)) = true := decide_eq_true c35
              clear c35
              by_cases c36 : 0 ≤ x61_2
              · rw [if_pos c36] at H
                have c36b0 : decide (0 ≤ x61_2) = true := decide_eq_true c36
                clear c36
                by_cases c37 : x61_2 < (l0_0.length : Int)
                · rw [if_pos c37] at H
                  have c37b0 : decide (x61_2 < (l0_0.length : Int)) = true := decide_eq_true c37
                  clear c37
                  by_cases c38 : x61_2 < (t883.length : Int)
                  · rw [if_pos c38] at H
                    have c38b0 : decide (x61_2 < (t883.length : Int)) = true := decide_eq_true c38
                    clear c38
                    replace H := Option.bind_eq_some_iff.mp H
                    obtain ⟨⟨t898, t899⟩, A390, H⟩ := H
                    replace H : (if t899 = true then ((stockyardref03_Star.f k2 (rdOf ByteArray.empty l0_0 x61_2)).bind fun bt900 => (if bt900.2 = true then (if x9_2.length < 8796093022208 then (stockyardref03_Match.l0 k2 t883 (l0_0.length : Int) (x9_2 ++ [t898]) l0_0 (l0_0.length : Int) (wrap64 (x61_2 + 1)) l0_0 a0_1) else (none)) else (stockyardref03_Match.l0 k2 t883 (l0_0.length : Int) x9_2 l0_0 (l0_0.length : Int) (wrap64 (x61_2 + 1)) l0_0 a0_1))) else (some (([] : List ByteArray), false))) = some (r1, r2) := H
                    have A39 := Aside0.mk A390
                    clear A390
                    by_cases c40 : t899 = true
                    · subst c40
                      have H1 : ((stockyardref03_Star.f k2 (rdOf ByteArray.empty l0_0 x61_2)).bind fun bt900 => (if bt900.2 = true then (if x9_2.length < 8796093022208 then (stockyardref03_Match.l0 k2 t883 (l0_0.length : Int) (x9_2 ++ [t898]) l0_0 (l0_0.length : Int) (wrap64 (x61_2 + 1)) l0_0 a0_1) else (none)) else (stockyardref03_Match.l0 k2 t883 (l0_0.length : Int) x9_2 l0_0 (l0_0.length : Int) (wrap64 (x61_2 + 1)) l0_0 a0_1))) = some (r1, r2) := by rw [if_pos rfl] at H; exact H
                      clear H
                      have H := H1
                      clear H1
                      replace H := Option.bind_eq_some_iff.mp H
                      obtain ⟨⟨t900, t901⟩, A410, H⟩ := H
                      replace H : (if t901 = true then (if x9_2.length < 8796093022208 then (stockyardref03_Match.l0 k2 t883 (l0_0.length : Int) (x9_2 ++ [t898]) l0_0 (l0_0.length : Int) (wrap64 (x61_2 + 1)) l0_0 a0_1) else (none)) else (stockyardref03_Match.l0 k2 t883 (l0_0.length : Int) x9_2 l0_0 (l0_0.length : Int) (wrap64 (x61_2 + 1)) l0_0 a0_1)) = some (r1, r2) := H
                      have A41 := Aside0.mk A410
                      clear A410
                      by_cases c42 : t901 = true
                      · subst c42
                        have H1 : (if x9_2.length < 8796093022208 then (stockyardref03_Match.l0 k2 t883 (l0_0.length : Int) (x9_2 ++ [t898]) l0_0 (l0_0.length : Int) (wrap64 (x61_2 + 1)) l0_0 a0_1) else (none)) = some (r1, r2) := by rw [if_pos rfl] at H; exact H
                        clear H
                        have H := H1
                        clear H1
                        by_cases c43 : x9_2.length < 8796093022208
                        · rw [if_pos c43] at H
                          have LMc43 := Aside0.mk c43
                          clear c43
                          obtain ⟨y902, hy902⟩ : ∃ y_ : List ByteArray, y_ = (x9_2 ++ [t898]) := ⟨_, rfl⟩
                          replace H : (stockyardref03_Match.l0 k2 t883 (l0_0.length : Int) y902 l0_0 (l0_0.length : Int) (wrap64 (x61_2 + 1)) l0_0 a0_1) = some (r1, r2) := by first | (rw [hy902]; with_reducible exact H) | (have H2_ := (Option.bind_some _ _).symm.trans H; rw [hy902]; with_reducible exact H2_) | (have H2_ := (Option.bind_some _ _).symm.trans H; with_reducible exact H2_) | with_reducible exact H | (rw [hy902]; exact H) | exact H
                          have Ny902 := Aside0.mk hy902
                          clear hy902
                          have H' := Aside0.mk H
                          clear H
                          have p896 : 0 ≤ (x61_2 : Int) := of_decide_eq_true (by first | (with_reducible assumption) | assumption)
                          have q896 : x61_2 < (l0_0.length : Int) := of_decide_eq_true (by first | (with_reducible assumption) | assumption)
                          obtain ⟨ad896, e896, hx896_0⟩ := Kd.at_string HR0_0.out x61_2 p896 q896
                          cases e896
                          replace hx896_0 := (HB.out.cell (World.block_lt_of_cell? w _ hx896_0)).trans hx896_0
                          replace p896 := eq_true p896
                          replace q896 := eq_true q896
                          obtain ⟨Ao44, co44, eo44⟩ := Kd.R_slice HO_6.out
                          subst eo44
                          have p897 : 0 ≤ (x61_2 : Int) := of_decide_eq_true (by first | (with_reducible assumption) | assumption)
                          have q897 : x61_2 < (t883.length : Int) := of_decide_eq_true (by first | (with_reducible assumption) | assumption)
                          obtain ⟨ad897, e897, hx897_0⟩ := Kd.at_string (Kd.R_reads' HO_6.out).2.2 x61_2 p897 q897
                          cases e897
                          replace p897 := eq_true p897
                          replace q897 := eq_true q897
                          go_wp2_with (first | ((with_reducible refine gate_callee (f := 58) rfl ?_); refine goesL_ (some 72) rfl rfl Tryd.func58 (by kernel_rfl) rfl #[.string (rdOf ByteArray.empty l0_0 x61_2), .string (rdOf ByteArray.empty t883 x61_2)] rfl (by (try simp only [List.map_toArray, List.map_cons, List.map_nil]); first | done | rfl | (simp only [List.length_drop, List.length_take]; rfl)) ?_; (with_reducible refine (stockyardref03_Capture.calls k2 (rdOf ByteArray.empty l0_0 x61_2) (rdOf ByteArray.empty t883 x61_2) t898 true _ A39.out).mono ?_); rintro e w' ⟨rfl, ⟨nd, rfl⟩⟩; refine ⟨_, rfl, ?_⟩) | ((with_reducible refine gate_callee (f := 42) rfl ?_); refine goesL_ (some 79) rfl rfl Tryd.func42 (by kernel_rfl) rfl #[.string (rdOf ByteArray.empty l0_0 x61_2)] rfl (by (try simp only [List.map_toArray, List.map_cons, List.map_nil]); first | done | rfl | (simp only [List.length_drop, List.length_take]; rfl)) ?_; (with_reducible refine (stockyardref03_Star.calls k2 (rdOf ByteArray.empty l0_0 x61_2) t900 true _ A41.out).mono ?_); rintro e w' ⟨rfl, ⟨nd, rfl⟩⟩; refine ⟨_, rfl, ?_⟩) | ((with_reducible refine gate_builtin (b := .append) (xs := #[.tmp 83, .tmp 85]) rfl ?_); (try (refine gate_guard (by rfl) ?_; dsimp only)); at_builtin; refine Kd.R_append Kd.string (w0 := w) w.heap.size rfl (.tmp 83) (.tmp 85) 22 9 (.string ⟨#[]⟩) 16 rfl Tryd.underlying22 info9 rfl (by decide) (by omega) u9 x9_2 t898 [.string t898] (fun k_ => some k_ ≠ (.slice (some ad897) t883.length co44 : Value).ownBlock) (fun _ => False) rfl rfl ?aP (fun _ hk => hk.elim) ?aF ?aO ?aB ?aS ?aL ?_; (case aP => exact rfl); (case aB => exact (by repeat (first | (with_reducible first | exact HB.out | apply below_alloc | apply pw_below_drewN | apply below_drew1 | refine below_set ?_ GE882.out) | exact HB.out))); (case aF => exact (fun k_ hk => Kd.fresh' (Kd.R_lt (by (with_reducible repeat (first | apply Kd.R_alloc | apply Kd.R_drewN | apply Kd.R_drew)); exact HO_6.out)) k_ hk)); (case aO => exact (by (with_reducible repeat (first | apply Kd.R_alloc | apply Kd.R_drewN | apply Kd.R_drew)); exact HO_9.out)); (case aS => exact (below_size (by repeat (first | (with_reducible first | exact HB.out | apply below_alloc | apply pw_below_drewN | apply below_drew1 | refine below_set ?_ GE882.out) | exact HB.out)))); (case aL => have := LMc43.out; omega); intro v903 w45 ho hb hg hat; rw [← Ny902.out] at ho; have n0_ := Aside0.mk (Kd.R_after (ok := (fun _ => True)) (by (with_reducible repeat (first | apply Kd.R_alloc | apply Kd.R_drewN | apply Kd.R_drew)); exact Kd.R_mono HO_6.out (fun _ hk => ⟨trivial, hk⟩)) hg hat); have n1_ := Aside0.mk (blk_grown (g := gb882) (o := .cells #[.slice (some ad896) l0_0.length c0_0, .bool a0_1] 24 (0, 0)) (by (with_reducible repeat (first | refine blk_drewN ?_ _ | refine blk_drew ?_ | refine blk_alloc ?_ _)); exact BK882.out) hg (Kd.R_ne HO_9.out BK882.out (by decide))); have n2_ := Aside0.mk (hb); have n3_ := Aside0.mk (ho); clear HO_6; clear BK882; clear HB; clear HO_9; have HO_6 := n0_; have BK882 := n1_; have HB := n2_; have HO904 := n3_; clear n0_ n1_ n2_ n3_; clear ho hb hg hat))
                          go_roundg k2
                          case measure => have := HJ3.out; have := HK2.out; omega
                          case rel => exact ⟨(y902), (wrap64 (x61_2 + 1)), (by first | rfl | (simp; done) | (simp [*]; done)), H', ⟨by have := HJ3.out; have := HK2.out; omega⟩, ⟨by (with_reducible repeat (first | apply Kd.R_alloc | apply Kd.R_drewN | apply Kd.R_drew)); exact Kd.R_mono HO_6.out (fun _ hk => hk.2)⟩, ⟨by (with_reducible repeat (first | apply Kd.R_alloc | apply Kd.R_drewN | apply Kd.R_drew)); exact HO904.out⟩, ⟨by (with_reducible repeat (first | refine blk_drewN ?_ _ | refine blk_drew ?_ | refine blk_alloc ?_ _)); exact BK882.out⟩, ⟨by repeat (first | (with_reducible first | exact HB.out | apply below_alloc | apply pw_below_drewN | apply below_drew1 | refine below_set ?_ GE882.out) | exact HB.out)⟩⟩
                        · rw [if_neg c43] at H
                          exact absurd H (by simp)
                      · replace c42 := Bool.eq_false_iff.mpr c42
                        subst c42
                        have H1 : (stockyardref03_Match.l0 k2 t883 (l0_0.length : Int) x9_2 l0_0 (l0_0.length : Int) (wrap64 (x61_2 + 1)) l0_0 a0_1) = some (r1, r2) := by rw [if_neg (show ¬ (false = true) by decide)] at H; exact H
                        clear H
                        have H := H1
                        clear H1
                        have H' := Aside0.mk H
                        clear H
                        have p896 : 0 ≤ (x61_2 : Int) := of_decide_eq_true (by first | (with_reducible assumption) | assumption)
                        have q896 : x61_2 < (l0_0.length : Int) := of_decide_eq_true (by first | (with_reducible assumption) | assumption)
                        obtain ⟨ad896, e896, hx896_0⟩ := Kd.at_string HR0_0.out x61_2 p896 q896
                        cases e896
                        replace hx896_0 := (HB.out.cell (World.block_lt_of_cell? w _ hx896_0)).trans hx896_0
                        replace p896 := eq_true p896
                        replace q896 := eq_true q896
                        obtain ⟨Ao46, co46, eo46⟩ := Kd.R_slice HO_6.out
                        subst eo46
                        have p897 : 0 ≤ (x61_2 : Int) := of_decide_eq_true (by first | (with_reducible assumption) | assumption)
                        have q897 : x61_2 < (t883.length : Int) := of_decide_eq_true (by first | (with_reducible assumption) | assumption)
                        obtain ⟨ad897, e897, hx897_0⟩ := Kd.at_string (Kd.R_reads' HO_6.out).2.2 x61_2 p897 q897
                        cases e897
                        replace p897 := eq_true p897
                        replace q897 := eq_true q897
                        go_wp2_with (first | ((with_reducible refine gate_callee (f := 58) rfl ?_); refine goesL_ (some 72) rfl rfl Tryd.func58 (by kernel_rfl) rfl #[.string (rdOf ByteArray.empty l0_0 x61_2), .string (rdOf ByteArray.empty t883 x61_2)] rfl (by (try simp only [List.map_toArray, List.map_cons, List.map_nil]); first | done | rfl | (simp only [List.length_drop, List.length_take]; rfl)) ?_; (with_reducible refine (stockyardref03_Capture.calls k2 (rdOf ByteArray.empty l0_0 x61_2) (rdOf ByteArray.empty t883 x61_2) t898 true _ A39.out).mono ?_); rintro e w' ⟨rfl, ⟨nd, rfl⟩⟩; refine ⟨_, rfl, ?_⟩) | ((with_reducible refine gate_callee (f := 42) rfl ?_); refine goesL_ (some 79) rfl rfl Tryd.func42 (by kernel_rfl) rfl #[.string (rdOf ByteArray.empty l0_0 x61_2)] rfl (by (try simp only [List.map_toArray, List.map_cons, List.map_nil]); first | done | rfl | (simp only [List.length_drop, List.length_take]; rfl)) ?_; (with_reducible refine (stockyardref03_Star.calls k2 (rdOf ByteArray.empty l0_0 x61_2) t900 false _ A41.out).mono ?_); rintro e w' ⟨rfl, ⟨nd, rfl⟩⟩; refine ⟨_, rfl, ?_⟩))
                        go_roundg k2
                        case measure => have := HJ3.out; have := HK2.out; omega
                        case rel => exact ⟨(x9_2), (wrap64 (x61_2 + 1)), (by first | rfl | (simp; done) | (simp [*]; done)), H', ⟨by have := HJ3.out; have := HK2.out; omega⟩, ⟨by (with_reducible repeat (first | apply Kd.R_alloc | apply Kd.R_drewN | apply Kd.R_drew)); exact HO_6.out⟩, ⟨by (with_reducible repeat (first | apply Kd.R_alloc | apply Kd.R_drewN | apply Kd.R_drew)); exact HO_9.out⟩, ⟨by (with_reducible repeat (first | refine blk_drewN ?_ _ | refine blk_drew ?_ | refine blk_alloc ?_ _)); exact BK882.out⟩, ⟨by repeat (first | (with_reducible first | exact HB.out | apply below_alloc | apply pw_below_drewN | apply below_drew1 | refine below_set ?_ GE882.out) | exact HB.out)⟩⟩
                    · replace c40 := Bool.eq_false_iff.mpr c40
                      subst c40
                      have H1 : (some (([] : List ByteArray), false)) = some (r1, r2) := by rw [if_neg (show ¬ (false = true) by decide)] at H; exact H
                      clear H
                      have H := H1
                      clear H1
                      simp only [Option.some.injEq, Prod.mk.injEq] at H
                      obtain ⟨rfl, rfl⟩ := H
                      have p896 : 0 ≤ (x61_2 : Int) := of_decide_eq_true (by first | (with_reducible assumption) | assumption)
                      have q896 : x61_2 < (l0_0.length : Int) := of_decide_eq_true (by first | (with_reducible assumption) | assumption)
                      obtain ⟨ad896, e896, hx896_0⟩ := Kd.at_string HR0_0.out x61_2 p896 q896
                      cases e896
                      replace hx896_0 := (HB.out.cell (World.block_lt_of_cell? w _ hx896_0)).trans hx896_0
                      replace p896 := eq_true p896
                      replace q896 := eq_true q896
                      obtain ⟨Ao47, co47, eo47⟩ := Kd.R_slice HO_6.out
                      subst eo47
                      have p897 : 0 ≤ (x61_2 : Int) := of_decide_eq_true (by first | (with_reducible assumption) | assumption)
                      have q897 : x61_2 < (t883.length : Int) := of_decide_eq_true (by first | (with_reducible assumption) | assumption)
                      obtain ⟨ad897, e897, hx897_0⟩ := Kd.at_string (Kd.R_reads' HO_6.out).2.2 x61_2 p897 q897
                      cases e897
                      replace p897 := eq_true p897
                      replace q897 := eq_true q897
                      go_wp2_with (first | ((with_reducible refine gate_callee (f := 58) rfl ?_); refine goesL_ (some 72) rfl rfl Tryd.func58 (by kernel_rfl) rfl #[.string (rdOf ByteArray.empty l0_0 x61_2), .string (rdOf ByteArray.empty t883 x61_2)] rfl (by (try simp only [List.map_toArray, List.map_cons, List.map_nil]); first | done | rfl | (simp only [List.length_drop, List.length_take]; rfl)) ?_; (with_reducible refine (stockyardref03_Capture.calls k2 (rdOf ByteArray.empty l0_0 x61_2) (rdOf ByteArray.empty t883 x61_2) t898 false _ A39.out).mono ?_); rintro e w' ⟨rfl, ⟨nd, rfl⟩⟩; refine ⟨_, rfl, ?_⟩))
                      go_ret2
                      exact ⟨_, by first | rfl | (simp [errW_none, errW_some] <;> rfl) | (simp [*, errW_none, errW_some] <;> rfl), by first | exact Kd.R_nil _ _ _ _ _ | exact Kd.N_nil _ _ _ _ _ | exact Kd.V_nil _ _ _ _ _ | exact Kd.Q_nil _ _ _ _ _ | exact Kd.S_nil _ _ _ _ _, by repeat (first | (with_reducible first | exact HB.out | apply below_alloc | apply pw_below_drewN | apply below_drew1 | refine below_set ?_ GE882.out) | exact HB.out)⟩
                  · rw [if_neg c38] at H
                    exact absurd H (by simp)
                · rw [if_neg c37] at H
                  exact absurd H (by simp)
              · rw [if_neg c36] at H
                exact absurd H (by simp)
            · rw [if_neg c35] at H
              have c35b0 : decide (x61_2 < (l0_0.length : Int)) = false := decide_eq_false c35
              clear c35
              by_cases c48 : a0_1 = true
              · subst c48
                have H1 : (if 0 ≤ (l0_0.length : Int) then (if (l0_0.length : Int) ≤ (t883.length : Int) then ((strings_Join.f (t883.drop ((l0_0.length : Int) : Int).toNat) (⟨#[47]⟩ : ByteArray)).bind fun t892 => (if x9_2.length < 8796093022208 then (some ((x9_2 ++ [t892]), true)) else (none))) else (none)) else (none)) = some (r1, r2) := by rw [if_pos rfl] at H; exact H
                clear H
                have H := H1
                clear H1
                by_cases c49 : 0 ≤ (l0_0.length : Int)
                · rw [if_pos c49] at H
                  have c49b0 := eq_true c49
                  have c49b1 : decide (0 ≤ (l0_0.length : Int)) = true := decide_eq_true c49
                  clear c49
                  by_cases c50 : (l0_0.length : Int) ≤ (t883.length : Int)
                  · rw [if_pos c50] at H
                    have c50b0 := eq_true c50
                    have c50b1 : decide ((l0_0.length : Int) ≤ (t883.length : Int)) = true := decide_eq_true c50
                    clear c50
                    obtain ⟨y888, hy888⟩ : ∃ y_ : List ByteArray, y_ = (t883.drop ((l0_0.length : Int) : Int).toNat) := ⟨_, rfl⟩
                    replace H : ((strings_Join.f y888 (⟨#[47]⟩ : ByteArray)).bind fun t892 => (if x9_2.length < 8796093022208 then (some ((x9_2 ++ [t892]), true)) else (none))) = some (r1, r2) := by first | (rw [hy888]; with_reducible exact H) | (have H2_ := (Option.bind_some _ _).symm.trans H; rw [hy888]; with_reducible exact H2_) | (have H2_ := (Option.bind_some _ _).symm.trans H; with_reducible exact H2_) | with_reducible exact H | (rw [hy888]; exact H) | exact H
                    have Ny888 := Aside0.mk hy888
                    clear hy888
                    replace H := Option.bind_eq_some_iff.mp H
                    obtain ⟨t892, A510, H⟩ := H
                    replace H : (if x9_2.length < 8796093022208 then (some ((x9_2 ++ [t892]), true)) else (none)) = some (r1, r2) := H
                    have A51 := Aside0.mk A510
                    clear A510
                    by_cases c52 : x9_2.length < 8796093022208
                    · rw [if_pos c52] at H
                      have LMc52 := Aside0.mk c52
                      clear c52
                      obtain ⟨y893, hy893⟩ : ∃ y_ : List ByteArray, y_ = (x9_2 ++ [t892]) := ⟨_, rfl⟩
                      replace H : (some (y893, true)) = some (r1, r2) := by first | (rw [hy893]; with_reducible exact H) | (have H2_ := (Option.bind_some _ _).symm.trans H; rw [hy893]; with_reducible exact H2_) | (have H2_ := (Option.bind_some _ _).symm.trans H; with_reducible exact H2_) | with_reducible exact H | (rw [hy893]; exact H) | exact H
                      have Ny893 := Aside0.mk hy893
                      clear hy893
                      simp only [Option.some.injEq, Prod.mk.injEq] at H
                      obtain ⟨rfl, rfl⟩ := H
                      have hcz53_0 : wr.cell? ⟨gb882, 0, none⟩ = some (.slice A0_0 l0_0.length c0_0) := (blk_cell BK882.out 0).trans rfl
                      have hcz53_1 : wr.cell? ⟨gb882, 1, none⟩ = some (.bool true) := (blk_cell BK882.out 1).trans rfl
                      have hfz53_0 := blk_frozen BK882.out 0
                      have hfz53_1 := blk_frozen BK882.out 1
                      obtain ⟨Ao55, co55, eo55⟩ := Kd.R_slice HO_6.out
                      subst eo55
                      have q54 : ((l0_0.length : Int) : Int) ≤ ((t883.length : Int) : Int) := of_decide_eq_true (by first | (with_reducible assumption) | assumption)
                      obtain ⟨i054, hi054, _, hsz54, _⟩ := info_parts info9
                      have hroom54 : t883.length ≤ co55 := (Kd.R_reads' HO_6.out).2.1
                      have hC54 : Kd.C Kd.string _ Ao55 t883.length t883 := (Kd.R_reads' HO_6.out).2.2
                      have q054 : (0 : Int) ≤ ((l0_0.length : Int) : Int) := of_decide_eq_true (by first | (with_reducible assumption) | assumption)
                      have hcut54 := cut_from (P := Tryd.prog) 22 9 .i64 Tryd.underlying22 hi054 1 hsz54 Ao55 t883.length co55 (l0_0.length : Int) q054 q54
                      have hr54 := Kd.C_drop (m := ((l0_0.length : Int) : Int).toNat) (c := co55) hC54 (by omega) hroom54
                      obtain ⟨A54, hA54⟩ : ∃ A1, A1 = (if co55 = ((l0_0.length : Int) : Int).toNat then Ao55 else (Ao55 : Option Addr).map (·.add (((l0_0.length : Int) : Int).toNat * 1))) := ⟨_, rfl⟩
                      obtain ⟨c54, hc54⟩ : ∃ c1, c1 = co55 - ((l0_0.length : Int) : Int).toNat := ⟨_, rfl⟩
                      have hy54 : y888.length = t883.length - ((l0_0.length : Int) : Int).toNat := (by rw [Ny888.out, List.length_drop] <;> omega)
                      rw [show (t883).drop ((l0_0.length : Int) : Int).toNat = y888 from Ny888.out.symm] at hr54
                      replace hr54 : Kd.C Kd.string _ A54 y888.length y888 := (by rw [hA54]; exact hr54)
                      rw [← hy54, ← hA54, ← hc54] at hcut54
                      have HR891 := Aside0.mk hr54
                      have HC891 := Aside0.mk (show y888.length ≤ c54 from by rw [hy54, hc54]; exact Nat.sub_le_sub_right hroom54 _)
                      clear hr54 hC54 hroom54 hi054 hsz54 hc54
                      have KY54 := Aside0.mk hy54
                      have KA54 := Aside0.mk hA54
                      clear hy54 hA54
                      have KL54 := Aside0.mk (show ((l0_0.length : Int) : Int).toNat ≤ t883.length from by omega)
                      replace q54 := eq_true q54
                      go_wp2_with (first | ((with_reducible refine gate_callee (f := 64) rfl ?_); refine goesL_ (some 94) rfl rfl Tryd.func64 (by kernel_rfl) rfl #[.slice A54 y888.length c54, .string (⟨#[47]⟩ : ByteArray)] rfl (by (try simp only [List.map_toArray, List.map_cons, List.map_nil]); first | done | rfl | (simp only [List.length_drop, List.length_take]; rfl)) ?_; (with_reducible refine (strings_Join.calls _ _ y888 (⟨#[47]⟩ : ByteArray) t892 _ ?side1 ?side2 A51.out).mono ?_); (case side1 => repeat (first | exact (by repeat (first | (with_reducible exact HR891.out) | (with_reducible refine Kd.C_alloc ?_ _) | (with_reducible refine Kd.C_drewN ?_ _) | (with_reducible refine Kd.C_drew ?_) | exact HR891.out)) | (with_reducible refine Kd.C_alloc ?_ _) | (with_reducible refine Kd.C_drewN ?_ _) | (with_reducible refine Kd.C_drew ?_))); (case side2 => exact HC891.out); rintro e w56 ⟨rfl, hb⟩; refine ⟨_, rfl, ?_⟩; have n0_ := Aside0.mk (Kd.R_below (by (with_reducible repeat (first | apply Kd.R_alloc | apply Kd.R_drewN | apply Kd.R_drew)); exact HO_6.out) hb); have n1_ := Aside0.mk (Kd.R_below (by (with_reducible repeat (first | apply Kd.R_alloc | apply Kd.R_drewN | apply Kd.R_drew)); exact HO_9.out) hb); have n2_ := Aside0.mk (blk_below (g := gb882) (o := .cells #[.slice A0_0 l0_0.length c0_0, .bool true] 24 (0, 0)) (by (with_reducible repeat (first | refine blk_drewN ?_ _ | refine blk_drew ?_ | refine blk_alloc ?_ _)); exact BK882.out) hb); have n3_ := Aside0.mk (Kd.C_below (by repeat (first | (with_reducible exact HR891.out) | (with_reducible refine Kd.C_alloc ?_ _) | (with_reducible refine Kd.C_drewN ?_ _) | (with_reducible refine Kd.C_drew ?_) | exact HR891.out)) hb); have n4_ := Aside0.mk (below_step (by repeat (first | (with_reducible first | exact HB.out | apply below_alloc | apply pw_below_drewN | apply below_drew1 | refine below_set ?_ GE882.out) | exact HB.out)) hb); clear HO_6; clear HO_9; clear BK882; clear HR891; clear HB; have HO_6 := n0_; have HO_9 := n1_; have BK882 := n2_; have HR891 := n3_; have HB := n4_; clear n0_ n1_ n2_ n3_ n4_; (try clear hb); (try clear hb2); (try clear hk); (try clear hi)) | ((with_reducible refine gate_builtin (b := .append) (xs := #[.tmp 90, .tmp 95]) rfl ?_); (try (refine gate_guard (by rfl) ?_; dsimp only)); at_builtin; refine Kd.R_append Kd.string (w0 := w) w.heap.size rfl (.tmp 90) (.tmp 95) 22 9 (.string ⟨#[]⟩) 16 rfl Tryd.underlying22 info9 rfl (by decide) (by omega) u9 x9_2 t892 [.string t892] (fun k_ => some k_ ≠ (.slice Ao55 t883.length co55 : Value).ownBlock) (fun _ => False) rfl rfl ?aP (fun _ hk => hk.elim) ?aF ?aO ?aB ?aS ?aL ?_; (case aP => exact rfl); (case aB => exact (by repeat (first | (with_reducible first | exact HB.out | apply below_alloc | apply pw_below_drewN | apply below_drew1 | refine below_set ?_ GE882.out) | exact HB.out))); (case aF => exact (fun k_ hk => Kd.fresh' (Kd.R_lt (by (with_reducible repeat (first | apply Kd.R_alloc | apply Kd.R_drewN | apply Kd.R_drew)); exact HO_6.out)) k_ hk)); (case aO => exact (by (with_reducible repeat (first | apply Kd.R_alloc | apply Kd.R_drewN | apply Kd.R_drew)); exact HO_9.out)); (case aS => exact (below_size (by repeat (first | (with_reducible first | exact HB.out | apply below_alloc | apply pw_below_drewN | apply below_drew1 | refine below_set ?_ GE882.out) | exact HB.out)))); (case aL => have := LMc52.out; omega); intro v894 w57 ho hb hg hat; rw [← Ny893.out] at ho; have n0_ := Aside0.mk (Kd.R_after (ok := (fun _ => True)) (by (with_reducible repeat (first | apply Kd.R_alloc | apply Kd.R_drewN | apply Kd.R_drew)); exact Kd.R_mono HO_6.out (fun _ hk => ⟨trivial, hk⟩)) hg hat); have n1_ := Aside0.mk (blk_grown (g := gb882) (o := .cells #[.slice A0_0 l0_0.length c0_0, .bool true] 24 (0, 0)) (by (with_reducible repeat (first | refine blk_drewN ?_ _ | refine blk_drew ?_ | refine blk_alloc ?_ _)); exact BK882.out) hg (Kd.R_ne HO_9.out BK882.out (by decide))); have n2_ := Aside0.mk (hb); have n3_ := Aside0.mk ((show Kd.C Kd.string w57 A54 y888.length y888 from by rw [Ny888.out, KA54.out]; exact Kd.C_drop (m := ((l0_0.length : Int) : Int).toNat) (c := co55) ((Kd.R_reads' (Kd.R_after (ok := (fun _ => True)) (by (with_reducible repeat (first | apply Kd.R_alloc | apply Kd.R_drewN | apply Kd.R_drew)); exact Kd.R_mono HO_6.out (fun _ hk => ⟨trivial, hk⟩)) hg hat)).2.2) KL54.out ((Kd.R_reads' (Kd.R_after (ok := (fun _ => True)) (by (with_reducible repeat (first | apply Kd.R_alloc | apply Kd.R_drewN | apply Kd.R_drew)); exact Kd.R_mono HO_6.out (fun _ hk => ⟨trivial, hk⟩)) hg hat)).2.1))); have n4_ := Aside0.mk (ho); clear HO_6; clear BK882; clear HB; clear HR891; clear HO_9; have HO_6 := n0_; have BK882 := n1_; have HB := n2_; have HR891 := n3_; have HO895 := n4_; clear n0_ n1_ n2_ n3_ n4_; clear ho hb hg hat))
                      go_ret2
                      exact ⟨_, by first | rfl | (simp [errW_none, errW_some] <;> rfl) | (simp [*, errW_none, errW_some] <;> rfl), by (with_reducible repeat (first | apply Kd.R_alloc | apply Kd.R_drewN | apply Kd.R_drew)); exact Kd.R_mono HO895.out (fun _ hk => trivial), by repeat (first | (with_reducible first | exact HB.out | apply below_alloc | apply pw_below_drewN | apply below_drew1 | refine below_set ?_ GE882.out) | exact HB.out)⟩
                    · rw [if_neg c52] at H
                      exact absurd H (by simp)
                  · rw [if_neg c50] at H
                    exact absurd H (by simp)
                · rw [if_neg c49] at H
                  exact absurd H (by simp)
              · replace c48 := Bool.eq_false_iff.mpr c48
                subst c48
                have H1 : (some (x9_2, true)) = some (r1, r2) := by rw [if_neg (show ¬ (false = true) by decide)] at H; exact H
                clear H
                have H := H1
                clear H1
                simp only [Option.some.injEq, Prod.mk.injEq] at H
                obtain ⟨rfl, rfl⟩ := H
                have hcz58_0 : wr.cell? ⟨gb882, 0, none⟩ = some (.slice A0_0 l0_0.length c0_0) := (blk_cell BK882.out 0).trans rfl
                have hcz58_1 : wr.cell? ⟨gb882, 1, none⟩ = some (.bool false) := (blk_cell BK882.out 1).trans rfl
                have hfz58_0 := blk_frozen BK882.out 0
                have hfz58_1 := blk_frozen BK882.out 1
                go_wp2
                go_ret2
                exact ⟨_, by first | rfl | (simp [errW_none, errW_some] <;> rfl) | (simp [*, errW_none, errW_some] <;> rfl), by (with_reducible repeat (first | apply Kd.R_alloc | apply Kd.R_drewN | apply Kd.R_drew)); exact Kd.R_mono HO_9.out (fun _ hk => trivial), by repeat (first | (with_reducible first | exact HB.out | apply below_alloc | apply pw_below_drewN | apply below_drew1 | refine below_set ?_ GE882.out) | exact HB.out)⟩

/-! ### stockyardlaw04_has: function 30 -/
def stockyardlaw04_has.f (k : Nat) (l0_0 : List ByteArray) (a0_1 : Bool) (a1 : ByteArray) : Option (Bool) := (stockyardref03_Match.f k l0_0 a0_1 a1).bind fun bt906 => (some bt906.2)
set_option maxHeartbeats 8000000 in
set_option maxRecDepth 100000 in
theorem stockyardlaw04_has.calls (k : Nat) (A0_0 : Option Addr) (c0_0 : Nat) (l0_0 : List ByteArray) (a0_1 : Bool) (a1 : ByteArray) (r : Bool) (w : World) (hr0_0 : Kd.C Kd.string w A0_0 l0_0.length l0_0) (hc0_0 : l0_0.length ≤ c0_0) (h : stockyardlaw04_has.f k l0_0 a0_1 a1 = some r) :
  Calls Tryd.prog 30 #[.agg #[.slice A0_0 l0_0.length c0_0, .bool a0_1], .string a1] w fun e w' => e = .returned (.bool r) ∧ Below w.heap.size w w' := by
 have hu24 := Tryd.underlying24
 have HR0_0 := Aside0.mk hr0_0
 have HC0_0 := Aside0.mk hc0_0
 clear hr0_0 hc0_0
 have HB := Aside0.mk (Below.refl w.heap.size w)
 have H : ((stockyardref03_Match.f k l0_0 a0_1 a1).bind fun bt906 => (some bt906.2)) = some r := h
 clear h
 replace H := Option.bind_eq_some_iff.mp H
 obtain ⟨⟨t906, t909⟩, A30, H⟩ := H
 replace H : (some t909) = some r := H
 have A3 := Aside0.mk A30
 clear A30
 obtain rfl := Option.some.inj H
 go_enter Tryd.func30, Tryd.ntmps30
 go_wp2_with (first | ((with_reducible refine gate_dst (N := 2) rfl ?_); refine box_event ?hg (N := 2) ?hd (cs := #[.slice A0_0 l0_0.length c0_0, .bool a0_1]) (t := 24) ?hr ?_; (case hd => rfl); (case hg => rfl); (case hr => first | (go_simp; done) | (go_simp; rfl)); intro gb905 hg w4 hbox hb; have BK905 := Aside0.mk hbox; have GW905 := gw_ HB hg; have GE905 := gw_ HB hg; replace HB := hs_ HB hb; clear hb hbox hg; obtain ⟨hcz5_0, hcz5_1, hfz5_0, hfz5_1⟩ := c2_ BK905) | ((with_reducible refine gate_callee (f := 52) rfl ?_); refine goesL_ (some 10) rfl rfl Tryd.func52 (by kernel_rfl) rfl #[.agg #[.slice A0_0 l0_0.length c0_0, .bool a0_1], .string a1] rfl gl_ ?_; (with_reducible refine (stockyardref03_Match.calls k _ _ l0_0 a0_1 a1 t906 t909 _ ?side1 ?side2 A3.out).mono ?_); (case side1 => exact sd_); (case side2 => exact HC0_0.out); rintro e w6 ⟨v907, rfl, ho0, hb⟩; refine ⟨_, rfl, ?_⟩; have n0_ := Aside0.mk (Kd.R_lower ho0 (below_size hb_)); replace BK905 := bb_ BK905 hb; replace HB := hs_ HB hb; have HO908 := n0_; clear n0_; (try clear hb); (try clear ho0)))
 go_ret
 exact ⟨rt_, hb_⟩

end Go.Proofs.YthclkdplihchjaaDoor.P

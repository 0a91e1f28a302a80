-- Written by a program of this session (wip/gen.py) over the kit's print: each Go function as a plain Lean function, and the proof that the Go code comes to it. Nothing here is trusted: Lean checks it.
import Derived.Test.YtnfpbnnhijiflaaDoorPx0
import Derived.Test.YtnfpbnnhijiflaaDoorPx1
import Derived.Test.YtnfpbnnhijiflaaDoorPx2
import Derived.Test.YtnfpbnnhijiflaaDoorPx3
import Derived.Test.YtnfpbnnhijiflaaDoorPx6
namespace Go.Proofs.YtnfpbnnhijiflaaDoor.P
open Go.RowKit Go.Proofs.YtnfpbnnhijiflaaDoorW.PrintWords Go.Proofs.YtnfpbnnhijiflaaDoorW.PrintLast Go.Proofs.YtnfpbnnhijiflaaDoorW.PrintMore
attribute [local go_sem] str_gtr str_leq str_geq max2_int min2_int max_two min_two max_three min_three max_four min_four   -- for this text's walks alone
set_option linter.unusedVariables false
set_option linter.unusedSimpArgs false

/-! ### strings_HasPrefix: function 61 -/
def strings_HasPrefix.f (a0 : ByteArray) (a1 : ByteArray) : Option (Bool) := (stringslite_HasPrefix.f a0 a1).bind fun t359 => (some t359)
set_option maxHeartbeats 8000000 in
set_option maxRecDepth 100000 in
theorem strings_HasPrefix.calls (a0 : ByteArray) (a1 : ByteArray) (r : Bool) (w : World) (h : strings_HasPrefix.f a0 a1 = some r) :
    Calls Tryd.prog 61 #[.string a0, .string a1] w fun e w' => e = .returned (.bool r) ∧ Drawn0 w w' := by
  have H : ((stringslite_HasPrefix.f a0 a1).bind fun t359 => (some t359)) = some r := h
  clear h
  replace H := Option.bind_eq_some_iff.mp H
  obtain ⟨t359, A30, H⟩ := H
  replace H : (some t359) = some r := H
  have A3 := Aside0.mk A30
  clear A30
  obtain rfl := Option.some.inj H
  go_enter Tryd.func61, Tryd.ntmps61
  go_wp2_with (first | ((with_reducible refine gate_callee (f := 62) rfl ?_); refine goesL_ (some 7) rfl rfl Tryd.func62 (by kernel_rfl) rfl #[.string a0, .string a1] rfl (by (try simp only [List.map_toArray, List.map_cons, List.map_nil]); first | done | rfl | (simp only [List.length_drop, List.length_take]; rfl)) ?_; (with_reducible refine (stringslite_HasPrefix.calls a0 a1 t359 _ A3.out).mono ?_); rintro e w' ⟨rfl, ⟨nd, rfl⟩⟩; refine ⟨_, rfl, ?_⟩))
  go_ret
  exact ⟨by first | rfl | (simp; done) | (simp [*]; done), by repeat (first | exact Drawn0.refl _ | apply Drawn0.step)⟩

/-! ### stockyardref02_Parts: function 52 -/
def stockyardref02_Parts.l0 : Nat → List ByteArray → List ByteArray → Int → Int → Option (List ByteArray × Bool)
  | 0, _, _, _, _ => none
  | k + 1, x4, x13, x14, x15 => if x15 < x14 then (if 0 ≤ x15 then (if x15 < (x13.length : Int) then ((stockyardref02_Component.f k (rdOf ByteArray.empty x13 x15)).bind fun t365 => (if t365 = true then (stockyardref02_Parts.l0 k x4 x13 x14 (wrap64 (x15 + 1))) else (some (([] : List ByteArray), false)))) else (none)) else (none)) else (some (x4, true))
def stockyardref02_Parts.f (k : Nat) (a0 : ByteArray) : Option (List ByteArray × Bool) := (strings_HasPrefix.f a0 (⟨#[47, 47]⟩ : ByteArray)).bind fun t360 => (if t360 = true then (if 2 ≤ (a0.size : Int) then ((strings_Split.f (a0.extract 2 a0.size) (⟨#[47]⟩ : ByteArray)).bind fun t361 => (stockyardref02_Parts.l0 k t361 t361 (t361.length : Int) 0)) else (none)) else (some (([] : List ByteArray), false)))
theorem stockyardref02_Parts.mono_l : ∀ k, (∀ y0 y1 y2 y3, LeO (stockyardref02_Parts.l0 k y0 y1 y2 y3) (stockyardref02_Parts.l0 (k + 1) y0 y1 y2 y3))
  | 0 => fun _ _ _ _ r h => by simp [stockyardref02_Parts.l0] at h
  | k + 1 => by
    have ih0 := stockyardref02_Parts.mono_l k
    · intro y0 y1 y2 y3
      unfold stockyardref02_Parts.l0
      repeat' first
      | (with_reducible exact ih0 _ _ _ _)
      | (with_reducible exact stockyardref02_Component.mono _ _)
      | (with_reducible exact LeO.refl _)
      | (with_reducible exact LeO.none _)
      | (with_reducible refine LeO.ite ?_ ?_)
      | (with_reducible refine LeO.bind ?_ (fun _ => ?_))
      | exact ih0 _ _ _ _
      | exact stockyardref02_Component.mono _ _
      | exact LeO.none _
      | refine LeO.ite ?_ ?_
      | refine LeO.bind ?_ (fun _ => ?_)
theorem stockyardref02_Parts.mono : ∀ a0 k, LeO (stockyardref02_Parts.f k a0) (stockyardref02_Parts.f (k + 1) a0) := by
  intro a0 k
  have ih0 := stockyardref02_Parts.mono_l k
  unfold stockyardref02_Parts.f
  repeat' first
      | (with_reducible exact ih0 _ _ _ _)
      | (with_reducible exact stockyardref02_Component.mono _ _)
      | (with_reducible exact LeO.refl _)
      | (with_reducible exact LeO.none _)
      | (with_reducible refine LeO.ite ?_ ?_)
      | (with_reducible refine LeO.bind ?_ (fun _ => ?_))
      | exact ih0 _ _ _ _
      | exact stockyardref02_Component.mono _ _
      | exact LeO.none _
      | refine LeO.ite ?_ ?_
      | refine LeO.bind ?_ (fun _ => ?_)
set_option maxHeartbeats 8000000 in
set_option maxRecDepth 100000 in
theorem stockyardref02_Parts.calls (k : Nat) (a0 : ByteArray) (r1 : List ByteArray) (r2 : Bool) (w : World) (h : stockyardref02_Parts.f k a0 = some (r1, r2)) :
    Calls Tryd.prog 52 #[.string a0] w fun e w' => ∃ v0_ : Value, e = .returned (.tuple #[v0_, .bool r2]) ∧ Kd.R Kd.string 9 w' w.heap.size (fun _ => True) v0_ r1 ∧ Below w.heap.size w w' := by
  have HB := Aside0.mk (Below.refl w.heap.size w)
  have H : ((strings_HasPrefix.f a0 (⟨#[47, 47]⟩ : ByteArray)).bind fun t360 => (if t360 = true then (if 2 ≤ (a0.size : Int) then ((strings_Split.f (a0.extract 2 a0.size) (⟨#[47]⟩ : ByteArray)).bind fun t361 => (stockyardref02_Parts.l0 k t361 t361 (t361.length : Int) 0)) else (none)) else (some (([] : List ByteArray), false)))) = some (r1, r2) := h
  clear h
  replace H := Option.bind_eq_some_iff.mp H
  obtain ⟨t360, A20, H⟩ := H
  replace H : (if t360 = true then (if 2 ≤ (a0.size : Int) then ((strings_Split.f (a0.extract 2 a0.size) (⟨#[47]⟩ : ByteArray)).bind fun t361 => (stockyardref02_Parts.l0 k t361 t361 (t361.length : Int) 0)) else (none)) else (some (([] : List ByteArray), false))) = some (r1, r2) := H
  have A2 := Aside0.mk A20
  clear A20
  by_cases c3 : t360 = true
  · subst c3
    have H1 : (if 2 ≤ (a0.size : Int) then ((strings_Split.f (a0.extract 2 a0.size) (⟨#[47]⟩ : ByteArray)).bind fun t361 => (stockyardref02_Parts.l0 k t361 t361 (t361.length : Int) 0)) else (none)) = some (r1, r2) := by rw [if_pos rfl] at H; exact H
    clear H
    have H := H1
    clear H1
    by_cases c4 : 2 ≤ (a0.size : Int)
    · rw [if_pos c4] at H
      have c4b0 := eq_true c4
      have c4b1 : decide (2 ≤ (a0.size : Int)) = true := decide_eq_true c4
      clear c4
      replace H := Option.bind_eq_some_iff.mp H
      obtain ⟨t361, A50, H⟩ := H
      replace H : (stockyardref02_Parts.l0 k t361 t361 (t361.length : Int) 0) = some (r1, r2) := H
      have A5 := Aside0.mk A50
      clear A50
      have H' := Aside0.mk H
      clear H
      go_enter Tryd.func52, Tryd.ntmps52
      go_wp2_with (first | ((with_reducible refine gate_callee (f := 61) rfl ?_); refine goesL_ (some 8) rfl rfl Tryd.func61 (by kernel_rfl) rfl #[.string a0, .string (⟨#[47, 47]⟩ : ByteArray)] rfl (by (try simp only [List.map_toArray, List.map_cons, List.map_nil]); first | done | rfl | (simp only [List.length_drop, List.length_take]; rfl)) ?_; (with_reducible refine (strings_HasPrefix.calls a0 (⟨#[47, 47]⟩ : ByteArray) true _ A2.out).mono ?_); rintro e w' ⟨rfl, ⟨nd, rfl⟩⟩; refine ⟨_, rfl, ?_⟩) | ((with_reducible refine gate_callee (f := 37) rfl ?_); refine goesL_ (some 12) rfl rfl Tryd.func37 (by kernel_rfl) rfl #[.string (a0.extract 2 a0.size), .string (⟨#[47]⟩ : ByteArray)] rfl (by (try simp only [List.map_toArray, List.map_cons, List.map_nil]); first | done | rfl | (simp only [List.length_drop, List.length_take]; rfl)) ?_; (with_reducible refine (strings_Split.calls (a0.extract 2 a0.size) (⟨#[47]⟩ : ByteArray) t361 _ A5.out).mono ?_); rintro e w6 ⟨v362, rfl, ho0, hb⟩; refine ⟨_, rfl, ?_⟩; have n0_ := Aside0.mk (Kd.R_lower ho0 (below_size (by repeat (first | (with_reducible first | exact HB.out | apply below_alloc | apply pw_below_drewN | apply below_drew1) | exact HB.out)))); have n1_ := Aside0.mk (below_step (by repeat (first | (with_reducible first | exact HB.out | apply below_alloc | apply pw_below_drewN | apply below_drew1) | exact HB.out)) hb); clear HB; have HO363 := n0_; have HB := n1_; clear n0_ n1_; (try clear hb); (try clear hb2); (try clear hk); (try clear hi); (try clear ho0); obtain ⟨Ao7, co7, eo7⟩ := Kd.R_slice HO363.out; subst eo7))
      go_loopg [15] k (fun kq v15 w' => ∃ (x15_1 : Int), v15 = .int .i64 x15_1 ∧ Aside0 (stockyardref02_Parts.l0 kq t361 t361 (t361.length : Int) x15_1 = some (r1, r2)) ∧ Aside0 (kq ≤ k) ∧ Aside0 (Kd.R Kd.string 9 w' w.heap.size (fun _ => True) (.slice Ao7 t361.length co7) t361) ∧ Aside0 (Kd.R Kd.string 9 w' w.heap.size (fun _ => True) (.slice Ao7 t361.length co7) t361) ∧ Aside0 (Below w.heap.size w w'))
      case atStart => exact ⟨(0), (by first | rfl | (simp; done) | (simp [*]; done)), H', ⟨Nat.le_refl _⟩, ⟨by (with_reducible repeat (first | apply Kd.R_alloc | apply Kd.R_drewN | apply Kd.R_drew)); exact HO363.out⟩, ⟨by (with_reducible repeat (first | apply Kd.R_alloc | apply Kd.R_drewN | apply Kd.R_drew)); exact HO363.out⟩, ⟨by repeat (first | (with_reducible first | exact HB.out | apply below_alloc | apply pw_below_drewN | apply below_drew1) | exact HB.out)⟩⟩
      case round =>
        clear H'
        try clear p2
        try clear c3
        try clear c4
        try clear c4b0
        try clear c4b1
        try clear c5
        try clear c6
        obtain ⟨x15_1, rfl, HA, HK1, HO_4, HO_13, HB⟩ := hrel
        cases gk with
        | zero => exact absurd HA.out (by simp [stockyardref02_Parts.l0])
        | succ k1 =>
          have H := HA.out
          clear HA
          simp only [stockyardref02_Parts.l0] at H
          by_cases c8 : x15_1 < (t361.length : Int)
          · rw [if_pos c8] at H
            have c8b0 : decide (x15_1 < (t361.length : Int)) = true := decide_eq_true c8
            clear c8
            by_cases c9 : 0 ≤ x15_1
            · rw [if_pos c9] at H
              have c9b0 : decide (0 ≤ x15_1) = true := decide_eq_true c9
              clear c9
              by_cases c10 : x15_1 < (t361.length : Int)
              · rw [if_pos c10] at H
                have c10b0 : decide (x15_1 < (t361.length : Int)) = true := decide_eq_true c10
                clear c10
                replace H := Option.bind_eq_some_iff.mp H
                obtain ⟨t365, A110, H⟩ := H
                replace H : (if t365 = true then (stockyardref02_Parts.l0 k1 t361 t361 (t361.length : Int) (wrap64 (x15_1 + 1))) else (some (([] : List ByteArray), false))) = some (r1, r2) := H
                have A11 := Aside0.mk A110
                clear A110
                by_cases c12 : t365 = true
                · subst c12
                  have H1 : (stockyardref02_Parts.l0 k1 t361 t361 (t361.length : Int) (wrap64 (x15_1 + 1))) = some (r1, r2) := by rw [if_pos rfl] at H; exact H
                  clear H
                  have H := H1
                  clear H1
                  have H' := Aside0.mk H
                  clear H
                  have p364 : 0 ≤ (x15_1 : Int) := of_decide_eq_true (by first | (with_reducible assumption) | assumption)
                  have q364 : x15_1 < (t361.length : Int) := of_decide_eq_true (by first | (with_reducible assumption) | assumption)
                  obtain ⟨ad364, e364, hx364_0⟩ := Kd.at_string (Kd.R_reads' HO_13.out).2.2 x15_1 p364 q364
                  cases e364
                  replace p364 := eq_true p364
                  replace q364 := eq_true q364
                  go_wp2_with (first | ((with_reducible refine gate_callee (f := 30) rfl ?_); refine goesL_ (some 20) rfl rfl Tryd.func30 (by kernel_rfl) rfl #[.string (rdOf ByteArray.empty t361 x15_1)] rfl (by (try simp only [List.map_toArray, List.map_cons, List.map_nil]); first | done | rfl | (simp only [List.length_drop, List.length_take]; rfl)) ?_; (with_reducible refine (stockyardref02_Component.calls k1 (rdOf ByteArray.empty t361 x15_1) true _ A11.out).mono ?_); rintro e w' ⟨rfl, ⟨nd, rfl⟩⟩; refine ⟨_, rfl, ?_⟩))
                  go_roundg k1
                  case measure => have := HK1.out; omega
                  case rel => exact ⟨(wrap64 (x15_1 + 1)), (by first | rfl | (simp; done) | (simp [*]; done)), H', ⟨by have := HK1.out; omega⟩, ⟨by (with_reducible repeat (first | apply Kd.R_alloc | apply Kd.R_drewN | apply Kd.R_drew)); exact HO_4.out⟩, ⟨by (with_reducible repeat (first | apply Kd.R_alloc | apply Kd.R_drewN | apply Kd.R_drew)); exact HO_13.out⟩, ⟨by repeat (first | (with_reducible first | exact HB.out | apply below_alloc | apply pw_below_drewN | apply below_drew1) | exact HB.out)⟩⟩
                · replace c12 := Bool.eq_false_iff.mpr c12
                  subst c12
                  have H1 : (some (([] : List ByteArray), false)) = some (r1, r2) := by rw [if_neg (show ¬ (false = true) by decide)] at H; exact H
                  clear H
                  have H := H1
                  clear H1
                  simp only [Option.some.injEq, Prod.mk.injEq] at H
                  obtain ⟨rfl, rfl⟩ := H
                  have p364 : 0 ≤ (x15_1 : Int) := of_decide_eq_true (by first | (with_reducible assumption) | assumption)
                  have q364 : x15_1 < (t361.length : Int) := of_decide_eq_true (by first | (with_reducible assumption) | assumption)
                  obtain ⟨ad364, e364, hx364_0⟩ := Kd.at_string (Kd.R_reads' HO_13.out).2.2 x15_1 p364 q364
                  cases e364
                  replace p364 := eq_true p364
                  replace q364 := eq_true q364
                  go_wp2_with (first | ((with_reducible refine gate_callee (f := 30) rfl ?_); refine goesL_ (some 20) rfl rfl Tryd.func30 (by kernel_rfl) rfl #[.string (rdOf ByteArray.empty t361 x15_1)] rfl (by (try simp only [List.map_toArray, List.map_cons, List.map_nil]); first | done | rfl | (simp only [List.length_drop, List.length_take]; rfl)) ?_; (with_reducible refine (stockyardref02_Component.calls k1 (rdOf ByteArray.empty t361 x15_1) false _ A11.out).mono ?_); rintro e w' ⟨rfl, ⟨nd, rfl⟩⟩; refine ⟨_, rfl, ?_⟩))
                  go_ret2
                  exact ⟨_, by first | rfl | (simp [errW_none, errW_some] <;> rfl) | (simp [*, errW_none, errW_some] <;> rfl), by first | exact Kd.R_nil _ _ _ _ _ | exact Kd.N_nil _ _ _ _ _ | exact Kd.V_nil _ _ _ _ _ | exact Kd.Q_nil _ _ _ _ _ | exact Kd.S_nil _ _ _ _ _, by repeat (first | (with_reducible first | exact HB.out | apply below_alloc | apply pw_below_drewN | apply below_drew1) | exact HB.out)⟩
              · rw [if_neg c10] at H
                exact absurd H (by simp)
            · rw [if_neg c9] at H
              exact absurd H (by simp)
          · rw [if_neg c8] at H
            have c8b0 : decide (x15_1 < (t361.length : Int)) = false := decide_eq_false c8
            clear c8
            simp only [Option.some.injEq, Prod.mk.injEq] at H
            obtain ⟨rfl, rfl⟩ := H
            go_wp2
            go_ret2
            exact ⟨_, by first | rfl | (simp [errW_none, errW_some] <;> rfl) | (simp [*, errW_none, errW_some] <;> rfl), by (with_reducible repeat (first | apply Kd.R_alloc | apply Kd.R_drewN | apply Kd.R_drew)); exact HO_4.out, by repeat (first | (with_reducible first | exact HB.out | apply below_alloc | apply pw_below_drewN | apply below_drew1) | exact HB.out)⟩
    · rw [if_neg c4] at H
      exact absurd H (by simp)
  · replace c3 := Bool.eq_false_iff.mpr c3
    subst c3
    have H1 : (some (([] : List ByteArray), false)) = some (r1, r2) := by rw [if_neg (show ¬ (false = true) by decide)] at H; exact H
    clear H
    have H := H1
    clear H1
    simp only [Option.some.injEq, Prod.mk.injEq] at H
    obtain ⟨rfl, rfl⟩ := H
    go_enter Tryd.func52, Tryd.ntmps52
    go_wp2_with (first | ((with_reducible refine gate_callee (f := 61) rfl ?_); refine goesL_ (some 8) rfl rfl Tryd.func61 (by kernel_rfl) rfl #[.string a0, .string (⟨#[47, 47]⟩ : ByteArray)] rfl (by (try simp only [List.map_toArray, List.map_cons, List.map_nil]); first | done | rfl | (simp only [List.length_drop, List.length_take]; rfl)) ?_; (with_reducible refine (strings_HasPrefix.calls a0 (⟨#[47, 47]⟩ : ByteArray) false _ A2.out).mono ?_); rintro e w' ⟨rfl, ⟨nd, rfl⟩⟩; refine ⟨_, rfl, ?_⟩))
    go_ret2
    exact ⟨_, by first | rfl | (simp [errW_none, errW_some] <;> rfl) | (simp [*, errW_none, errW_some] <;> rfl), by first | exact Kd.R_nil _ _ _ _ _ | exact Kd.N_nil _ _ _ _ _ | exact Kd.V_nil _ _ _ _ _ | exact Kd.Q_nil _ _ _ _ _ | exact Kd.S_nil _ _ _ _ _, by repeat (first | (with_reducible first | exact HB.out | apply below_alloc | apply pw_below_drewN | apply below_drew1) | exact HB.out)⟩

/-! ### stockyardref02_Path: function 39 -/
def stockyardref02_Path.f (k : Nat) (a0 : ByteArray) : Option (List ByteArray × Bool) := (stockyardref02_Parts.f k a0).bind fun bt366 => (if bt366.2 = true then (if (bt366.1.length : Int) < 2 then (some (([] : List ByteArray), false)) else (some (bt366.1, true))) else (some (([] : List ByteArray), false)))
theorem stockyardref02_Path.mono : ∀ a0 k, LeO (stockyardref02_Path.f k a0) (stockyardref02_Path.f (k + 1) a0) := by
  intro a0 k
  unfold stockyardref02_Path.f
  repeat' first
      | (with_reducible exact stockyardref02_Parts.mono _ _)
      | (with_reducible exact LeO.refl _)
      | (with_reducible exact LeO.none _)
      | (with_reducible refine LeO.ite ?_ ?_)
      | (with_reducible refine LeO.bind ?_ (fun _ => ?_))
      | exact stockyardref02_Parts.mono _ _
      | exact LeO.none _
      | refine LeO.ite ?_ ?_
      | refine LeO.bind ?_ (fun _ => ?_)
set_option maxHeartbeats 8000000 in
set_option maxRecDepth 100000 in
theorem stockyardref02_Path.calls (k : Nat) (a0 : ByteArray) (r1 : List ByteArray) (r2 : Bool) (w : World) (h : stockyardref02_Path.f k a0 = some (r1, r2)) :
    Calls Tryd.prog 39 #[.string a0] w fun e w' => ∃ v0_ : Value, e = .returned (.tuple #[v0_, .bool r2]) ∧ Kd.R Kd.string 9 w' w.heap.size (fun _ => True) v0_ r1 ∧ Below w.heap.size w w' := by
  have HB := Aside0.mk (Below.refl w.heap.size w)
  have H : ((stockyardref02_Parts.f k a0).bind fun bt366 => (if bt366.2 = true then (if (bt366.1.length : Int) < 2 then (some (([] : List ByteArray), false)) else (some (bt366.1, true))) else (some (([] : List ByteArray), false)))) = some (r1, r2) := h
  clear h
  replace H := Option.bind_eq_some_iff.mp H
  obtain ⟨⟨t366, t367⟩, A20, H⟩ := H
  replace H : (if t367 = true then (if (t366.length : Int) < 2 then (some (([] : List ByteArray), false)) else (some (t366, true))) else (some (([] : List ByteArray), false))) = some (r1, r2) := H
  have A2 := Aside0.mk A20
  clear A20
  by_cases c3 : t367 = true
  · subst c3
    have H1 : (if (t366.length : Int) < 2 then (some (([] : List ByteArray), false)) else (some (t366, true))) = some (r1, r2) := by rw [if_pos rfl] at H; exact H
    clear H
    have H := H1
    clear H1
    by_cases c4 : (t366.length : Int) < 2
    · rw [if_pos c4] at H
      have c4b0 : decide ((t366.length : Int) < 2) = true := decide_eq_true c4
      have c4b1 : decide (t366.length < 2) = true := decide_eq_true (by omega)
      clear c4
      simp only [Option.some.injEq, Prod.mk.injEq] at H
      obtain ⟨rfl, rfl⟩ := H
      go_enter Tryd.func39, Tryd.ntmps39
      go_wp2_with (first | ((with_reducible refine gate_callee (f := 52) rfl ?_); refine goesL_ (some 8) rfl rfl Tryd.func52 (by kernel_rfl) rfl #[.string a0] rfl (by (try simp only [List.map_toArray, List.map_cons, List.map_nil]); first | done | rfl | (simp only [List.length_drop, List.length_take]; rfl)) ?_; (with_reducible refine (stockyardref02_Parts.calls k a0 t366 true _ A2.out).mono ?_); rintro e w5 ⟨v368, rfl, ho0, hb⟩; refine ⟨_, rfl, ?_⟩; have n0_ := Aside0.mk (Kd.R_lower ho0 (below_size (by repeat (first | (with_reducible first | exact HB.out | apply below_alloc | apply pw_below_drewN | apply below_drew1) | exact HB.out)))); have n1_ := Aside0.mk (below_step (by repeat (first | (with_reducible first | exact HB.out | apply below_alloc | apply pw_below_drewN | apply below_drew1) | exact HB.out)) hb); clear HB; have HO369 := n0_; have HB := n1_; clear n0_ n1_; (try clear hb); (try clear hb2); (try clear hk); (try clear hi); (try clear ho0); obtain ⟨Ao6, co6, eo6⟩ := Kd.R_slice HO369.out; subst eo6))
      go_ret2
      exact ⟨_, by first | rfl | (simp [errW_none, errW_some] <;> rfl) | (simp [*, errW_none, errW_some] <;> rfl), by first | exact Kd.R_nil _ _ _ _ _ | exact Kd.N_nil _ _ _ _ _ | exact Kd.V_nil _ _ _ _ _ | exact Kd.Q_nil _ _ _ _ _ | exact Kd.S_nil _ _ _ _ _, by repeat (first | (with_reducible first | exact HB.out | apply below_alloc | apply pw_below_drewN | apply below_drew1) | exact HB.out)⟩
    · rw [if_neg c4] at H
      have c4b0 : decide ((t366.length : Int) < 2) = false := decide_eq_false c4
      have c4b1 : decide (t366.length < 2) = false := decide_eq_false (by omega)
      clear c4
      simp only [Option.some.injEq, Prod.mk.injEq] at H
      obtain ⟨rfl, rfl⟩ := H
      go_enter Tryd.func39, Tryd.ntmps39
      go_wp2_with (first | ((with_reducible refine gate_callee (f := 52) rfl ?_); refine goesL_ (some 8) rfl rfl Tryd.func52 (by kernel_rfl) rfl #[.string a0] rfl (by (try simp only [List.map_toArray, List.map_cons, List.map_nil]); first | done | rfl | (simp only [List.length_drop, List.length_take]; rfl)) ?_; (with_reducible refine (stockyardref02_Parts.calls k a0 t366 true _ A2.out).mono ?_); rintro e w7 ⟨v368, rfl, ho0, hb⟩; refine ⟨_, rfl, ?_⟩; have n0_ := Aside0.mk (Kd.R_lower ho0 (below_size (by repeat (first | (with_reducible first | exact HB.out | apply below_alloc | apply pw_below_drewN | apply below_drew1) | exact HB.out)))); have n1_ := Aside0.mk (below_step (by repeat (first | (with_reducible first | exact HB.out | apply below_alloc | apply pw_below_drewN | apply below_drew1) | exact HB.out)) hb); clear HB; have HO369 := n0_; have HB := n1_; clear n0_ n1_; (try clear hb); (try clear hb2); (try clear hk); (try clear hi); (try clear ho0); obtain ⟨Ao8, co8, eo8⟩ := Kd.R_slice HO369.out; subst eo8))
      go_ret2
      exact ⟨_, by first | rfl | (simp [errW_none, errW_some] <;> rfl) | (simp [*, errW_none, errW_some] <;> rfl), by (with_reducible repeat (first | apply Kd.R_alloc | apply Kd.R_drewN | apply Kd.R_drew)); exact HO369.out, by repeat (first | (with_reducible first | exact HB.out | apply below_alloc | apply pw_below_drewN | apply below_drew1) | exact HB.out)⟩
  · replace c3 := Bool.eq_false_iff.mpr c3
    subst c3
    have H1 : (some (([] : List ByteArray), false)) = some (r1, r2) := by rw [if_neg (show ¬ (false = true) by decide)] at H; exact H
    clear H
    have H := H1
    clear H1
    simp only [Option.some.injEq, Prod.mk.injEq] at H
    obtain ⟨rfl, rfl⟩ := H
    go_enter Tryd.func39, Tryd.ntmps39
    go_wp2_with (first | ((with_reducible refine gate_callee (f := 52) rfl ?_); refine goesL_ (some 8) rfl rfl Tryd.func52 (by kernel_rfl) rfl #[.string a0] rfl (by (try simp only [List.map_toArray, List.map_cons, List.map_nil]); first | done | rfl | (simp only [List.length_drop, List.length_take]; rfl)) ?_; (with_reducible refine (stockyardref02_Parts.calls k a0 t366 false _ A2.out).mono ?_); rintro e w9 ⟨v368, rfl, ho0, hb⟩; refine ⟨_, rfl, ?_⟩; have n0_ := Aside0.mk (Kd.R_lower ho0 (below_size (by repeat (first | (with_reducible first | exact HB.out | apply below_alloc | apply pw_below_drewN | apply below_drew1) | exact HB.out)))); have n1_ := Aside0.mk (below_step (by repeat (first | (with_reducible first | exact HB.out | apply below_alloc | apply pw_below_drewN | apply below_drew1) | exact HB.out)) hb); clear HB; have HO369 := n0_; have HB := n1_; clear n0_ n1_; (try clear hb); (try clear hb2); (try clear hk); (try clear hi); (try clear ho0)))
    go_ret2
    exact ⟨_, by first | rfl | (simp [errW_none, errW_some] <;> rfl) | (simp [*, errW_none, errW_some] <;> rfl), by first | exact Kd.R_nil _ _ _ _ _ | exact Kd.N_nil _ _ _ _ _ | exact Kd.V_nil _ _ _ _ _ | exact Kd.Q_nil _ _ _ _ _ | exact Kd.S_nil _ _ _ _ _, by repeat (first | (with_reducible first | exact HB.out | apply below_alloc | apply pw_below_drewN | apply below_drew1) | exact HB.out)⟩

/-! ### stockyardref03_Capture: function 40 -/
def stockyardref03_Capture.f (k : Nat) (a0 : ByteArray) (a1 : ByteArray) : Option (ByteArray × Bool) := (stockyardref03_Star.f k a0).bind fun bt370 => (if bt370.2 = true then ((strings_HasSuffix.f a1 bt370.1).bind fun t372 => (if t372 = true then (if 0 ≤ (wrap64 ((a1.size : Int) - (bt370.1.size : Int))) then (if (wrap64 ((a1.size : Int) - (bt370.1.size : Int))) ≤ (a1.size : Int) then ((stockyardref02_Component.f k (a1.extract 0 ((wrap64 ((a1.size : Int) - (bt370.1.size : Int))) : Int).toNat)).bind fun t373 => (some (a1.extract 0 ((wrap64 ((a1.size : Int) - (bt370.1.size : Int))) : Int).toNat, t373))) else (none)) else (none)) else (some ((⟨#[]⟩ : ByteArray), false)))) else (some ((⟨#[]⟩ : ByteArray), (a0.toList == a1.toList))))
theorem stockyardref03_Capture.mono : ∀ a0 a1 k, LeO (stockyardref03_Capture.f k a0 a1) (stockyardref03_Capture.f (k + 1) a0 a1) := by
  intro a0 a1 k
  unfold stockyardref03_Capture.f
  repeat' first
      | (with_reducible exact stockyardref02_Component.mono _ _)
      | (with_reducible exact stockyardref03_Star.mono _ _)
      | (with_reducible exact LeO.refl _)
      | (with_reducible exact LeO.none _)
      | (with_reducible refine LeO.ite ?_ ?_)
      | (with_reducible refine LeO.bind ?_ (fun _ => ?_))
      | exact stockyardref02_Component.mono _ _
      | exact stockyardref03_Star.mono _ _
      | exact LeO.none _
      | refine LeO.ite ?_ ?_
      | refine LeO.bind ?_ (fun _ => ?_)
set_option maxHeartbeats 8000000 in
set_option maxRecDepth 100000 in
theorem stockyardref03_Capture.calls (k : Nat) (a0 : ByteArray) (a1 : ByteArray) (r1 : ByteArray) (r2 : Bool) (w : World) (h : stockyardref03_Capture.f k a0 a1 = some (r1, r2)) :
    Calls Tryd.prog 40 #[.string a0, .string a1] w fun e w' => e = .returned (.tuple #[.string r1, .bool r2]) ∧ Drawn0 w w' := by
  have H : ((stockyardref03_Star.f k a0).bind fun bt370 => (if bt370.2 = true then ((strings_HasSuffix.f a1 bt370.1).bind fun t372 => (if t372 = true then (if 0 ≤ (wrap64 ((a1.size : Int) - (bt370.1.size : Int))) then (if (wrap64 ((a1.size : Int) - (bt370.1.size : Int))) ≤ (a1.size : Int) then ((stockyardref02_Component.f k (a1.extract 0 ((wrap64 ((a1.size : Int) - (bt370.1.size : Int))) : Int).toNat)).bind fun t373 => (some (a1.extract 0 ((wrap64 ((a1.size : Int) - (bt370.1.size : Int))) : Int).toNat, t373))) else (none)) else (none)) else (some ((⟨#[]⟩ : ByteArray), false)))) else (some ((⟨#[]⟩ : ByteArray), (a0.toList == a1.toList))))) = some (r1, r2) := h
  clear h
  replace H := Option.bind_eq_some_iff.mp H
  obtain ⟨⟨t370, t371⟩, A30, H⟩ := H
  replace H : (if t371 = true then ((strings_HasSuffix.f a1 t370).bind fun t372 => (if t372 = true then (if 0 ≤ (wrap64 ((a1.size : Int) - (t370.size : Int))) then (if (wrap64 ((a1.size : Int) - (t370.size : Int))) ≤ (a1.size : Int) then ((stockyardref02_Component.f k (a1.extract 0 ((wrap64 ((a1.size : Int) - (t370.size : Int))) : Int).toNat)).bind fun t373 => (some (a1.extract 0 ((wrap64 ((a1.size : Int) - (t370.size : Int))) : Int).toNat, t373))) else (none)) else (none)) else (some ((⟨#[]⟩ : ByteArray), false)))) else (some ((⟨#[]⟩ : ByteArray), (a0.toList == a1.toList)))) = some (r1, r2) := H
  have A3 := Aside0.mk A30
  clear A30
  by_cases c4 : t371 = true
  · subst c4
    have H1 : ((strings_HasSuffix.f a1 t370).bind fun t372 => (if t372 = true then (if 0 ≤ (wrap64 ((a1.size : Int) - (t370.size : Int))) then (if (wrap64 ((a1.size : Int) - (t370.size : Int))) ≤ (a1.size : Int) then ((stockyardref02_Component.f k (a1.extract 0 ((wrap64 ((a1.size : Int) - (t370.size : Int))) : Int).toNat)).bind fun t373 => (some (a1.extract 0 ((wrap64 ((a1.size : Int) - (t370.size : Int))) : Int).toNat, t373))) else (none)) else (none)) else (some ((⟨#[]⟩ : ByteArray), false)))) = some (r1, r2) := by rw [if_pos rfl] at H; exact H
    clear H
    have H := H1
    clear H1
    replace H := Option.bind_eq_some_iff.mp H
    obtain ⟨t372, A50, H⟩ := H
    replace H : (if t372 = true then (if 0 ≤ (wrap64 ((a1.size : Int) - (t370.size : Int))) then (if (wrap64 ((a1.size : Int) - (t370.size : Int))) ≤ (a1.size : Int) then ((stockyardref02_Component.f k (a1.extract 0 ((wrap64 ((a1.size : Int) - (t370.size : Int))) : Int).toNat)).bind fun t373 => (some (a1.extract 0 ((wrap64 ((a1.size : Int) - (t370.size : Int))) : Int).toNat, t373))) else (none)) else (none)) else (some ((⟨#[]⟩ : ByteArray), false))) = some (r1, r2) := H
    have A5 := Aside0.mk A50
    clear A50
    by_cases c6 : t372 = true
    · subst c6
      have H1 : (if 0 ≤ (wrap64 ((a1.size : Int) - (t370.size : Int))) then (if (wrap64 ((a1.size : Int) - (t370.size : Int))) ≤ (a1.size : Int) then ((stockyardref02_Component.f k (a1.extract 0 ((wrap64 ((a1.size : Int) - (t370.size : Int))) : Int).toNat)).bind fun t373 => (some (a1.extract 0 ((wrap64 ((a1.size : Int) - (t370.size : Int))) : Int).toNat, t373))) else (none)) else (none)) = some (r1, r2) := by rw [if_pos rfl] at H; exact H
      clear H
      have H := H1
      clear H1
      obtain ⟨ji7, hji7⟩ : ∃ j_ : Int, (wrap64 ((a1.size : Int) - (t370.size : Int))) = j_ := ⟨_, rfl⟩
      replace H : (if 0 ≤ (ji7) then (if (ji7) ≤ (a1.size : Int) then ((stockyardref02_Component.f k (a1.extract 0 ((ji7) : Int).toNat)).bind fun t373 => (some (a1.extract 0 ((ji7) : Int).toNat, t373))) else (none)) else (none)) = some (r1, r2) := by first | (rw [hji7] at H; exact H) | (simp only [hji7] at H ⊢; exact H)
      (try rw [hji7] at A3)
      (try rw [hji7] at A5)
      have hji7w : (IntKind.i64.wrap ((a1.size : Int) - (t370.size : Int))) = ji7 := (i64_w _).trans hji7
      by_cases c8 : 0 ≤ (ji7)
      · rw [if_pos c8] at H
        have c8b0 := eq_true c8
        have c8b1 : decide (0 ≤ (ji7)) = true := decide_eq_true c8
        clear c8
        by_cases c9 : (ji7) ≤ (a1.size : Int)
        · rw [if_pos c9] at H
          have c9b0 := eq_true c9
          have c9b1 : decide ((ji7) ≤ (a1.size : Int)) = true := decide_eq_true c9
          clear c9
          replace H := Option.bind_eq_some_iff.mp H
          obtain ⟨t373, A100, H⟩ := H
          replace H : (some (a1.extract 0 ((ji7) : Int).toNat, t373)) = some (r1, r2) := H
          have A10 := Aside0.mk A100
          clear A100
          simp only [Option.some.injEq, Prod.mk.injEq] at H
          obtain ⟨rfl, rfl⟩ := H
          go_enter Tryd.func40, Tryd.ntmps40
          go_wp2_with (first | ((with_reducible refine gate_callee (f := 32) rfl ?_); refine goesL_ (some 11) rfl rfl Tryd.func32 (by kernel_rfl) rfl #[.string a0] rfl (by (try simp only [List.map_toArray, List.map_cons, List.map_nil]); first | done | rfl | (simp only [List.length_drop, List.length_take]; rfl)) ?_; (with_reducible refine (stockyardref03_Star.calls k a0 t370 true _ A3.out).mono ?_); rintro e w' ⟨rfl, ⟨nd, rfl⟩⟩; refine ⟨_, rfl, ?_⟩) | ((with_reducible refine gate_callee (f := 46) rfl ?_); refine goesL_ (some 21) rfl rfl Tryd.func46 (by kernel_rfl) rfl #[.string a1, .string t370] rfl (by (try simp only [List.map_toArray, List.map_cons, List.map_nil]); first | done | rfl | (simp only [List.length_drop, List.length_take]; rfl)) ?_; (with_reducible refine (strings_HasSuffix.calls a1 t370 true _ A5.out).mono ?_); rintro e w' ⟨rfl, ⟨nd, rfl⟩⟩; refine ⟨_, rfl, ?_⟩) | ((with_reducible refine gate_callee (f := 30) rfl ?_); refine goesL_ (some 32) rfl rfl Tryd.func30 (by kernel_rfl) rfl #[.string (a1.extract 0 ((ji7) : Int).toNat)] rfl (by (try simp only [List.map_toArray, List.map_cons, List.map_nil]); first | done | (simp only [hji7]; rfl) | rfl | (simp only [List.length_drop, List.length_take]; rfl)) ?_; (with_reducible refine (stockyardref02_Component.calls k (a1.extract 0 ((ji7) : Int).toNat) t373 _ A10.out).mono ?_); rintro e w' ⟨rfl, ⟨nd, rfl⟩⟩; refine ⟨_, rfl, ?_⟩))
          go_ret2
          exact ⟨by first | rfl | (simp; done) | (simp only [← hji7] <;> (first | rfl | simp)) | (simp [*]; done), by repeat (first | exact Drawn0.refl _ | apply Drawn0.step)⟩
        · rw [if_neg c9] at H
          exact absurd H (by simp)
      · rw [if_neg c8] at H
        exact absurd H (by simp)
    · replace c6 := Bool.eq_false_iff.mpr c6
      subst c6
      have H1 : (some ((⟨#[]⟩ : ByteArray), false)) = some (r1, r2) := by rw [if_neg (show ¬ (false = true) by decide)] at H; exact H
      clear H
      have H := H1
      clear H1
      simp only [Option.some.injEq, Prod.mk.injEq] at H
      obtain ⟨rfl, rfl⟩ := H
      go_enter Tryd.func40, Tryd.ntmps40
      go_wp2_with (first | ((with_reducible refine gate_callee (f := 32) rfl ?_); refine goesL_ (some 11) rfl rfl Tryd.func32 (by kernel_rfl) rfl #[.string a0] rfl (by (try simp only [List.map_toArray, List.map_cons, List.map_nil]); first | done | rfl | (simp only [List.length_drop, List.length_take]; rfl)) ?_; (with_reducible refine (stockyardref03_Star.calls k a0 t370 true _ A3.out).mono ?_); rintro e w' ⟨rfl, ⟨nd, rfl⟩⟩; refine ⟨_, rfl, ?_⟩) | ((with_reducible refine gate_callee (f := 46) rfl ?_); refine goesL_ (some 21) rfl rfl Tryd.func46 (by kernel_rfl) rfl #[.string a1, .string t370] rfl (by (try simp only [List.map_toArray, List.map_cons, List.map_nil]); first | done | rfl | (simp only [List.length_drop, List.length_take]; rfl)) ?_; (with_reducible refine (strings_HasSuffix.calls a1 t370 false _ A5.out).mono ?_); rintro e w' ⟨rfl, ⟨nd, rfl⟩⟩; refine ⟨_, rfl, ?_⟩))
      go_ret2
      exact ⟨by first | rfl | (simp; done) | (simp [*]; done), by repeat (first | exact Drawn0.refl _ | apply Drawn0.step)⟩
  · replace c4 := Bool.eq_false_iff.mpr c4
    subst c4
    have H1 : (some ((⟨#[]⟩ : ByteArray), (a0.toList == a1.toList))) = some (r1, r2) := by rw [if_neg (show ¬ (false = true) by decide)] at H; exact H
    clear H
    have H := H1
    clear H1
    simp only [Option.some.injEq, Prod.mk.injEq] at H
    obtain ⟨rfl, rfl⟩ := H
    go_enter Tryd.func40, Tryd.ntmps40
    go_wp2_with (first | ((with_reducible refine gate_callee (f := 32) rfl ?_); refine goesL_ (some 11) rfl rfl Tryd.func32 (by kernel_rfl) rfl #[.string a0] rfl (by (try simp only [List.map_toArray, List.map_cons, List.map_nil]); first | done | rfl | (simp only [List.length_drop, List.length_take]; rfl)) ?_; (with_reducible refine (stockyardref03_Star.calls k a0 t370 false _ A3.out).mono ?_); rintro e w' ⟨rfl, ⟨nd, rfl⟩⟩; refine ⟨_, rfl, ?_⟩))
    go_ret2
    exact ⟨by first | rfl | (simp; done) | (simp [*]; done), by repeat (first | exact Drawn0.refl _ | apply Drawn0.step)⟩

end Go.Proofs.YtnfpbnnhijiflaaDoor.P

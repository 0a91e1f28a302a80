-- Written by a program of this session (wip/gen.py) over the kit's print: each Go function as a plain Lean function, and the proof that the Go code comes to it. Nothing here is trusted: Lean checks it.
import Derived.Test.YtcpnmcbgcgkieaaDoorPx0
import Derived.Test.YtcpnmcbgcgkieaaDoorPx1
import Derived.Test.YtcpnmcbgcgkieaaDoorPx2
namespace Go.Proofs.YtcpnmcbgcgkieaaDoor.P
open Go.RowKit Go.Proofs.YtcpnmcbgcgkieaaDoorW.PrintWords Go.Proofs.YtcpnmcbgcgkieaaDoorW.PrintLast Go.Proofs.YtcpnmcbgcgkieaaDoorW.PrintMore
attribute [local go_sem] str_gtr str_leq str_geq max2_int min2_int max_two min_two max_three min_three max_four min_four   -- for this text's walks alone
set_option linter.unusedVariables false
set_option linter.unusedSimpArgs false

/-! ### pattern_narrower: function 28 -/
def pattern_narrower.j0 : Nat → ByteArray → ByteArray → Int → ByteArray → Int → ByteArray → Bool → Option (ByteArray × Bool)
  | 0, _, _, _, _, _, _, _ => none
  | k + 1, x0, x1, x6, x7, x8, x9, x28 => if x28 = true then (some (x0, (x0.toList == x1.toList))) else (if x6 = 1 then ((pattern_capture.f x0 x9).bind fun bt191 => (some (x0, bt191.2))) else (if x8 = 1 then ((pattern_capture.f x1 x7).bind fun bt193 => (some (x1, bt193.2))) else ((strings_HasSuffix.f x7 x9).bind fun t195 => (if t195 = true then (some (x0, true)) else ((strings_HasSuffix.f x9 x7).bind fun t196 => (some (x1, t196)))))))
def pattern_narrower.f (k : Nat) (a0 : ByteArray) (a1 : ByteArray) : Option (ByteArray × Bool) := (pattern_formOf.f k a0).bind fun bt187 => ((pattern_formOf.f k a1).bind fun bt189 => (if bt187.1 = 1 then (pattern_narrower.j0 k a0 a1 bt187.1 bt187.2 bt189.1 bt189.2 (bt189.1 == 1)) else (pattern_narrower.j0 k a0 a1 bt187.1 bt187.2 bt189.1 bt189.2 false)))
theorem pattern_narrower.mono_l : ∀ k, (∀ y0 y1 y2 y3 y4 y5 y6, LeO (pattern_narrower.j0 k y0 y1 y2 y3 y4 y5 y6) (pattern_narrower.j0 (k + 1) y0 y1 y2 y3 y4 y5 y6))
  | 0 => fun _ _ _ _ _ _ _ r h => by simp [pattern_narrower.j0] at h
  | k + 1 => by
    have ih0 := pattern_narrower.mono_l k
    · intro y0 y1 y2 y3 y4 y5 y6
      unfold pattern_narrower.j0
      repeat' first
      | (with_reducible exact ih0 _ _ _ _ _ _ _)
      | (with_reducible exact pattern_formOf.mono _ _)
      | (with_reducible exact LeO.refl _)
      | (with_reducible exact LeO.none _)
      | (with_reducible refine LeO.ite ?_ ?_)
      | (with_reducible refine LeO.bind ?_ (fun _ => ?_))
      | exact ih0 _ _ _ _ _ _ _
      | exact pattern_formOf.mono _ _
      | exact LeO.none _
      | refine LeO.ite ?_ ?_
      | refine LeO.bind ?_ (fun _ => ?_)
theorem pattern_narrower.mono : ∀ a0 a1 k, LeO (pattern_narrower.f k a0 a1) (pattern_narrower.f (k + 1) a0 a1) := by
  intro a0 a1 k
  have ih0 := pattern_narrower.mono_l k
  unfold pattern_narrower.f
  repeat' first
      | (with_reducible exact ih0 _ _ _ _ _ _ _)
      | (with_reducible exact pattern_formOf.mono _ _)
      | (with_reducible exact LeO.refl _)
      | (with_reducible exact LeO.none _)
      | (with_reducible refine LeO.ite ?_ ?_)
      | (with_reducible refine LeO.bind ?_ (fun _ => ?_))
      | exact ih0 _ _ _ _ _ _ _
      | exact pattern_formOf.mono _ _
      | exact LeO.none _
      | refine LeO.ite ?_ ?_
      | refine LeO.bind ?_ (fun _ => ?_)
set_option maxHeartbeats 8000000 in
set_option maxRecDepth 100000 in
theorem pattern_narrower.calls (k : Nat) (a0 : ByteArray) (a1 : ByteArray) (r1 : ByteArray) (r2 : Bool) (w : World) (h : pattern_narrower.f k a0 a1 = some (r1, r2)) :
    Calls Tryd.prog 28 #[.string a0, .string a1] w fun e w' => e = .returned (.tuple #[.string r1, .bool r2]) ∧ Drawn0 w w' := by
  have H : ((pattern_formOf.f k a0).bind fun bt187 => ((pattern_formOf.f k a1).bind fun bt189 => (if bt187.1 = 1 then (pattern_narrower.j0 k a0 a1 bt187.1 bt187.2 bt189.1 bt189.2 (bt189.1 == 1)) else (pattern_narrower.j0 k a0 a1 bt187.1 bt187.2 bt189.1 bt189.2 false)))) = some (r1, r2) := h
  clear h
  replace H := Option.bind_eq_some_iff.mp H
  obtain ⟨⟨t187, t188⟩, A30, H⟩ := H
  replace H : ((pattern_formOf.f k a1).bind fun bt189 => (if t187 = 1 then (pattern_narrower.j0 k a0 a1 t187 t188 bt189.1 bt189.2 (bt189.1 == 1)) else (pattern_narrower.j0 k a0 a1 t187 t188 bt189.1 bt189.2 false))) = some (r1, r2) := H
  have A3 := Aside0.mk A30
  clear A30
  replace H := Option.bind_eq_some_iff.mp H
  obtain ⟨⟨t189, t190⟩, A40, H⟩ := H
  replace H : (if t187 = 1 then (pattern_narrower.j0 k a0 a1 t187 t188 t189 t190 (t189 == 1)) else (pattern_narrower.j0 k a0 a1 t187 t188 t189 t190 false)) = some (r1, r2) := H
  have A4 := Aside0.mk A40
  clear A40
  have HC5 := Aside0.mk H
  clear H
  go_enter Tryd.func28, Tryd.ntmps28
  go_upto_region 4 with (first | ((with_reducible refine gate_callee (f := 32) rfl ?_); refine goesL_ (some 16) rfl rfl Tryd.func32 (by kernel_rfl) rfl #[.string a0] rfl (by (try simp only [List.map_toArray, List.map_cons, List.map_nil]); first | done | rfl | (simp only [List.length_drop, List.length_take]; rfl)) ?_; (with_reducible refine (pattern_formOf.calls k a0 t187 t188 _ A3.out).mono ?_); rintro e w' ⟨rfl, ⟨nd, rfl⟩⟩; refine ⟨_, rfl, ?_⟩) | ((with_reducible refine gate_callee (f := 32) rfl ?_); refine goesL_ (some 21) rfl rfl Tryd.func32 (by kernel_rfl) rfl #[.string a1] rfl (by (try simp only [List.map_toArray, List.map_cons, List.map_nil]); first | done | rfl | (simp only [List.length_drop, List.length_take]; rfl)) ?_; (with_reducible refine (pattern_formOf.calls k a1 t189 t190 _ A4.out).mono ?_); rintro e w' ⟨rfl, ⟨nd, rfl⟩⟩; refine ⟨_, rfl, ?_⟩))
  (try simp only [Act.put, List.setIfInBounds_toArray, List.set_cons_zero, List.set_cons_succ])
  go_cut [28] (fun v28 wc => ∃ (kq : Nat) (x28_4 : Bool), v28 = .bool x28_4 ∧ Aside0 (pattern_narrower.j0 kq a0 a1 t187 t188 t189 t190 x28_4 = some (r1, r2)) ∧ Aside0 (kq ≤ k) ∧ Drawn0 w wc)
  case first =>
    have H := HC5.out
    clear HC5
    by_cases c6 : t187 = 1
    · rw [if_pos c6] at H
      have c6b0 : (t187 == 1) = true := beq_iff_eq.mpr c6
      have c6b1 : (t187 != 1) = false := bne_eq_false_iff_eq.mpr c6
      clear c6
      (first | rw [c6b0] | (simp only [i64_w, i32_w]; rw [c6b0]) | skip)
      have H' := Aside0.mk H
      clear H
      go_wp2
      go_meet
      case rel => exact ⟨_, ((t189 == 1)), (by first | rfl | (simp; done) | (simp [*]; done)), H', ⟨by first | omega | exact Nat.le_refl _⟩, by repeat (first | exact Drawn0.refl _ | apply Drawn0.step)⟩
    · rw [if_neg c6] at H
      have c6b0 : (t187 == 1) = false := beq_eq_false_iff_ne.mpr c6
      have c6b1 : (t187 != 1) = true := bne_iff_ne.mpr c6
      (first | rw [c6b0] | (simp only [i64_w, i32_w]; rw [c6b0]) | skip)
      have H' := Aside0.mk H
      clear H
      go_wp2
      go_meet
      case rel => exact ⟨_, (false), (by first | rfl | (simp; done) | (simp [*]; done)), H', ⟨by first | omega | exact Nat.le_refl _⟩, by repeat (first | exact Drawn0.refl _ | apply Drawn0.step)⟩
  case rest =>
    clear HC5
    try clear c2
    try clear p2
    try clear c3
    try clear c6
    try clear c6b0
    try clear c6b1
    obtain ⟨kq, x28_4, rfl, HA, HJ4, ⟨mc4, rfl⟩⟩ := hcut
    cases kq with
    | zero => exact absurd HA.out (by simp [pattern_narrower.j0])
    | succ kj4 =>
      have H := HA.out
      clear HA
      simp only [pattern_narrower.j0] at H
      by_cases c7 : x28_4 = true
      · subst c7
        have H1 : (some (a0, (a0.toList == a1.toList))) = some (r1, r2) := by rw [if_pos rfl] at H; exact H
        clear H
        have H := H1
        clear H1
        simp only [Option.some.injEq, Prod.mk.injEq] at H
        obtain ⟨rfl, rfl⟩ := H
        go_wp2
        go_ret2
        exact ⟨by first | rfl | (simp; done) | (simp [*]; done), by repeat (first | exact Drawn0.refl _ | apply Drawn0.step)⟩
      · replace c7 := Bool.eq_false_iff.mpr c7
        subst c7
        have H1 : (if t187 = 1 then ((pattern_capture.f a0 t190).bind fun bt191 => (some (a0, bt191.2))) else (if t189 = 1 then ((pattern_capture.f a1 t188).bind fun bt193 => (some (a1, bt193.2))) else ((strings_HasSuffix.f t188 t190).bind fun t195 => (if t195 = true then (some (a0, true)) else ((strings_HasSuffix.f t190 t188).bind fun t196 => (some (a1, t196))))))) = some (r1, r2) := by rw [if_neg (show ¬ (false = true) by decide)] at H; exact H
        clear H
        have H := H1
        clear H1
        by_cases c8 : t187 = 1
        · rw [if_pos c8] at H
          have c8b0 : (t187 == 1) = true := beq_iff_eq.mpr c8
          have c8b1 : (t187 != 1) = false := bne_eq_false_iff_eq.mpr c8
          clear c8
          replace H := Option.bind_eq_some_iff.mp H
          obtain ⟨⟨t191, t192⟩, A90, H⟩ := H
          replace H : (some (a0, t192)) = some (r1, r2) := H
          have A9 := Aside0.mk A90
          clear A90
          simp only [Option.some.injEq, Prod.mk.injEq] at H
          obtain ⟨rfl, rfl⟩ := H
          go_wp2_with (first | ((with_reducible refine gate_callee (f := 33) rfl ?_); refine goesL_ (some 45) rfl rfl Tryd.func33 (by kernel_rfl) rfl #[.string a0, .string t190] rfl (by (try simp only [List.map_toArray, List.map_cons, List.map_nil]); first | done | rfl | (simp only [List.length_drop, List.length_take]; rfl)) ?_; (with_reducible refine (pattern_capture.calls a0 t190 t191 t192 _ A9.out).mono ?_); rintro e w' ⟨rfl, ⟨nd, rfl⟩⟩; refine ⟨_, rfl, ?_⟩))
          go_ret2
          exact ⟨by first | rfl | (simp; done) | (simp [*]; done), by repeat (first | exact Drawn0.refl _ | apply Drawn0.step)⟩
        · rw [if_neg c8] at H
          have c8b0 : (t187 == 1) = false := beq_eq_false_iff_ne.mpr c8
          have c8b1 : (t187 != 1) = true := bne_iff_ne.mpr c8
          by_cases c10 : t189 = 1
          · rw [if_pos c10] at H
            have c10b0 : (t189 == 1) = true := beq_iff_eq.mpr c10
            have c10b1 : (t189 != 1) = false := bne_eq_false_iff_eq.mpr c10
            clear c10
            replace H := Option.bind_eq_some_iff.mp H
            obtain ⟨⟨t193, t194⟩, A110, H⟩ := H
            replace H : (some (a1, t194)) = some (r1, r2) := H
            have A11 := Aside0.mk A110
            clear A110
            simp only [Option.some.injEq, Prod.mk.injEq] at H
            obtain ⟨rfl, rfl⟩ := H
            go_wp2_with (first | ((with_reducible refine gate_callee (f := 33) rfl ?_); refine goesL_ (some 56) rfl rfl Tryd.func33 (by kernel_rfl) rfl #[.string a1, .string t188] rfl (by (try simp only [List.map_toArray, List.map_cons, List.map_nil]); first | done | rfl | (simp only [List.length_drop, List.length_take]; rfl)) ?_; (with_reducible refine (pattern_capture.calls a1 t188 t193 t194 _ A11.out).mono ?_); rintro e w' ⟨rfl, ⟨nd, rfl⟩⟩; refine ⟨_, rfl, ?_⟩))
            go_ret2
            exact ⟨by first | rfl | (simp; done) | (simp [*]; done), by repeat (first | exact Drawn0.refl _ | apply Drawn0.step)⟩
          · rw [if_neg c10] at H
            have c10b0 : (t189 == 1) = false := beq_eq_false_iff_ne.mpr c10
            have c10b1 : (t189 != 1) = true := bne_iff_ne.mpr c10
            replace H := Option.bind_eq_some_iff.mp H
            obtain ⟨t195, A120, H⟩ := H
            replace H : (if t195 = true then (some (a0, true)) else ((strings_HasSuffix.f t190 t188).bind fun t196 => (some (a1, t196)))) = some (r1, r2) := H
            have A12 := Aside0.mk A120
            clear A120
            by_cases c13 : t195 = true
            · subst c13
              have H1 : (some (a0, true)) = some (r1, r2) := by rw [if_pos rfl] at H; exact H
              clear H
              have H := H1
              clear H1
              simp only [Option.some.injEq, Prod.mk.injEq] at H
              obtain ⟨rfl, rfl⟩ := H
              go_wp2_with (first | ((with_reducible refine gate_callee (f := 45) rfl ?_); refine goesL_ (some 64) rfl rfl Tryd.func45 (by kernel_rfl) rfl #[.string t188, .string t190] rfl (by (try simp only [List.map_toArray, List.map_cons, List.map_nil]); first | done | rfl | (simp only [List.length_drop, List.length_take]; rfl)) ?_; (with_reducible refine (strings_HasSuffix.calls t188 t190 true _ A12.out).mono ?_); rintro e w' ⟨rfl, ⟨nd, rfl⟩⟩; refine ⟨_, rfl, ?_⟩))
              go_ret2
              exact ⟨by first | rfl | (simp; done) | (simp [*]; done), by repeat (first | exact Drawn0.refl _ | apply Drawn0.step)⟩
            · replace c13 := Bool.eq_false_iff.mpr c13
              subst c13
              have H1 : ((strings_HasSuffix.f t190 t188).bind fun t196 => (some (a1, t196))) = some (r1, r2) := by rw [if_neg (show ¬ (false = true) by decide)] at H; exact H
              clear H
              have H := H1
              clear H1
              replace H := Option.bind_eq_some_iff.mp H
              obtain ⟨t196, A140, H⟩ := H
              replace H : (some (a1, t196)) = some (r1, r2) := H
              have A14 := Aside0.mk A140
              clear A140
              simp only [Option.some.injEq, Prod.mk.injEq] at H
              obtain ⟨rfl, rfl⟩ := H
              go_wp2_with (first | ((with_reducible refine gate_callee (f := 45) rfl ?_); refine goesL_ (some 64) rfl rfl Tryd.func45 (by kernel_rfl) rfl #[.string t188, .string t190] rfl (by (try simp only [List.map_toArray, List.map_cons, List.map_nil]); first | done | rfl | (simp only [List.length_drop, List.length_take]; rfl)) ?_; (with_reducible refine (strings_HasSuffix.calls t188 t190 false _ A12.out).mono ?_); rintro e w' ⟨rfl, ⟨nd, rfl⟩⟩; refine ⟨_, rfl, ?_⟩) | ((with_reducible refine gate_callee (f := 45) rfl ?_); refine goesL_ (some 27) rfl rfl Tryd.func45 (by kernel_rfl) rfl #[.string t190, .string t188] rfl (by (try simp only [List.map_toArray, List.map_cons, List.map_nil]); first | done | rfl | (simp only [List.length_drop, List.length_take]; rfl)) ?_; (with_reducible refine (strings_HasSuffix.calls t190 t188 t196 _ A14.out).mono ?_); rintro e w' ⟨rfl, ⟨nd, rfl⟩⟩; refine ⟨_, rfl, ?_⟩))
              go_ret2
              exact ⟨by first | rfl | (simp; done) | (simp [*]; done), by repeat (first | exact Drawn0.refl _ | apply Drawn0.step)⟩

end Go.Proofs.YtcpnmcbgcgkieaaDoor.P

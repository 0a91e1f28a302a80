-- Written by a program of this session (wip/gen.py) over the kit's print: each Go function as a plain Lean function, and the proof that the Go code comes to it. Nothing here is trusted: Lean checks it.
import Derived.Test.YtolmcdglemkchaaDoorPx0
import Derived.Test.YtolmcdglemkchaaDoorPx2
import Derived.Test.YtolmcdglemkchaaDoorPx3
namespace Go.Proofs.YtolmcdglemkchaaDoor.P
open Go.RowKit Go.Proofs.YtolmcdglemkchaaDoorW.PrintWords Go.Proofs.YtolmcdglemkchaaDoorW.PrintLast Go.Proofs.YtolmcdglemkchaaDoorW.PrintMore
attribute [local go_sem] str_gtr str_leq str_geq max2_int min2_int max_two min_two max_three min_three max_four min_four   -- for this text's walks alone
set_option linter.unusedVariables false
set_option linter.unusedSimpArgs false

/-! ### stockyardlaw09_FiletypeSteps: function 6 -/
mutual
def stockyardlaw09_FiletypeSteps.j0 : Nat → ByteArray → ByteArray → ByteArray → Bool → Option (Bool)
  | 0, _, _, _, _ => none
  | k + 1, x0, x1, x2, x26 => if x26 = true then ((stockyardlaw09_awake.f k).bind fun t199 => (some t199)) else ((filetype_Follow.f k x0 x1).bind fun bt200 => (if bt200.2 = 0 then ((path_Split.f k x0).bind fun bt203 => ((path_Split.f k bt200.1).bind fun bt207 => (if bt203.2 = 0 then (if bt207.2 = 0 then (if (bt203.1.length : Int) = 0 then (stockyardlaw09_FiletypeSteps.j1 k x0 x1 x2 bt200.1 true) else (if (bt207.1.length : Int) = 0 then (stockyardlaw09_FiletypeSteps.j1 k x0 x1 x2 bt200.1 true) else (if 0 < (bt203.1.length : Int) then (if 0 < (bt207.1.length : Int) then (stockyardlaw09_FiletypeSteps.j1 k x0 x1 x2 bt200.1 ((rdOf ByteArray.empty bt203.1 0).toList != (rdOf ByteArray.empty bt207.1 0).toList)) else (none)) else (none)))) else (stockyardlaw09_FiletypeSteps.j1 k x0 x1 x2 bt200.1 true)) else (stockyardlaw09_FiletypeSteps.j1 k x0 x1 x2 bt200.1 true)))) else ((stockyardlaw09_awake.f k).bind fun t202 => (some t202))))
def stockyardlaw09_FiletypeSteps.j1 : Nat → ByteArray → ByteArray → ByteArray → ByteArray → Bool → Option (Bool)
  | 0, _, _, _, _, _ => none
  | k + 1, x0, x1, x2, x7, x71 => if x71 = true then (some false) else (if 2 + x1.size ≤ 9223372036854775807 then ((filetype_Follow.f k x0 ((⟨#[46, 47]⟩ : ByteArray) ++ x1)).bind fun bt213 => (if bt213.1.toList = x7.toList then (stockyardlaw09_FiletypeSteps.j2 k x0 x1 x2 x7 (bt213.2 != 0)) else (stockyardlaw09_FiletypeSteps.j2 k x0 x1 x2 x7 true))) else (none))
def stockyardlaw09_FiletypeSteps.j2 : Nat → ByteArray → ByteArray → ByteArray → ByteArray → Bool → Option (Bool)
  | 0, _, _, _, _, _ => none
  | k + 1, x0, x1, x2, x7, x85 => if x85 = true then (some false) else ((path_Component.f k x2).bind fun t215 => (if t215 = true then (if x2.size + 4 ≤ 9223372036854775807 then (if (x2 ++ (⟨#[47, 46, 46, 47]⟩ : ByteArray)).size + x1.size ≤ 9223372036854775807 then ((filetype_Follow.f k x0 ((x2 ++ (⟨#[47, 46, 46, 47]⟩ : ByteArray)) ++ x1)).bind fun bt216 => (if bt216.1.toList = x7.toList then (if bt216.2 = 0 then ((stockyardlaw09_awake.f k).bind fun t218 => (some t218)) else (some false)) else (some false))) else (none)) else (none)) else ((stockyardlaw09_awake.f k).bind fun t219 => (some t219))))
end
def stockyardlaw09_FiletypeSteps.f (k : Nat) (a0 : ByteArray) (a1 : ByteArray) (a2 : ByteArray) : Option (Bool) := if (a0.size : Int) > 300 then (stockyardlaw09_FiletypeSteps.j0 k a0 a1 a2 true) else (if (a1.size : Int) > 150 then (stockyardlaw09_FiletypeSteps.j0 k a0 a1 a2 true) else (stockyardlaw09_FiletypeSteps.j0 k a0 a1 a2 (decide ((a2.size : Int) > 20))))
theorem stockyardlaw09_FiletypeSteps.mono_l : ∀ k, (∀ y0 y1 y2 y3, LeO (stockyardlaw09_FiletypeSteps.j0 k y0 y1 y2 y3) (stockyardlaw09_FiletypeSteps.j0 (k + 1) y0 y1 y2 y3)) ∧ (∀ y0 y1 y2 y3 y4, LeO (stockyardlaw09_FiletypeSteps.j1 k y0 y1 y2 y3 y4) (stockyardlaw09_FiletypeSteps.j1 (k + 1) y0 y1 y2 y3 y4)) ∧ (∀ y0 y1 y2 y3 y4, LeO (stockyardlaw09_FiletypeSteps.j2 k y0 y1 y2 y3 y4) (stockyardlaw09_FiletypeSteps.j2 (k + 1) y0 y1 y2 y3 y4))
  | 0 => ⟨fun _ _ _ _ r h => by simp [stockyardlaw09_FiletypeSteps.j0] at h, fun _ _ _ _ _ r h => by simp [stockyardlaw09_FiletypeSteps.j1] at h, fun _ _ _ _ _ r h => by simp [stockyardlaw09_FiletypeSteps.j2] at h⟩
  | k + 1 => by
    obtain ⟨ih0, ih1, ih2⟩ := stockyardlaw09_FiletypeSteps.mono_l k
    refine ⟨?_, ?_, ?_⟩
    · intro y0 y1 y2 y3
      unfold stockyardlaw09_FiletypeSteps.j0
      repeat' first
      | (with_reducible exact ih0 _ _ _ _)
      | (with_reducible exact ih1 _ _ _ _ _)
      | (with_reducible exact ih2 _ _ _ _ _)
      | (with_reducible exact filetype_Follow.mono _ _ _)
      | (with_reducible exact path_Component.mono _ _)
      | (with_reducible exact path_Split.mono _ _)
      | (with_reducible exact stockyardlaw09_awake.mono _)
      | (with_reducible exact LeO.refl _)
      | (with_reducible exact LeO.none _)
      | (with_reducible refine LeO.ite ?_ ?_)
      | (with_reducible refine LeO.bind ?_ (fun _ => ?_))
      | exact ih0 _ _ _ _
      | exact ih1 _ _ _ _ _
      | exact ih2 _ _ _ _ _
      | exact filetype_Follow.mono _ _ _
      | exact path_Component.mono _ _
      | exact path_Split.mono _ _
      | exact stockyardlaw09_awake.mono _
      | exact LeO.none _
      | refine LeO.ite ?_ ?_
      | refine LeO.bind ?_ (fun _ => ?_)
    · intro y0 y1 y2 y3 y4
      unfold stockyardlaw09_FiletypeSteps.j1
      repeat' first
      | (with_reducible exact ih0 _ _ _ _)
      | (with_reducible exact ih1 _ _ _ _ _)
      | (with_reducible exact ih2 _ _ _ _ _)
      | (with_reducible exact filetype_Follow.mono _ _ _)
      | (with_reducible exact path_Component.mono _ _)
      | (with_reducible exact path_Split.mono _ _)
      | (with_reducible exact stockyardlaw09_awake.mono _)
      | (with_reducible exact LeO.refl _)
      | (with_reducible exact LeO.none _)
      | (with_reducible refine LeO.ite ?_ ?_)
      | (with_reducible refine LeO.bind ?_ (fun _ => ?_))
      | exact ih0 _ _ _ _
      | exact ih1 _ _ _ _ _
      | exact ih2 _ _ _ _ _
      | exact filetype_Follow.mono _ _ _
      | exact path_Component.mono _ _
      | exact path_Split.mono _ _
      | exact stockyardlaw09_awake.mono _
      | exact LeO.none _
      | refine LeO.ite ?_ ?_
      | refine LeO.bind ?_ (fun _ => ?_)
    · intro y0 y1 y2 y3 y4
      unfold stockyardlaw09_FiletypeSteps.j2
      repeat' first
      | (with_reducible exact ih0 _ _ _ _)
      | (with_reducible exact ih1 _ _ _ _ _)
      | (with_reducible exact ih2 _ _ _ _ _)
      | (with_reducible exact filetype_Follow.mono _ _ _)
      | (with_reducible exact path_Component.mono _ _)
      | (with_reducible exact path_Split.mono _ _)
      | (with_reducible exact stockyardlaw09_awake.mono _)
      | (with_reducible exact LeO.refl _)
      | (with_reducible exact LeO.none _)
      | (with_reducible refine LeO.ite ?_ ?_)
      | (with_reducible refine LeO.bind ?_ (fun _ => ?_))
      | exact ih0 _ _ _ _
      | exact ih1 _ _ _ _ _
      | exact ih2 _ _ _ _ _
      | exact filetype_Follow.mono _ _ _
      | exact path_Component.mono _ _
      | exact path_Split.mono _ _
      | exact stockyardlaw09_awake.mono _
      | exact LeO.none _
      | refine LeO.ite ?_ ?_
      | refine LeO.bind ?_ (fun _ => ?_)
theorem stockyardlaw09_FiletypeSteps.mono : ∀ a0 a1 a2 k, LeO (stockyardlaw09_FiletypeSteps.f k a0 a1 a2) (stockyardlaw09_FiletypeSteps.f (k + 1) a0 a1 a2) := by
  intro a0 a1 a2 k
  obtain ⟨ih0, ih1, ih2⟩ := stockyardlaw09_FiletypeSteps.mono_l k
  unfold stockyardlaw09_FiletypeSteps.f
  repeat' first
      | (with_reducible exact ih0 _ _ _ _)
      | (with_reducible exact ih1 _ _ _ _ _)
      | (with_reducible exact ih2 _ _ _ _ _)
      | (with_reducible exact filetype_Follow.mono _ _ _)
      | (with_reducible exact path_Component.mono _ _)
      | (with_reducible exact path_Split.mono _ _)
      | (with_reducible exact stockyardlaw09_awake.mono _)
      | (with_reducible exact LeO.refl _)
      | (with_reducible exact LeO.none _)
      | (with_reducible refine LeO.ite ?_ ?_)
      | (with_reducible refine LeO.bind ?_ (fun _ => ?_))
      | exact ih0 _ _ _ _
      | exact ih1 _ _ _ _ _
      | exact ih2 _ _ _ _ _
      | exact filetype_Follow.mono _ _ _
      | exact path_Component.mono _ _
      | exact path_Split.mono _ _
      | exact stockyardlaw09_awake.mono _
      | exact LeO.none _
      | refine LeO.ite ?_ ?_
      | refine LeO.bind ?_ (fun _ => ?_)
set_option maxHeartbeats 8000000 in
set_option maxRecDepth 100000 in
theorem stockyardlaw09_FiletypeSteps.calls (k : Nat) (a0 : ByteArray) (a1 : ByteArray) (a2 : ByteArray) (r : Bool) (w : World) (h : stockyardlaw09_FiletypeSteps.f k a0 a1 a2 = some r) :
    Calls Tryd.prog 6 #[.string a0, .string a1, .string a2] w fun e w' => e = .returned (.bool r) ∧ Below w.heap.size w w' := by
  have HB := Aside0.mk (Below.refl w.heap.size w)
  have H : (if (a0.size : Int) > 300 then (stockyardlaw09_FiletypeSteps.j0 k a0 a1 a2 true) else (if (a1.size : Int) > 150 then (stockyardlaw09_FiletypeSteps.j0 k a0 a1 a2 true) else (stockyardlaw09_FiletypeSteps.j0 k a0 a1 a2 (decide ((a2.size : Int) > 20))))) = some r := h
  clear h
  have HC4 := Aside0.mk H
  clear H
  go_enter Tryd.func6, Tryd.ntmps6
  go_upto_region 1 with (fail)
  repeat (go_quiet (fail); go_upto_region 1 with (fail))
  go_cut [26] (fun v26 wc => ∃ (kq : Nat) (x26_3 : Bool), v26 = .bool x26_3 ∧ Aside0 (stockyardlaw09_FiletypeSteps.j0 kq a0 a1 a2 x26_3 = some r) ∧ Aside0 (kq ≤ k) ∧ Aside0 (Below w.heap.size w wc))
  case first =>
    have H := HC4.out
    clear HC4
    by_cases c5 : (a0.size : Int) > 300
    · rw [if_pos c5] at H
      have c5b0 : decide (300 < (a0.size : Int)) = true := decide_eq_true c5
      have c5b1 : decide (300 < a0.size) = true := decide_eq_true (by omega)
      clear c5
      (first | rw [c5b0] | (simp only [i64_w, i32_w]; rw [c5b0]) | skip)
      have H' := Aside0.mk H
      clear H
      go_wp2
      repeat (go_quiet (fail); try go_wp2)
      go_meet
      case rel => exact ⟨_, (true), (by first | rfl | (simp; done) | (simp [*]; done)), H', ⟨by first | omega | exact Nat.le_refl _⟩, ⟨by repeat (first | (with_reducible first | exact HB.out | apply below_alloc | apply pw_below_drewN | apply below_drew1) | exact HB.out)⟩⟩
    · rw [if_neg c5] at H
      have c5b0 : decide (300 < (a0.size : Int)) = false := decide_eq_false c5
      have c5b1 : decide (300 < a0.size) = false := decide_eq_false (by omega)
      clear c5
      (first | rw [c5b0] | (simp only [i64_w, i32_w]; rw [c5b0]) | skip)
      by_cases c6 : (a1.size : Int) > 150
      · rw [if_pos c6] at H
        have c6b0 : decide (150 < (a1.size : Int)) = true := decide_eq_true c6
        have c6b1 : decide (150 < a1.size) = true := decide_eq_true (by omega)
        clear c6
        have H' := Aside0.mk H
        clear H
        go_wp2
        repeat (go_quiet (fail); try go_wp2)
        go_meet
        case rel => exact ⟨_, (true), (by first | rfl | (simp; done) | (simp [*]; done)), H', ⟨by first | omega | exact Nat.le_refl _⟩, ⟨by repeat (first | (with_reducible first | exact HB.out | apply below_alloc | apply pw_below_drewN | apply below_drew1) | exact HB.out)⟩⟩
      · rw [if_neg c6] at H
        have c6b0 : decide (150 < (a1.size : Int)) = false := decide_eq_false c6
        have c6b1 : decide (150 < a1.size) = false := decide_eq_false (by omega)
        clear c6
        have H' := Aside0.mk H
        clear H
        go_wp2
        repeat (go_quiet (fail); try go_wp2)
        go_meet
        case rel => exact ⟨_, (decide ((a2.size : Int) > 20)), (by first | rfl | (simp; done) | (simp [*]; done)), H', ⟨by first | omega | exact Nat.le_refl _⟩, ⟨by repeat (first | (with_reducible first | exact HB.out | apply below_alloc | apply pw_below_drewN | apply below_drew1) | exact HB.out)⟩⟩
  case rest =>
    clear HC4
    try clear p2
    try clear c5
    try clear c5b0
    try clear c5b1
    try clear c6
    try clear c6b0
    try clear c6b1
    obtain ⟨kq, x26_3, rfl, HA, HJ3, HB⟩ := hcut
    cases kq with
    | zero => exact absurd HA.out (by simp [stockyardlaw09_FiletypeSteps.j0])
    | succ kj3 =>
      have H := HA.out
      clear HA
      simp only [stockyardlaw09_FiletypeSteps.j0] at H
      by_cases c7 : x26_3 = true
      · subst c7
        have H1 : ((stockyardlaw09_awake.f kj3).bind fun t199 => (some t199)) = some r := by rw [if_pos rfl] at H; exact H
        clear H
        have H := H1
        clear H1
        replace H := Option.bind_eq_some_iff.mp H
        obtain ⟨t199, A80, H⟩ := H
        replace H : (some t199) = some r := H
        have A8 := Aside0.mk A80
        clear A80
        obtain rfl := Option.some.inj H
        go_wp2_with (first | (go_at_call 16; (with_reducible refine (stockyardlaw09_awake.calls kj3  t199 _ A8.out).mono ?_); rintro e w9 ⟨rfl, hb⟩; have n0_ := Aside0.mk (below_step (by repeat (first | (with_reducible first | exact HB.out | apply below_alloc | apply pw_below_drewN | apply below_drew1) | exact HB.out)) hb); clear HB; have HB := n0_; clear n0_; (try clear hb); (try clear hb2); (try clear hk); (try clear hi)))
        repeat (go_quiet (first | (go_at_call 16; (with_reducible refine (stockyardlaw09_awake.calls kj3  t199 _ A8.out).mono ?_); rintro e w9 ⟨rfl, hb⟩; have n0_ := Aside0.mk (below_step (by repeat (first | (with_reducible first | exact HB.out | apply below_alloc | apply pw_below_drewN | apply below_drew1) | exact HB.out)) hb); clear HB; have HB := n0_; clear n0_; (try clear hb); (try clear hb2); (try clear hk); (try clear hi))); try go_wp2_with (first | (go_at_call 16; (with_reducible refine (stockyardlaw09_awake.calls kj3  t199 _ A8.out).mono ?_); rintro e w9 ⟨rfl, hb⟩; have n0_ := Aside0.mk (below_step (by repeat (first | (with_reducible first | exact HB.out | apply below_alloc | apply pw_below_drewN | apply below_drew1) | exact HB.out)) hb); clear HB; have HB := n0_; clear n0_; (try clear hb); (try clear hb2); (try clear hk); (try clear hi))))
        go_ret
        exact ⟨by first | rfl | (simp [errW_none, errW_some] <;> rfl) | (simp [*, errW_none, errW_some] <;> rfl), by repeat (first | (with_reducible first | exact HB.out | apply below_alloc | apply pw_below_drewN | apply below_drew1) | exact HB.out)⟩
      · replace c7 := Bool.eq_false_iff.mpr c7
        subst c7
        have H1 : ((filetype_Follow.f kj3 a0 a1).bind fun bt200 => (if bt200.2 = 0 then ((path_Split.f kj3 a0).bind fun bt203 => ((path_Split.f kj3 bt200.1).bind fun bt207 => (if bt203.2 = 0 then (if bt207.2 = 0 then (if (bt203.1.length : Int) = 0 then (stockyardlaw09_FiletypeSteps.j1 kj3 a0 a1 a2 bt200.1 true) else (if (bt207.1.length : Int) = 0 then (stockyardlaw09_FiletypeSteps.j1 kj3 a0 a1 a2 bt200.1 true) else (if 0 < (bt203.1.length : Int) then (if 0 < (bt207.1.length : Int) then (stockyardlaw09_FiletypeSteps.j1 kj3 a0 a1 a2 bt200.1 ((rdOf ByteArray.empty bt203.1 0).toList != (rdOf ByteArray.empty bt207.1 0).toList)) else (none)) else (none)))) else (stockyardlaw09_FiletypeSteps.j1 kj3 a0 a1 a2 bt200.1 true)) else (stockyardlaw09_FiletypeSteps.j1 kj3 a0 a1 a2 bt200.1 true)))) else ((stockyardlaw09_awake.f kj3).bind fun t202 => (some t202)))) = some r := by rw [if_neg (show ¬ (false = true) by decide)] at H; exact H
        clear H
        have H := H1
        clear H1
        replace H := Option.bind_eq_some_iff.mp H
        obtain ⟨⟨t200, t201⟩, A100, H⟩ := H
        replace H : (if t201 = 0 then ((path_Split.f kj3 a0).bind fun bt203 => ((path_Split.f kj3 t200).bind fun bt207 => (if bt203.2 = 0 then (if bt207.2 = 0 then (if (bt203.1.length : Int) = 0 then (stockyardlaw09_FiletypeSteps.j1 kj3 a0 a1 a2 t200 true) else (if (bt207.1.length : Int) = 0 then (stockyardlaw09_FiletypeSteps.j1 kj3 a0 a1 a2 t200 true) else (if 0 < (bt203.1.length : Int) then (if 0 < (bt207.1.length : Int) then (stockyardlaw09_FiletypeSteps.j1 kj3 a0 a1 a2 t200 ((rdOf ByteArray.empty bt203.1 0).toList != (rdOf ByteArray.empty bt207.1 0).toList)) else (none)) else (none)))) else (stockyardlaw09_FiletypeSteps.j1 kj3 a0 a1 a2 t200 true)) else (stockyardlaw09_FiletypeSteps.j1 kj3 a0 a1 a2 t200 true)))) else ((stockyardlaw09_awake.f kj3).bind fun t202 => (some t202))) = some r := H
        have A10 := Aside0.mk A100
        clear A100
        by_cases c11 : t201 = 0
        · rw [if_pos c11] at H
          have c11b0 : (t201 == 0) = true := beq_iff_eq.mpr c11
          have c11b1 : (t201 != 0) = false := bne_eq_false_iff_eq.mpr c11
          clear c11
          replace H := Option.bind_eq_some_iff.mp H
          obtain ⟨⟨t203, t204⟩, A120, H⟩ := H
          replace H : ((path_Split.f kj3 t200).bind fun bt207 => (if t204 = 0 then (if bt207.2 = 0 then (if (t203.length : Int) = 0 then (stockyardlaw09_FiletypeSteps.j1 kj3 a0 a1 a2 t200 true) else (if (bt207.1.length : Int) = 0 then (stockyardlaw09_FiletypeSteps.j1 kj3 a0 a1 a2 t200 true) else (if 0 < (t203.length : Int) then (if 0 < (bt207.1.length : Int) then (stockyardlaw09_FiletypeSteps.j1 kj3 a0 a1 a2 t200 ((rdOf ByteArray.empty t203 0).toList != (rdOf ByteArray.empty bt207.1 0).toList)) else (none)) else (none)))) else (stockyardlaw09_FiletypeSteps.j1 kj3 a0 a1 a2 t200 true)) else (stockyardlaw09_FiletypeSteps.j1 kj3 a0 a1 a2 t200 true))) = some r := H
          have A12 := Aside0.mk A120
          clear A120
          replace H := Option.bind_eq_some_iff.mp H
          obtain ⟨⟨t207, t208⟩, A130, H⟩ := H
          replace H : (if t204 = 0 then (if t208 = 0 then (if (t203.length : Int) = 0 then (stockyardlaw09_FiletypeSteps.j1 kj3 a0 a1 a2 t200 true) else (if (t207.length : Int) = 0 then (stockyardlaw09_FiletypeSteps.j1 kj3 a0 a1 a2 t200 true) else (if 0 < (t203.length : Int) then (if 0 < (t207.length : Int) then (stockyardlaw09_FiletypeSteps.j1 kj3 a0 a1 a2 t200 ((rdOf ByteArray.empty t203 0).toList != (rdOf ByteArray.empty t207 0).toList)) else (none)) else (none)))) else (stockyardlaw09_FiletypeSteps.j1 kj3 a0 a1 a2 t200 true)) else (stockyardlaw09_FiletypeSteps.j1 kj3 a0 a1 a2 t200 true)) = some r := H
          have A13 := Aside0.mk A130
          clear A130
          have HC14 := Aside0.mk H
          clear H
          go_upto_region 8 with (first | (go_at_call 21; (with_reducible refine (filetype_Follow.calls kj3 a0 a1 t200 t201 _ A10.out).mono ?_); rintro e w15 ⟨rfl, hb⟩; have n0_ := Aside0.mk (below_step (by repeat (first | (with_reducible first | exact HB.out | apply below_alloc | apply pw_below_drewN | apply below_drew1) | exact HB.out)) hb); clear HB; have HB := n0_; clear n0_; (try clear hb); (try clear hb2); (try clear hk); (try clear hi)) | (go_at_call 22; (with_reducible refine (path_Split.calls kj3 a0 t203 t204 _ A12.out).mono ?_); rintro e w16 ⟨v205, rfl, ho0, hb⟩; have n0_ := Aside0.mk (Kd.R_lower ho0 (below_size (by repeat (first | (with_reducible first | exact HB.out | apply below_alloc | apply pw_below_drewN | apply below_drew1) | exact HB.out)))); have n1_ := Aside0.mk (below_step (by repeat (first | (with_reducible first | exact HB.out | apply below_alloc | apply pw_below_drewN | apply below_drew1) | exact HB.out)) hb); clear HB; have HO206 := n0_; have HB := n1_; clear n0_ n1_; (try clear hb); (try clear hb2); (try clear hk); (try clear hi); (try clear ho0)) | (go_at_call 22; (with_reducible refine (path_Split.calls kj3 t200 t207 t208 _ A13.out).mono ?_); rintro e w17 ⟨v209, rfl, ho0, hb⟩; have n0_ := Aside0.mk (Kd.R_elder' (by (with_reducible repeat (first | apply Kd.R_alloc | apply Kd.R_drewN | apply Kd.R_drew)); exact HO206.out) (Kd.R_base ho0) hb); have n1_ := Aside0.mk (Kd.R_lower (Kd.R_new' ho0 (Kd.R_lt (by (with_reducible repeat (first | apply Kd.R_alloc | apply Kd.R_drewN | apply Kd.R_drew)); exact HO206.out))) (below_size (by repeat (first | (with_reducible first | exact HB.out | apply below_alloc | apply pw_below_drewN | apply below_drew1) | exact HB.out)))); have n2_ := Aside0.mk (below_step (by repeat (first | (with_reducible first | exact HB.out | apply below_alloc | apply pw_below_drewN | apply below_drew1) | exact HB.out)) hb); clear HO206; clear HB; have HO206 := n0_; have HO210 := n1_; have HB := n2_; clear n0_ n1_ n2_; (try clear hb); (try clear hb2); (try clear hk); (try clear hi); (try clear ho0)))
          repeat (go_quiet (first | (go_at_call 21; (with_reducible refine (filetype_Follow.calls kj3 a0 a1 t200 t201 _ A10.out).mono ?_); rintro e w15 ⟨rfl, hb⟩; have n0_ := Aside0.mk (below_step (by repeat (first | (with_reducible first | exact HB.out | apply below_alloc | apply pw_below_drewN | apply below_drew1) | exact HB.out)) hb); clear HB; have HB := n0_; clear n0_; (try clear hb); (try clear hb2); (try clear hk); (try clear hi)) | (go_at_call 22; (with_reducible refine (path_Split.calls kj3 a0 t203 t204 _ A12.out).mono ?_); rintro e w16 ⟨v205, rfl, ho0, hb⟩; have n0_ := Aside0.mk (Kd.R_lower ho0 (below_size (by repeat (first | (with_reducible first | exact HB.out | apply below_alloc | apply pw_below_drewN | apply below_drew1) | exact HB.out)))); have n1_ := Aside0.mk (below_step (by repeat (first | (with_reducible first | exact HB.out | apply below_alloc | apply pw_below_drewN | apply below_drew1) | exact HB.out)) hb); clear HB; have HO206 := n0_; have HB := n1_; clear n0_ n1_; (try clear hb); (try clear hb2); (try clear hk); (try clear hi); (try clear ho0)) | (go_at_call 22; (with_reducible refine (path_Split.calls kj3 t200 t207 t208 _ A13.out).mono ?_); rintro e w17 ⟨v209, rfl, ho0, hb⟩; have n0_ := Aside0.mk (Kd.R_elder' (by (with_reducible repeat (first | apply Kd.R_alloc | apply Kd.R_drewN | apply Kd.R_drew)); exact HO206.out) (Kd.R_base ho0) hb); have n1_ := Aside0.mk (Kd.R_lower (Kd.R_new' ho0 (Kd.R_lt (by (with_reducible repeat (first | apply Kd.R_alloc | apply Kd.R_drewN | apply Kd.R_drew)); exact HO206.out))) (below_size (by repeat (first | (with_reducible first | exact HB.out | apply below_alloc | apply pw_below_drewN | apply below_drew1) | exact HB.out)))); have n2_ := Aside0.mk (below_step (by repeat (first | (with_reducible first | exact HB.out | apply below_alloc | apply pw_below_drewN | apply below_drew1) | exact HB.out)) hb); clear HO206; clear HB; have HO206 := n0_; have HO210 := n1_; have HB := n2_; clear n0_ n1_ n2_; (try clear hb); (try clear hb2); (try clear hk); (try clear hi); (try clear ho0))); go_upto_region 8 with (first | (go_at_call 21; (with_reducible refine (filetype_Follow.calls kj3 a0 a1 t200 t201 _ A10.out).mono ?_); rintro e w15 ⟨rfl, hb⟩; have n0_ := Aside0.mk (below_step (by repeat (first | (with_reducible first | exact HB.out | apply below_alloc | apply pw_below_drewN | apply below_drew1) | exact HB.out)) hb); clear HB; have HB := n0_; clear n0_; (try clear hb); (try clear hb2); (try clear hk); (try clear hi)) | (go_at_call 22; (with_reducible refine (path_Split.calls kj3 a0 t203 t204 _ A12.out).mono ?_); rintro e w16 ⟨v205, rfl, ho0, hb⟩; have n0_ := Aside0.mk (Kd.R_lower ho0 (below_size (by repeat (first | (with_reducible first | exact HB.out | apply below_alloc | apply pw_below_drewN | apply below_drew1) | exact HB.out)))); have n1_ := Aside0.mk (below_step (by repeat (first | (with_reducible first | exact HB.out | apply below_alloc | apply pw_below_drewN | apply below_drew1) | exact HB.out)) hb); clear HB; have HO206 := n0_; have HB := n1_; clear n0_ n1_; (try clear hb); (try clear hb2); (try clear hk); (try clear hi); (try clear ho0)) | (go_at_call 22; (with_reducible refine (path_Split.calls kj3 t200 t207 t208 _ A13.out).mono ?_); rintro e w17 ⟨v209, rfl, ho0, hb⟩; have n0_ := Aside0.mk (Kd.R_elder' (by (with_reducible repeat (first | apply Kd.R_alloc | apply Kd.R_drewN | apply Kd.R_drew)); exact HO206.out) (Kd.R_base ho0) hb); have n1_ := Aside0.mk (Kd.R_lower (Kd.R_new' ho0 (Kd.R_lt (by (with_reducible repeat (first | apply Kd.R_alloc | apply Kd.R_drewN | apply Kd.R_drew)); exact HO206.out))) (below_size (by repeat (first | (with_reducible first | exact HB.out | apply below_alloc | apply pw_below_drewN | apply below_drew1) | exact HB.out)))); have n2_ := Aside0.mk (below_step (by repeat (first | (with_reducible first | exact HB.out | apply below_alloc | apply pw_below_drewN | apply below_drew1) | exact HB.out)) hb); clear HO206; clear HB; have HO206 := n0_; have HO210 := n1_; have HB := n2_; clear n0_ n1_ n2_; (try clear hb); (try clear hb2); (try clear hk); (try clear hi); (try clear ho0))))
          (try simp only [Act.put, List.setIfInBounds_toArray, List.set_cons_zero, List.set_cons_succ])
          go_cut [71] (fun v71 wc => ∃ (kq : Nat) (x71_13 : Bool), v71 = .bool x71_13 ∧ Aside0 (stockyardlaw09_FiletypeSteps.j1 kq a0 a1 a2 t200 x71_13 = some r) ∧ Aside0 (kq ≤ kj3) ∧ Aside0 (Below w.heap.size w wc))
          case first =>
            have H := HC14.out
            clear HC14
            by_cases c18 : t204 = 0
            · rw [if_pos c18] at H
              have c18b0 : (t204 == 0) = true := beq_iff_eq.mpr c18
              have c18b1 : (t204 != 0) = false := bne_eq_false_iff_eq.mpr c18
              clear c18
              (first | rw [c18b0] | (simp only [i64_w, i32_w]; rw [c18b0]) | skip)
              by_cases c19 : t208 = 0
              · rw [if_pos c19] at H
                have c19b0 : (t208 == 0) = true := beq_iff_eq.mpr c19
                have c19b1 : (t208 != 0) = false := bne_eq_false_iff_eq.mpr c19
                clear c19
                by_cases c20 : (t203.length : Int) = 0
                · rw [if_pos c20] at H
                  have c20b0 : ((t203.length : Int) == 0) = true := beq_iff_eq.mpr c20
                  have c20b1 : ((t203.length : Int) != 0) = false := bne_eq_false_iff_eq.mpr c20
                  clear c20
                  have H' := Aside0.mk H
                  clear H
                  obtain ⟨Ao21, co21, eo21⟩ := Kd.R_slice HO206.out
                  subst eo21
                  go_wp2
                  repeat (go_quiet (fail); try go_wp2)
                  go_meet
                  case rel => exact ⟨_, (true), (by first | rfl | (simp; done) | (simp [*]; done)), H', ⟨by have := HJ3.out; first | omega | exact Nat.le_refl _⟩, ⟨by repeat (first | (with_reducible first | exact HB.out | apply below_alloc | apply pw_below_drewN | apply below_drew1) | exact HB.out)⟩⟩
                · rw [if_neg c20] at H
                  have c20b0 : ((t203.length : Int) == 0) = false := beq_eq_false_iff_ne.mpr c20
                  have c20b1 : ((t203.length : Int) != 0) = true := bne_iff_ne.mpr c20
                  have c20b2 : ¬ (t203 = []) := fun h_ => c20 (by rw [h_]; rfl)
                  by_cases c22 : (t207.length : Int) = 0
                  · rw [if_pos c22] at H
                    have c22b0 : ((t207.length : Int) == 0) = true := beq_iff_eq.mpr c22
                    have c22b1 : ((t207.length : Int) != 0) = false := bne_eq_false_iff_eq.mpr c22
                    clear c22
                    have H' := Aside0.mk H
                    clear H
                    obtain ⟨Ao23, co23, eo23⟩ := Kd.R_slice HO206.out
                    subst eo23
                    obtain ⟨Ao24, co24, eo24⟩ := Kd.R_slice HO210.out
                    subst eo24
                    go_wp2
                    repeat (go_quiet (fail); try go_wp2)
                    go_meet
                    case rel => exact ⟨_, (true), (by first | rfl | (simp; done) | (simp [*]; done)), H', ⟨by have := HJ3.out; first | omega | exact Nat.le_refl _⟩, ⟨by repeat (first | (with_reducible first | exact HB.out | apply below_alloc | apply pw_below_drewN | apply below_drew1) | exact HB.out)⟩⟩
                  · rw [if_neg c22] at H
                    have c22b0 : ((t207.length : Int) == 0) = false := beq_eq_false_iff_ne.mpr c22
                    have c22b1 : ((t207.length : Int) != 0) = true := bne_iff_ne.mpr c22
                    have c22b2 : ¬ (t207 = []) := fun h_ => c22 (by rw [h_]; rfl)
                    by_cases c25 : 0 < (t203.length : Int)
                    · rw [if_pos c25] at H
                      have c25b0 : decide (0 < (t203.length : Int)) = true := decide_eq_true c25
                      have c25b1 : decide (0 < t203.length) = true := decide_eq_true (by omega)
                      clear c25
                      by_cases c26 : 0 < (t207.length : Int)
                      · rw [if_pos c26] at H
                        have c26b0 : decide (0 < (t207.length : Int)) = true := decide_eq_true c26
                        have c26b1 : decide (0 < t207.length) = true := decide_eq_true (by omega)
                        clear c26
                        have H' := Aside0.mk H
                        clear H
                        obtain ⟨Ao27, co27, eo27⟩ := Kd.R_slice HO206.out
                        subst eo27
                        obtain ⟨Ao28, co28, eo28⟩ := Kd.R_slice HO210.out
                        subst eo28
                        have p211 : 0 ≤ (0 : Int) := (by omega)
                        have q211 : 0 < (t203.length : Int) := of_decide_eq_true (by first | (with_reducible assumption) | assumption)
                        obtain ⟨ad211, e211, hx211_0⟩ := Kd.at_string (Kd.R_reads' HO206.out).2.2 0 p211 q211
                        cases e211
                        have qi211 : (0 < t203.length) = True := eq_true (by omega)
                        (try rw [show ((0 : Int)).toNat = 0 from rfl] at hx211_0)
                        (try rw [Addr.add_zero'] at hx211_0)
                        replace p211 := eq_true p211
                        replace q211 := eq_true q211
                        have p212 : 0 ≤ (0 : Int) := (by omega)
                        have q212 : 0 < (t207.length : Int) := of_decide_eq_true (by first | (with_reducible assumption) | assumption)
                        obtain ⟨ad212, e212, hx212_0⟩ := Kd.at_string (Kd.R_reads' HO210.out).2.2 0 p212 q212
                        cases e212
                        have qi212 : (0 < t207.length) = True := eq_true (by omega)
                        (try rw [show ((0 : Int)).toNat = 0 from rfl] at hx212_0)
                        (try rw [Addr.add_zero'] at hx212_0)
                        replace p212 := eq_true p212
                        replace q212 := eq_true q212
                        go_wp2
                        repeat (go_quiet (fail); try go_wp2)
                        go_meet
                        case rel => exact ⟨_, (((rdOf ByteArray.empty t203 0).toList != (rdOf ByteArray.empty t207 0).toList)), (by first | rfl | (simp; done) | (simp [*]; done)), H', ⟨by have := HJ3.out; first | omega | exact Nat.le_refl _⟩, ⟨by repeat (first | (with_reducible first | exact HB.out | apply below_alloc | apply pw_below_drewN | apply below_drew1) | exact HB.out)⟩⟩
                      · rw [if_neg c26] at H
                        exact absurd H (by simp)
                    · rw [if_neg c25] at H
                      exact absurd H (by simp)
              · rw [if_neg c19] at H
                have c19b0 : (t208 == 0) = false := beq_eq_false_iff_ne.mpr c19
                have c19b1 : (t208 != 0) = true := bne_iff_ne.mpr c19
                have H' := Aside0.mk H
                clear H
                go_wp2
                repeat (go_quiet (fail); try go_wp2)
                go_meet
                case rel => exact ⟨_, (true), (by first | rfl | (simp; done) | (simp [*]; done)), H', ⟨by have := HJ3.out; first | omega | exact Nat.le_refl _⟩, ⟨by repeat (first | (with_reducible first | exact HB.out | apply below_alloc | apply pw_below_drewN | apply below_drew1) | exact HB.out)⟩⟩
            · rw [if_neg c18] at H
              have c18b0 : (t204 == 0) = false := beq_eq_false_iff_ne.mpr c18
              have c18b1 : (t204 != 0) = true := bne_iff_ne.mpr c18
              (first | rw [c18b0] | (simp only [i64_w, i32_w]; rw [c18b0]) | skip)
              have H' := Aside0.mk H
              clear H
              go_wp2
              repeat (go_quiet (fail); try go_wp2)
              go_meet
              case rel => exact ⟨_, (true), (by first | rfl | (simp; done) | (simp [*]; done)), H', ⟨by have := HJ3.out; first | omega | exact Nat.le_refl _⟩, ⟨by repeat (first | (with_reducible first | exact HB.out | apply below_alloc | apply pw_below_drewN | apply below_drew1) | exact HB.out)⟩⟩
          case rest =>
            clear HC14
            try clear c1
            try clear c2
            try clear p2
            try clear q2
            try clear hx2
            try clear qi2
            try clear c5
            try clear c5b0
            try clear c5b1
            try clear c6
            try clear c6b0
            try clear c6b1
            try clear c7
            try clear c11
            try clear c11b0
            try clear c11b1
            try clear c18
            try clear c18b0
            try clear c18b1
            try clear c19
            try clear c19b0
            try clear c19b1
            try clear c20
            try clear c20b0
            try clear c20b1
            try clear c20b2
            try clear p21
            try clear q21
            try clear hx21
            try clear qi21
            try clear c22
            try clear c22b0
            try clear c22b1
            try clear c22b2
            try clear c25
            try clear c25b0
            try clear c25b1
            try clear c26
            try clear c26b0
            try clear c26b1
            try clear hx211_0
            try clear hx212_0
            try clear p2
            try clear p211
            try clear p212
            try clear q211
            try clear q212
            obtain ⟨kq, x71_13, rfl, HA, HJ13, HB⟩ := hcut
            cases kq with
            | zero => exact absurd HA.out (by simp [stockyardlaw09_FiletypeSteps.j1])
            | succ kj13 =>
              have H := HA.out
              clear HA
              simp only [stockyardlaw09_FiletypeSteps.j1] at H
              by_cases c29 : x71_13 = true
              · subst c29
                have H1 : (some false) = some r := by rw [if_pos rfl] at H; exact H
                clear H
                have H := H1
                clear H1
                obtain rfl := Option.some.inj H
                go_wp2
                repeat (go_quiet (fail); try go_wp2)
                go_ret
                exact ⟨by first | rfl | (simp [errW_none, errW_some] <;> rfl) | (simp [*, errW_none, errW_some] <;> rfl), by repeat (first | (with_reducible first | exact HB.out | apply below_alloc | apply pw_below_drewN | apply below_drew1) | exact HB.out)⟩
              · replace c29 := Bool.eq_false_iff.mpr c29
                subst c29
                have H1 : (if 2 + a1.size ≤ 9223372036854775807 then ((filetype_Follow.f kj13 a0 ((⟨#[46, 47]⟩ : ByteArray) ++ a1)).bind fun bt213 => (if bt213.1.toList = t200.toList then (stockyardlaw09_FiletypeSteps.j2 kj13 a0 a1 a2 t200 (bt213.2 != 0)) else (stockyardlaw09_FiletypeSteps.j2 kj13 a0 a1 a2 t200 true))) else (none)) = some r := by rw [if_neg (show ¬ (false = true) by decide)] at H; exact H
                clear H
                have H := H1
                clear H1
                by_cases c30 : 2 + a1.size ≤ 9223372036854775807
                · rw [if_pos c30] at H
                  have c30b0 := eq_true c30
                  have c30b1 : decide (2 + a1.size ≤ 9223372036854775807) = true := decide_eq_true c30
                  try have c30b2 : (9223372036854775807 < 2 + a1.size) = False := eq_false (Nat.not_lt.2 c30)
                  replace H := Option.bind_eq_some_iff.mp H
                  obtain ⟨⟨t213, t214⟩, A310, H⟩ := H
                  replace H : (if t213.toList = t200.toList then (stockyardlaw09_FiletypeSteps.j2 kj13 a0 a1 a2 t200 (t214 != 0)) else (stockyardlaw09_FiletypeSteps.j2 kj13 a0 a1 a2 t200 true)) = some r := H
                  have A31 := Aside0.mk A310
                  clear A310
                  have HC32 := Aside0.mk H
                  clear H
                  go_upto_region 11 with (first | (go_at_call 21; (with_reducible refine (filetype_Follow.calls kj13 a0 ((⟨#[46, 47]⟩ : ByteArray) ++ a1) t213 t214 _ A31.out).mono ?_); rintro e w33 ⟨rfl, hb⟩; have n0_ := Aside0.mk (below_step (by repeat (first | (with_reducible first | exact HB.out | apply below_alloc | apply pw_below_drewN | apply below_drew1) | exact HB.out)) hb); clear HB; have HB := n0_; clear n0_; (try clear hb); (try clear hb2); (try clear hk); (try clear hi)))
                  repeat (go_quiet (first | (go_at_call 21; (with_reducible refine (filetype_Follow.calls kj13 a0 ((⟨#[46, 47]⟩ : ByteArray) ++ a1) t213 t214 _ A31.out).mono ?_); rintro e w33 ⟨rfl, hb⟩; have n0_ := Aside0.mk (below_step (by repeat (first | (with_reducible first | exact HB.out | apply below_alloc | apply pw_below_drewN | apply below_drew1) | exact HB.out)) hb); clear HB; have HB := n0_; clear n0_; (try clear hb); (try clear hb2); (try clear hk); (try clear hi))); go_upto_region 11 with (first | (go_at_call 21; (with_reducible refine (filetype_Follow.calls kj13 a0 ((⟨#[46, 47]⟩ : ByteArray) ++ a1) t213 t214 _ A31.out).mono ?_); rintro e w33 ⟨rfl, hb⟩; have n0_ := Aside0.mk (below_step (by repeat (first | (with_reducible first | exact HB.out | apply below_alloc | apply pw_below_drewN | apply below_drew1) | exact HB.out)) hb); clear HB; have HB := n0_; clear n0_; (try clear hb); (try clear hb2); (try clear hk); (try clear hi))))
                  (try simp only [Act.put, List.setIfInBounds_toArray, List.set_cons_zero, List.set_cons_succ])
                  go_cut [85] (fun v85 wc => ∃ (kq : Nat) (x85_31 : Bool), v85 = .bool x85_31 ∧ Aside0 (stockyardlaw09_FiletypeSteps.j2 kq a0 a1 a2 t200 x85_31 = some r) ∧ Aside0 (kq ≤ kj13) ∧ Aside0 (Below w.heap.size w wc))
                  case first =>
                    have H := HC32.out
                    clear HC32
                    by_cases c34 : t213.toList = t200.toList
                    · rw [if_pos c34] at H
                      have c34b0 : (t213.toList == t200.toList) = true := beq_iff_eq.mpr c34
                      have c34b1 : (t213.toList != t200.toList) = false := bne_eq_false_iff_eq.mpr c34
                      clear c34
                      (first | rw [c34b0] | (simp only [i64_w, i32_w]; rw [c34b0]) | skip)
                      have H' := Aside0.mk H
                      clear H
                      go_wp2
                      repeat (go_quiet (fail); try go_wp2)
                      go_meet
                      case rel => exact ⟨_, ((t214 != 0)), (by first | rfl | (simp; done) | (simp [*]; done)), H', ⟨by have := HJ3.out; have := HJ13.out; first | omega | exact Nat.le_refl _⟩, ⟨by repeat (first | (with_reducible first | exact HB.out | apply below_alloc | apply pw_below_drewN | apply below_drew1) | exact HB.out)⟩⟩
                    · rw [if_neg c34] at H
                      have c34b0 : (t213.toList == t200.toList) = false := beq_eq_false_iff_ne.mpr c34
                      have c34b1 : (t213.toList != t200.toList) = true := bne_iff_ne.mpr c34
                      (first | rw [c34b0] | (simp only [i64_w, i32_w]; rw [c34b0]) | skip)
                      have H' := Aside0.mk H
                      clear H
                      go_wp2
                      repeat (go_quiet (fail); try go_wp2)
                      go_meet
                      case rel => exact ⟨_, (true), (by first | rfl | (simp; done) | (simp [*]; done)), H', ⟨by have := HJ3.out; have := HJ13.out; first | omega | exact Nat.le_refl _⟩, ⟨by repeat (first | (with_reducible first | exact HB.out | apply below_alloc | apply pw_below_drewN | apply below_drew1) | exact HB.out)⟩⟩
                  case rest =>
                    clear HC32
                    try clear c1
                    try clear c2
                    try clear p2
                    try clear q2
                    try clear hx2
                    try clear qi2
                    try clear c3
                    try clear c5
                    try clear c5b0
                    try clear c5b1
                    try clear c6
                    try clear c6b0
                    try clear c6b1
                    try clear c7
                    try clear c11
                    try clear c11b0
                    try clear c11b1
                    try clear c18
                    try clear c18b0
                    try clear c18b1
                    try clear c19
                    try clear c19b0
                    try clear c19b1
                    try clear c20
                    try clear c20b0
                    try clear c20b1
                    try clear c20b2
                    try clear p21
                    try clear q21
                    try clear hx21
                    try clear qi21
                    try clear c22
                    try clear c22b0
                    try clear c22b1
                    try clear c22b2
                    try clear c25
                    try clear c25b0
                    try clear c25b1
                    try clear c26
                    try clear c26b0
                    try clear c26b1
                    try clear c29
                    try clear c30
                    try clear c30b0
                    try clear c30b1
                    try clear c30b2
                    try clear c34
                    try clear c34b0
                    try clear c34b1
                    try clear hx211_0
                    try clear hx212_0
                    try clear p2
                    try clear p21
                    try clear p211
                    try clear p212
                    try clear q2
                    try clear q21
                    try clear q211
                    try clear q212
                    obtain ⟨kq, x85_31, rfl, HA, HJ31, HB⟩ := hcut
                    cases kq with
                    | zero => exact absurd HA.out (by simp [stockyardlaw09_FiletypeSteps.j2])
                    | succ kj31 =>
                      have H := HA.out
                      clear HA
                      simp only [stockyardlaw09_FiletypeSteps.j2] at H
                      by_cases c35 : x85_31 = true
                      · subst c35
                        have H1 : (some false) = some r := by rw [if_pos rfl] at H; exact H
                        clear H
                        have H := H1
                        clear H1
                        obtain rfl := Option.some.inj H
                        go_wp2
                        repeat (go_quiet (fail); try go_wp2)
                        go_ret
                        exact ⟨by first | rfl | (simp [errW_none, errW_some] <;> rfl) | (simp [*, errW_none, errW_some] <;> rfl), by repeat (first | (with_reducible first | exact HB.out | apply below_alloc | apply pw_below_drewN | apply below_drew1) | exact HB.out)⟩
                      · replace c35 := Bool.eq_false_iff.mpr c35
                        subst c35
                        have H1 : ((path_Component.f kj31 a2).bind fun t215 => (if t215 = true then (if a2.size + 4 ≤ 9223372036854775807 then (if (a2 ++ (⟨#[47, 46, 46, 47]⟩ : ByteArray)).size + a1.size ≤ 9223372036854775807 then ((filetype_Follow.f kj31 a0 ((a2 ++ (⟨#[47, 46, 46, 47]⟩ : ByteArray)) ++ a1)).bind fun bt216 => (if bt216.1.toList = t200.toList then (if bt216.2 = 0 then ((stockyardlaw09_awake.f kj31).bind fun t218 => (some t218)) else (some false)) else (some false))) else (none)) else (none)) else ((stockyardlaw09_awake.f kj31).bind fun t219 => (some t219)))) = some r := by rw [if_neg (show ¬ (false = true) by decide)] at H; exact H
                        clear H
                        have H := H1
                        clear H1
                        replace H := Option.bind_eq_some_iff.mp H
                        obtain ⟨t215, A360, H⟩ := H
                        replace H : (if t215 = true then (if a2.size + 4 ≤ 9223372036854775807 then (if (a2 ++ (⟨#[47, 46, 46, 47]⟩ : ByteArray)).size + a1.size ≤ 9223372036854775807 then ((filetype_Follow.f kj31 a0 ((a2 ++ (⟨#[47, 46, 46, 47]⟩ : ByteArray)) ++ a1)).bind fun bt216 => (if bt216.1.toList = t200.toList then (if bt216.2 = 0 then ((stockyardlaw09_awake.f kj31).bind fun t218 => (some t218)) else (some false)) else (some false))) else (none)) else (none)) else ((stockyardlaw09_awake.f kj31).bind fun t219 => (some t219))) = some r := H
                        have A36 := Aside0.mk A360
                        clear A360
                        by_cases c37 : t215 = true
                        · subst c37
                          have H1 : (if a2.size + 4 ≤ 9223372036854775807 then (if (a2 ++ (⟨#[47, 46, 46, 47]⟩ : ByteArray)).size + a1.size ≤ 9223372036854775807 then ((filetype_Follow.f kj31 a0 ((a2 ++ (⟨#[47, 46, 46, 47]⟩ : ByteArray)) ++ a1)).bind fun bt216 => (if bt216.1.toList = t200.toList then (if bt216.2 = 0 then ((stockyardlaw09_awake.f kj31).bind fun t218 => (some t218)) else (some false)) else (some false))) else (none)) else (none)) = some r := by rw [if_pos rfl] at H; exact H
                          clear H
                          have H := H1
                          clear H1
                          by_cases c38 : a2.size + 4 ≤ 9223372036854775807
                          · rw [if_pos c38] at H
                            have c38b0 := eq_true c38
                            have c38b1 : decide (a2.size + 4 ≤ 9223372036854775807) = true := decide_eq_true c38
                            try have c38b2 : (9223372036854775807 < a2.size + 4) = False := eq_false (Nat.not_lt.2 c38)
                            by_cases c39 : (a2 ++ (⟨#[47, 46, 46, 47]⟩ : ByteArray)).size + a1.size ≤ 9223372036854775807
                            · rw [if_pos c39] at H
                              have c39b0 := eq_true c39
                              have c39b1 : decide ((a2 ++ (⟨#[47, 46, 46, 47]⟩ : ByteArray)).size + a1.size ≤ 9223372036854775807) = true := decide_eq_true c39
                              have c39b5 : ((a2.size + 4) + a1.size ≤ 9223372036854775807) = True := eq_true (by have q_ := of_decide_eq_true c39b1; (repeat rw [ByteArray.size_append] at q_); exact q_)
                              have c39b6 : decide ((a2.size + 4) + a1.size ≤ 9223372036854775807) = true := decide_eq_true (by have q_ := of_decide_eq_true c39b1; (repeat rw [ByteArray.size_append] at q_); exact q_)
                              try have c39b7 : (9223372036854775807 < (a2.size + 4) + a1.size) = False := eq_false (Nat.not_lt.2 (by have q_ := of_decide_eq_true c39b1; (repeat rw [ByteArray.size_append] at q_); exact q_))
                              try have c39b2 : (9223372036854775807 < (a2 ++ (⟨#[47, 46, 46, 47]⟩ : ByteArray)).size + a1.size) = False := eq_false (Nat.not_lt.2 c39)
                              replace H := Option.bind_eq_some_iff.mp H
                              obtain ⟨⟨t216, t217⟩, A400, H⟩ := H
                              replace H : (if t216.toList = t200.toList then (if t217 = 0 then ((stockyardlaw09_awake.f kj31).bind fun t218 => (some t218)) else (some false)) else (some false)) = some r := H
                              have A40 := Aside0.mk A400
                              clear A400
                              by_cases c41 : t216.toList = t200.toList
                              · rw [if_pos c41] at H
                                have c41b0 : (t216.toList == t200.toList) = true := beq_iff_eq.mpr c41
                                have c41b1 : (t216.toList != t200.toList) = false := bne_eq_false_iff_eq.mpr c41
                                clear c41
                                by_cases c42 : t217 = 0
                                · rw [if_pos c42] at H
                                  have c42b0 : (t217 == 0) = true := beq_iff_eq.mpr c42
                                  have c42b1 : (t217 != 0) = false := bne_eq_false_iff_eq.mpr c42
                                  clear c42
                                  replace H := Option.bind_eq_some_iff.mp H
                                  obtain ⟨t218, A430, H⟩ := H
                                  replace H : (some t218) = some r := H
                                  have A43 := Aside0.mk A430
                                  clear A430
                                  obtain rfl := Option.some.inj H
                                  go_wp2_with (first | (go_at_call 23; (with_reducible refine (path_Component.calls kj31 a2 true _ A36.out).mono ?_); rintro e w' ⟨rfl, ⟨nd, rfl⟩⟩; (try first | exact ⟨rfl, _, World.drewN_drewN _ _ _⟩ | exact ⟨rfl, _, Eq.trans (World.drewN_drewN _ _ _) (congrArg (World.drewN _) (Nat.add_assoc _ _ _))⟩)) | (go_at_call 21; (with_reducible refine (filetype_Follow.calls kj31 a0 ((a2 ++ (⟨#[47, 46, 46, 47]⟩ : ByteArray)) ++ a1) t216 t217 _ A40.out).mono ?_); rintro e w44 ⟨rfl, hb⟩; have n0_ := Aside0.mk (below_step (by repeat (first | (with_reducible first | exact HB.out | apply below_alloc | apply pw_below_drewN | apply below_drew1) | exact HB.out)) hb); clear HB; have HB := n0_; clear n0_; (try clear hb); (try clear hb2); (try clear hk); (try clear hi)) | (go_at_call 16; (with_reducible refine (stockyardlaw09_awake.calls kj31  t218 _ A43.out).mono ?_); rintro e w45 ⟨rfl, hb⟩; have n0_ := Aside0.mk (below_step (by repeat (first | (with_reducible first | exact HB.out | apply below_alloc | apply pw_below_drewN | apply below_drew1) | exact HB.out)) hb); clear HB; have HB := n0_; clear n0_; (try clear hb); (try clear hb2); (try clear hk); (try clear hi)))
                                  repeat (go_quiet (first | (go_at_call 23; (with_reducible refine (path_Component.calls kj31 a2 true _ A36.out).mono ?_); rintro e w' ⟨rfl, ⟨nd, rfl⟩⟩; (try first | exact ⟨rfl, _, World.drewN_drewN _ _ _⟩ | exact ⟨rfl, _, Eq.trans (World.drewN_drewN _ _ _) (congrArg (World.drewN _) (Nat.add_assoc _ _ _))⟩)) | (go_at_call 21; (with_reducible refine (filetype_Follow.calls kj31 a0 ((a2 ++ (⟨#[47, 46, 46, 47]⟩ : ByteArray)) ++ a1) t216 t217 _ A40.out).mono ?_); rintro e w44 ⟨rfl, hb⟩; have n0_ := Aside0.mk (below_step (by repeat (first | (with_reducible first | exact HB.out | apply below_alloc | apply pw_below_drewN | apply below_drew1) | exact HB.out)) hb); clear HB; have HB := n0_; clear n0_; (try clear hb); (try clear hb2); (try clear hk); (try clear hi)) | (go_at_call 16; (with_reducible refine (stockyardlaw09_awake.calls kj31  t218 _ A43.out).mono ?_); rintro e w45 ⟨rfl, hb⟩; have n0_ := Aside0.mk (below_step (by repeat (first | (with_reducible first | exact HB.out | apply below_alloc | apply pw_below_drewN | apply below_drew1) | exact HB.out)) hb); clear HB; have HB := n0_; clear n0_; (try clear hb); (try clear hb2); (try clear hk); (try clear hi))); try go_wp2_with (first | (go_at_call 23; (with_reducible refine (path_Component.calls kj31 a2 true _ A36.out).mono ?_); rintro e w' ⟨rfl, ⟨nd, rfl⟩⟩; (try first | exact ⟨rfl, _, World.drewN_drewN _ _ _⟩ | exact ⟨rfl, _, Eq.trans (World.drewN_drewN _ _ _) (congrArg (World.drewN _) (Nat.add_assoc _ _ _))⟩)) | (go_at_call 21; (with_reducible refine (filetype_Follow.calls kj31 a0 ((a2 ++ (⟨#[47, 46, 46, 47]⟩ : ByteArray)) ++ a1) t216 t217 _ A40.out).mono ?_); rintro e w44 ⟨rfl, hb⟩; have n0_ := Aside0.mk (below_step (by repeat (first | (with_reducible first | exact HB.out | apply below_alloc | apply pw_below_drewN | apply below_drew1) | exact HB.out)) hb); clear HB; have HB := n0_; clear n0_; (try clear hb); (try clear hb2); (try clear hk); (try clear hi)) | (go_at_call 16; (with_reducible refine (stockyardlaw09_awake.calls kj31  t218 _ A43.out).mono ?_); rintro e w45 ⟨rfl, hb⟩; have n0_ := Aside0.mk (below_step (by repeat (first | (with_reducible first | exact HB.out | apply below_alloc | apply pw_below_drewN | apply below_drew1) | exact HB.out)) hb); clear HB; have HB := n0_; clear n0_; (try clear hb); (try clear hb2); (try clear hk); (try clear hi))))
                                  go_ret
                                  exact ⟨by first | rfl | (simp [errW_none, errW_some] <;> rfl) | (simp [*, errW_none, errW_some] <;> rfl), by repeat (first | (with_reducible first | exact HB.out | apply below_alloc | apply pw_below_drewN | apply below_drew1) | exact HB.out)⟩
                                · rw [if_neg c42] at H
                                  have c42b0 : (t217 == 0) = false := beq_eq_false_iff_ne.mpr c42
                                  have c42b1 : (t217 != 0) = true := bne_iff_ne.mpr c42
                                  obtain rfl := Option.some.inj H
                                  go_wp2_with (first | (go_at_call 23; (with_reducible refine (path_Component.calls kj31 a2 true _ A36.out).mono ?_); rintro e w' ⟨rfl, ⟨nd, rfl⟩⟩; (try first | exact ⟨rfl, _, World.drewN_drewN _ _ _⟩ | exact ⟨rfl, _, Eq.trans (World.drewN_drewN _ _ _) (congrArg (World.drewN _) (Nat.add_assoc _ _ _))⟩)) | (go_at_call 21; (with_reducible refine (filetype_Follow.calls kj31 a0 ((a2 ++ (⟨#[47, 46, 46, 47]⟩ : ByteArray)) ++ a1) t216 t217 _ A40.out).mono ?_); rintro e w46 ⟨rfl, hb⟩; have n0_ := Aside0.mk (below_step (by repeat (first | (with_reducible first | exact HB.out | apply below_alloc | apply pw_below_drewN | apply below_drew1) | exact HB.out)) hb); clear HB; have HB := n0_; clear n0_; (try clear hb); (try clear hb2); (try clear hk); (try clear hi)))
                                  repeat (go_quiet (first | (go_at_call 23; (with_reducible refine (path_Component.calls kj31 a2 true _ A36.out).mono ?_); rintro e w' ⟨rfl, ⟨nd, rfl⟩⟩; (try first | exact ⟨rfl, _, World.drewN_drewN _ _ _⟩ | exact ⟨rfl, _, Eq.trans (World.drewN_drewN _ _ _) (congrArg (World.drewN _) (Nat.add_assoc _ _ _))⟩)) | (go_at_call 21; (with_reducible refine (filetype_Follow.calls kj31 a0 ((a2 ++ (⟨#[47, 46, 46, 47]⟩ : ByteArray)) ++ a1) t216 t217 _ A40.out).mono ?_); rintro e w46 ⟨rfl, hb⟩; have n0_ := Aside0.mk (below_step (by repeat (first | (with_reducible first | exact HB.out | apply below_alloc | apply pw_below_drewN | apply below_drew1) | exact HB.out)) hb); clear HB; have HB := n0_; clear n0_; (try clear hb); (try clear hb2); (try clear hk); (try clear hi))); try go_wp2_with (first | (go_at_call 23; (with_reducible refine (path_Component.calls kj31 a2 true _ A36.out).mono ?_); rintro e w' ⟨rfl, ⟨nd, rfl⟩⟩; (try first | exact ⟨rfl, _, World.drewN_drewN _ _ _⟩ | exact ⟨rfl, _, Eq.trans (World.drewN_drewN _ _ _) (congrArg (World.drewN _) (Nat.add_assoc _ _ _))⟩)) | (go_at_call 21; (with_reducible refine (filetype_Follow.calls kj31 a0 ((a2 ++ (⟨#[47, 46, 46, 47]⟩ : ByteArray)) ++ a1) t216 t217 _ A40.out).mono ?_); rintro e w46 ⟨rfl, hb⟩; have n0_ := Aside0.mk (below_step (by repeat (first | (with_reducible first | exact HB.out | apply below_alloc | apply pw_below_drewN | apply below_drew1) | exact HB.out)) hb); clear HB; have HB := n0_; clear n0_; (try clear hb); (try clear hb2); (try clear hk); (try clear hi))))
                                  go_ret
                                  exact ⟨by first | rfl | (simp [errW_none, errW_some] <;> rfl) | (simp [*, errW_none, errW_some] <;> rfl), by repeat (first | (with_reducible first | exact HB.out | apply below_alloc | apply pw_below_drewN | apply below_drew1) | exact HB.out)⟩
                              · rw [if_neg c41] at H
                                have c41b0 : (t216.toList == t200.toList) = false := beq_eq_false_iff_ne.mpr c41
                                have c41b1 : (t216.toList != t200.toList) = true := bne_iff_ne.mpr c41
                                obtain rfl := Option.some.inj H
                                go_wp2_with (first | (go_at_call 23; (with_reducible refine (path_Component.calls kj31 a2 true _ A36.out).mono ?_); rintro e w' ⟨rfl, ⟨nd, rfl⟩⟩; (try first | exact ⟨rfl, _, World.drewN_drewN _ _ _⟩ | exact ⟨rfl, _, Eq.trans (World.drewN_drewN _ _ _) (congrArg (World.drewN _) (Nat.add_assoc _ _ _))⟩)) | (go_at_call 21; (with_reducible refine (filetype_Follow.calls kj31 a0 ((a2 ++ (⟨#[47, 46, 46, 47]⟩ : ByteArray)) ++ a1) t216 t217 _ A40.out).mono ?_); rintro e w47 ⟨rfl, hb⟩; have n0_ := Aside0.mk (below_step (by repeat (first | (with_reducible first | exact HB.out | apply below_alloc | apply pw_below_drewN | apply below_drew1) | exact HB.out)) hb); clear HB; have HB := n0_; clear n0_; (try clear hb); (try clear hb2); (try clear hk); (try clear hi)))
                                repeat (go_quiet (first | (go_at_call 23; (with_reducible refine (path_Component.calls kj31 a2 true _ A36.out).mono ?_); rintro e w' ⟨rfl, ⟨nd, rfl⟩⟩; (try first | exact ⟨rfl, _, World.drewN_drewN _ _ _⟩ | exact ⟨rfl, _, Eq.trans (World.drewN_drewN _ _ _) (congrArg (World.drewN _) (Nat.add_assoc _ _ _))⟩)) | (go_at_call 21; (with_reducible refine (filetype_Follow.calls kj31 a0 ((a2 ++ (⟨#[47, 46, 46, 47]⟩ : ByteArray)) ++ a1) t216 t217 _ A40.out).mono ?_); rintro e w47 ⟨rfl, hb⟩; have n0_ := Aside0.mk (below_step (by repeat (first | (with_reducible first | exact HB.out | apply below_alloc | apply pw_below_drewN | apply below_drew1) | exact HB.out)) hb); clear HB; have HB := n0_; clear n0_; (try clear hb); (try clear hb2); (try clear hk); (try clear hi))); try go_wp2_with (first | (go_at_call 23; (with_reducible refine (path_Component.calls kj31 a2 true _ A36.out).mono ?_); rintro e w' ⟨rfl, ⟨nd, rfl⟩⟩; (try first | exact ⟨rfl, _, World.drewN_drewN _ _ _⟩ | exact ⟨rfl, _, Eq.trans (World.drewN_drewN _ _ _) (congrArg (World.drewN _) (Nat.add_assoc _ _ _))⟩)) | (go_at_call 21; (with_reducible refine (filetype_Follow.calls kj31 a0 ((a2 ++ (⟨#[47, 46, 46, 47]⟩ : ByteArray)) ++ a1) t216 t217 _ A40.out).mono ?_); rintro e w47 ⟨rfl, hb⟩; have n0_ := Aside0.mk (below_step (by repeat (first | (with_reducible first | exact HB.out | apply below_alloc | apply pw_below_drewN | apply below_drew1) | exact HB.out)) hb); clear HB; have HB := n0_; clear n0_; (try clear hb); (try clear hb2); (try clear hk); (try clear hi))))
                                go_ret
                                exact ⟨by first | rfl | (simp [errW_none, errW_some] <;> rfl) | (simp [*, errW_none, errW_some] <;> rfl), by repeat (first | (with_reducible first | exact HB.out | apply below_alloc | apply pw_below_drewN | apply below_drew1) | exact HB.out)⟩
                            · rw [if_neg c39] at H
                              exact absurd H (by simp)
                          · rw [if_neg c38] at H
                            exact absurd H (by simp)
                        · replace c37 := Bool.eq_false_iff.mpr c37
                          subst c37
                          have H1 : ((stockyardlaw09_awake.f kj31).bind fun t219 => (some t219)) = some r := by rw [if_neg (show ¬ (false = true) by decide)] at H; exact H
                          clear H
                          have H := H1
                          clear H1
                          replace H := Option.bind_eq_some_iff.mp H
                          obtain ⟨t219, A480, H⟩ := H
                          replace H : (some t219) = some r := H
                          have A48 := Aside0.mk A480
                          clear A480
                          obtain rfl := Option.some.inj H
                          go_wp2_with (first | (go_at_call 23; (with_reducible refine (path_Component.calls kj31 a2 false _ A36.out).mono ?_); rintro e w' ⟨rfl, ⟨nd, rfl⟩⟩; (try first | exact ⟨rfl, _, World.drewN_drewN _ _ _⟩ | exact ⟨rfl, _, Eq.trans (World.drewN_drewN _ _ _) (congrArg (World.drewN _) (Nat.add_assoc _ _ _))⟩)) | (go_at_call 16; (with_reducible refine (stockyardlaw09_awake.calls kj31  t219 _ A48.out).mono ?_); rintro e w49 ⟨rfl, hb⟩; have n0_ := Aside0.mk (below_step (by repeat (first | (with_reducible first | exact HB.out | apply below_alloc | apply pw_below_drewN | apply below_drew1) | exact HB.out)) hb); clear HB; have HB := n0_; clear n0_; (try clear hb); (try clear hb2); (try clear hk); (try clear hi)))
                          repeat (go_quiet (first | (go_at_call 23; (with_reducible refine (path_Component.calls kj31 a2 false _ A36.out).mono ?_); rintro e w' ⟨rfl, ⟨nd, rfl⟩⟩; (try first | exact ⟨rfl, _, World.drewN_drewN _ _ _⟩ | exact ⟨rfl, _, Eq.trans (World.drewN_drewN _ _ _) (congrArg (World.drewN _) (Nat.add_assoc _ _ _))⟩)) | (go_at_call 16; (with_reducible refine (stockyardlaw09_awake.calls kj31  t219 _ A48.out).mono ?_); rintro e w49 ⟨rfl, hb⟩; have n0_ := Aside0.mk (below_step (by repeat (first | (with_reducible first | exact HB.out | apply below_alloc | apply pw_below_drewN | apply below_drew1) | exact HB.out)) hb); clear HB; have HB := n0_; clear n0_; (try clear hb); (try clear hb2); (try clear hk); (try clear hi))); try go_wp2_with (first | (go_at_call 23; (with_reducible refine (path_Component.calls kj31 a2 false _ A36.out).mono ?_); rintro e w' ⟨rfl, ⟨nd, rfl⟩⟩; (try first | exact ⟨rfl, _, World.drewN_drewN _ _ _⟩ | exact ⟨rfl, _, Eq.trans (World.drewN_drewN _ _ _) (congrArg (World.drewN _) (Nat.add_assoc _ _ _))⟩)) | (go_at_call 16; (with_reducible refine (stockyardlaw09_awake.calls kj31  t219 _ A48.out).mono ?_); rintro e w49 ⟨rfl, hb⟩; have n0_ := Aside0.mk (below_step (by repeat (first | (with_reducible first | exact HB.out | apply below_alloc | apply pw_below_drewN | apply below_drew1) | exact HB.out)) hb); clear HB; have HB := n0_; clear n0_; (try clear hb); (try clear hb2); (try clear hk); (try clear hi))))
                          go_ret
                          exact ⟨by first | rfl | (simp [errW_none, errW_some] <;> rfl) | (simp [*, errW_none, errW_some] <;> rfl), by repeat (first | (with_reducible first | exact HB.out | apply below_alloc | apply pw_below_drewN | apply below_drew1) | exact HB.out)⟩
                · rw [if_neg c30] at H
                  exact absurd H (by simp)
        · rw [if_neg c11] at H
          have c11b0 : (t201 == 0) = false := beq_eq_false_iff_ne.mpr c11
          have c11b1 : (t201 != 0) = true := bne_iff_ne.mpr c11
          replace H := Option.bind_eq_some_iff.mp H
          obtain ⟨t202, A500, H⟩ := H
          replace H : (some t202) = some r := H
          have A50 := Aside0.mk A500
          clear A500
          obtain rfl := Option.some.inj H
          go_wp2_with (first | (go_at_call 21; (with_reducible refine (filetype_Follow.calls kj3 a0 a1 t200 t201 _ A10.out).mono ?_); rintro e w51 ⟨rfl, hb⟩; have n0_ := Aside0.mk (below_step (by repeat (first | (with_reducible first | exact HB.out | apply below_alloc | apply pw_below_drewN | apply below_drew1) | exact HB.out)) hb); clear HB; have HB := n0_; clear n0_; (try clear hb); (try clear hb2); (try clear hk); (try clear hi)) | (go_at_call 16; (with_reducible refine (stockyardlaw09_awake.calls kj3  t202 _ A50.out).mono ?_); rintro e w52 ⟨rfl, hb⟩; have n0_ := Aside0.mk (below_step (by repeat (first | (with_reducible first | exact HB.out | apply below_alloc | apply pw_below_drewN | apply below_drew1) | exact HB.out)) hb); clear HB; have HB := n0_; clear n0_; (try clear hb); (try clear hb2); (try clear hk); (try clear hi)))
          repeat (go_quiet (first | (go_at_call 21; (with_reducible refine (filetype_Follow.calls kj3 a0 a1 t200 t201 _ A10.out).mono ?_); rintro e w51 ⟨rfl, hb⟩; have n0_ := Aside0.mk (below_step (by repeat (first | (with_reducible first | exact HB.out | apply below_alloc | apply pw_below_drewN | apply below_drew1) | exact HB.out)) hb); clear HB; have HB := n0_; clear n0_; (try clear hb); (try clear hb2); (try clear hk); (try clear hi)) | (go_at_call 16; (with_reducible refine (stockyardlaw09_awake.calls kj3  t202 _ A50.out).mono ?_); rintro e w52 ⟨rfl, hb⟩; have n0_ := Aside0.mk (below_step (by repeat (first | (with_reducible first | exact HB.out | apply below_alloc | apply pw_below_drewN | apply below_drew1) | exact HB.out)) hb); clear HB; have HB := n0_; clear n0_; (try clear hb); (try clear hb2); (try clear hk); (try clear hi))); try go_wp2_with (first | (go_at_call 21; (with_reducible refine (filetype_Follow.calls kj3 a0 a1 t200 t201 _ A10.out).mono ?_); rintro e w51 ⟨rfl, hb⟩; have n0_ := Aside0.mk (below_step (by repeat (first | (with_reducible first | exact HB.out | apply below_alloc | apply pw_below_drewN | apply below_drew1) | exact HB.out)) hb); clear HB; have HB := n0_; clear n0_; (try clear hb); (try clear hb2); (try clear hk); (try clear hi)) | (go_at_call 16; (with_reducible refine (stockyardlaw09_awake.calls kj3  t202 _ A50.out).mono ?_); rintro e w52 ⟨rfl, hb⟩; have n0_ := Aside0.mk (below_step (by repeat (first | (with_reducible first | exact HB.out | apply below_alloc | apply pw_below_drewN | apply below_drew1) | exact HB.out)) hb); clear HB; have HB := n0_; clear n0_; (try clear hb); (try clear hb2); (try clear hk); (try clear hi))))
          go_ret
          exact ⟨by first | rfl | (simp [errW_none, errW_some] <;> rfl) | (simp [*, errW_none, errW_some] <;> rfl), by repeat (first | (with_reducible first | exact HB.out | apply below_alloc | apply pw_below_drewN | apply below_drew1) | exact HB.out)⟩

/-! ### stockyardref02_Component: function 45 -/
mutual
def stockyardref02_Component.j0 : Nat → ByteArray → Bool → Option (Bool)
  | 0, _, _ => none
  | k + 1, x0, x10 => if x10 = true then (some false) else (stockyardref02_Component.l0 k x0 0)
def stockyardref02_Component.l0 : Nat → ByteArray → Int → Option (Bool)
  | 0, _, _ => none
  | k + 1, x0, x3 => if x3 < (x0.size : Int) then (if 0 ≤ x3 then ((strings_IndexByte.f (⟨#[65, 66, 67, 68, 69, 70, 71, 72, 73, 74, 75, 76, 77, 78, 79, 80, 81, 82, 83, 84, 85, 86, 87, 88, 89, 90, 97, 98, 99, 100, 101, 102, 103, 104, 105, 106, 107, 108, 109, 110, 111, 112, 113, 114, 115, 116, 117, 118, 119, 120, 121, 122, 48, 49, 50, 51, 52, 53, 54, 55, 56, 57, 95, 46, 43, 45]⟩ : ByteArray) (bt x0 x3)).bind fun t220 => (if t220 < 0 then (some false) else (stockyardref02_Component.l0 k x0 (wrap64 (x3 + 1))))) else (none)) else (some true)
end
def stockyardref02_Component.f (k : Nat) (a0 : ByteArray) : Option (Bool) := if a0.toList = ([] : List UInt8) then (stockyardref02_Component.j0 k a0 true) else (if 0 < (a0.size : Int) then (stockyardref02_Component.j0 k a0 ((bt a0 0) == 46)) else (none))
theorem stockyardref02_Component.mono_l : ∀ k, (∀ y0 y1, LeO (stockyardref02_Component.j0 k y0 y1) (stockyardref02_Component.j0 (k + 1) y0 y1)) ∧ (∀ y0 y1, LeO (stockyardref02_Component.l0 k y0 y1) (stockyardref02_Component.l0 (k + 1) y0 y1))
  | 0 => ⟨fun _ _ r h => by simp [stockyardref02_Component.j0] at h, fun _ _ r h => by simp [stockyardref02_Component.l0] at h⟩
  | k + 1 => by
    obtain ⟨ih0, ih1⟩ := stockyardref02_Component.mono_l k
    refine ⟨?_, ?_⟩
    · intro y0 y1
      unfold stockyardref02_Component.j0
      repeat' first
      | (with_reducible exact ih0 _ _)
      | (with_reducible exact ih1 _ _)
      | (with_reducible exact LeO.refl _)
      | (with_reducible exact LeO.none _)
      | (with_reducible refine LeO.ite ?_ ?_)
      | (with_reducible refine LeO.bind ?_ (fun _ => ?_))
      | exact ih0 _ _
      | exact ih1 _ _
      | exact LeO.none _
      | refine LeO.ite ?_ ?_
      | refine LeO.bind ?_ (fun _ => ?_)
    · intro y0 y1
      unfold stockyardref02_Component.l0
      repeat' first
      | (with_reducible exact ih0 _ _)
      | (with_reducible exact ih1 _ _)
      | (with_reducible exact LeO.refl _)
      | (with_reducible exact LeO.none _)
      | (with_reducible refine LeO.ite ?_ ?_)
      | (with_reducible refine LeO.bind ?_ (fun _ => ?_))
      | exact ih0 _ _
      | exact ih1 _ _
      | exact LeO.none _
      | refine LeO.ite ?_ ?_
      | refine LeO.bind ?_ (fun _ => ?_)
theorem stockyardref02_Component.mono : ∀ a0 k, LeO (stockyardref02_Component.f k a0) (stockyardref02_Component.f (k + 1) a0) := by
  intro a0 k
  obtain ⟨ih0, ih1⟩ := stockyardref02_Component.mono_l k
  unfold stockyardref02_Component.f
  repeat' first
      | (with_reducible exact ih0 _ _)
      | (with_reducible exact ih1 _ _)
      | (with_reducible exact LeO.refl _)
      | (with_reducible exact LeO.none _)
      | (with_reducible refine LeO.ite ?_ ?_)
      | (with_reducible refine LeO.bind ?_ (fun _ => ?_))
      | exact ih0 _ _
      | exact ih1 _ _
      | exact LeO.none _
      | refine LeO.ite ?_ ?_
      | refine LeO.bind ?_ (fun _ => ?_)
set_option maxHeartbeats 8000000 in
set_option maxRecDepth 100000 in
theorem stockyardref02_Component.calls (k : Nat) (a0 : ByteArray) (r : Bool) (w : World) (h : stockyardref02_Component.f k a0 = some r) :
    Calls Tryd.prog 45 #[.string a0] w fun e w' => e = .returned (.bool r) ∧ Drawn0 w w' := by
  have H : (if a0.toList = ([] : List UInt8) then (stockyardref02_Component.j0 k a0 true) else (if 0 < (a0.size : Int) then (stockyardref02_Component.j0 k a0 ((bt a0 0) == 46)) else (none))) = some r := h
  clear h
  have HC2 := Aside0.mk H
  clear H
  go_enter Tryd.func45, Tryd.ntmps45
  go_upto_region 1 with (fail)
  go_cut [10] (fun v10 wc => ∃ (kq : Nat) (x10_1 : Bool), v10 = .bool x10_1 ∧ Aside0 (stockyardref02_Component.j0 kq a0 x10_1 = some r) ∧ Aside0 (kq ≤ k) ∧ Drawn0 w wc)
  case first =>
    have H := HC2.out
    clear HC2
    by_cases c3 : a0.toList = ([] : List UInt8)
    · rw [if_pos c3] at H
      have c3b0 : (a0.toList == ([] : List UInt8)) = true := beq_iff_eq.mpr c3
      have c3b1 : (a0.toList != ([] : List UInt8)) = false := bne_eq_false_iff_eq.mpr c3
      clear c3
      (first | rw [c3b0] | (simp only [i64_w, i32_w]; rw [c3b0]) | skip)
      have H' := Aside0.mk H
      clear H
      go_wp2
      go_meet
      case rel => exact ⟨_, (true), (by first | rfl | (simp; done) | (simp [*]; done)), H', ⟨by first | omega | exact Nat.le_refl _⟩, by repeat (first | exact Drawn0.refl _ | apply Drawn0.step)⟩
    · rw [if_neg c3] at H
      have c3b0 : (a0.toList == ([] : List UInt8)) = false := beq_eq_false_iff_ne.mpr c3
      have c3b1 : (a0.toList != ([] : List UInt8)) = true := bne_iff_ne.mpr c3
      (first | rw [c3b0] | (simp only [i64_w, i32_w]; rw [c3b0]) | skip)
      by_cases c4 : 0 < (a0.size : Int)
      · rw [if_pos c4] at H
        have c4b0 : decide (0 < (a0.size : Int)) = true := decide_eq_true c4
        have c4b1 : decide (0 < a0.size) = true := decide_eq_true (by omega)
        clear c4
        have H' := Aside0.mk H
        clear H
        have p5 : 0 ≤ (0 : Int) := (by omega)
        have q5 : 0 < a0.size := (by have : (0 : Int) < (a0.size : Int) := of_decide_eq_true (by first | (with_reducible assumption) | assumption); omega)
        have hx5 : ∀ h : 0 < a0.size, ((a0[0]'h).toNat : Int) = bt a0 0 := bt_at a0 0
        clear p5
        have qi5 : (0 < (a0.size : Int)) = True := eq_true (of_decide_eq_true (by first | (with_reducible assumption) | assumption))
        replace q5 := eq_true q5
        go_wp2
        go_meet
        case rel => exact ⟨_, (((bt a0 0) == 46)), (by first | rfl | (simp; done) | (simp [*]; done)), H', ⟨by first | omega | exact Nat.le_refl _⟩, by repeat (first | exact Drawn0.refl _ | apply Drawn0.step)⟩
      · rw [if_neg c4] at H
        exact absurd H (by simp)
  case rest =>
    clear HC2
    try clear p2
    try clear c3
    try clear c3b0
    try clear c3b1
    try clear c4
    try clear c4b0
    try clear c4b1
    try clear p5
    try clear q5
    try clear hx5
    try clear qi5
    try clear p5
    try clear q5
    obtain ⟨kq, x10_1, rfl, HA, HJ1, ⟨mc1, rfl⟩⟩ := hcut
    cases kq with
    | zero => exact absurd HA.out (by simp [stockyardref02_Component.j0])
    | succ kj1 =>
      have H := HA.out
      clear HA
      simp only [stockyardref02_Component.j0] at H
      by_cases c6 : x10_1 = true
      · subst c6
        have H1 : (some false) = some r := by rw [if_pos rfl] at H; exact H
        clear H
        have H := H1
        clear H1
        obtain rfl := Option.some.inj H
        go_wp2
        go_ret
        exact ⟨by first | rfl | (simp; done) | (simp [*]; done), by repeat (first | exact Drawn0.refl _ | apply Drawn0.step)⟩
      · replace c6 := Bool.eq_false_iff.mpr c6
        subst c6
        have H1 : (stockyardref02_Component.l0 kj1 a0 0) = some r := by rw [if_neg (show ¬ (false = true) by decide)] at H; exact H
        clear H
        have H := H1
        clear H1
        have H' := Aside0.mk H
        clear H
        go_wp2
        go_loopg [3] kj1 (fun kq v3 w' => ∃ (x3_2 : Int), v3 = .int .i64 x3_2 ∧ Aside0 (stockyardref02_Component.l0 kq a0 x3_2 = some r) ∧ Aside0 (kq ≤ kj1) ∧ Drawn0 w w')
        case atStart => exact ⟨(0), (by first | rfl | (simp; done) | (simp [*]; done)), H', ⟨Nat.le_refl _⟩, by repeat (first | exact Drawn0.refl _ | apply Drawn0.step)⟩
        case round =>
          clear H'
          try clear c1
          try clear p2
          try clear c3
          try clear c3b0
          try clear c3b1
          try clear c4
          try clear c4b0
          try clear c4b1
          try clear p5
          try clear q5
          try clear hx5
          try clear qi5
          try clear c6
          try clear p2
          try clear p5
          try clear q5
          obtain ⟨x3_2, rfl, HA, HK2, ⟨m2, rfl⟩⟩ := hrel
          cases gk with
          | zero => exact absurd HA.out (by simp [stockyardref02_Component.l0])
          | succ k2 =>
            have H := HA.out
            clear HA
            simp only [stockyardref02_Component.l0] at H
            by_cases c7 : x3_2 < (a0.size : Int)
            · rw [if_pos c7] at H
              have c7b0 : decide (x3_2 < (a0.size : Int)) = true := decide_eq_true c7
              clear c7
              by_cases c8 : 0 ≤ x3_2
              · rw [if_pos c8] at H
                have c8b0 : decide (0 ≤ x3_2) = true := decide_eq_true c8
                clear c8
                replace H := Option.bind_eq_some_iff.mp H
                obtain ⟨t220, A100, H⟩ := H
                replace H : (if t220 < 0 then (some false) else (stockyardref02_Component.l0 k2 a0 (wrap64 (x3_2 + 1)))) = some r := H
                have A10 := Aside0.mk A100
                clear A100
                by_cases c11 : t220 < 0
                · rw [if_pos c11] at H
                  have c11b0 : decide (t220 < 0) = true := decide_eq_true c11
                  clear c11
                  obtain rfl := Option.some.inj H
                  have p9 : 0 ≤ (x3_2 : Int) := of_decide_eq_true (by first | (with_reducible assumption) | assumption)
                  have q9 : x3_2 < (a0.size : Int) := of_decide_eq_true (by first | (with_reducible assumption) | assumption)
                  have hx9 := bt_at a0 x3_2
                  replace p9 := eq_true p9
                  replace q9 := eq_true q9
                  go_wp2_with (first | ((with_reducible refine gate_callee (f := 37) rfl ?_); refine goesL_ (some 20) rfl rfl Tryd.func37 (by kernel_rfl) rfl #[.string (⟨#[65, 66, 67, 68, 69, 70, 71, 72, 73, 74, 75, 76, 77, 78, 79, 80, 81, 82, 83, 84, 85, 86, 87, 88, 89, 90, 97, 98, 99, 100, 101, 102, 103, 104, 105, 106, 107, 108, 109, 110, 111, 112, 113, 114, 115, 116, 117, 118, 119, 120, 121, 122, 48, 49, 50, 51, 52, 53, 54, 55, 56, 57, 95, 46, 43, 45]⟩ : ByteArray), .int .u8 (bt a0 x3_2)] rfl (by (try simp only [List.map_toArray, List.map_cons, List.map_nil]); first | done | rfl | (simp only [List.length_drop, List.length_take]; rfl)) ?_; (with_reducible refine (strings_IndexByte.calls (⟨#[65, 66, 67, 68, 69, 70, 71, 72, 73, 74, 75, 76, 77, 78, 79, 80, 81, 82, 83, 84, 85, 86, 87, 88, 89, 90, 97, 98, 99, 100, 101, 102, 103, 104, 105, 106, 107, 108, 109, 110, 111, 112, 113, 114, 115, 116, 117, 118, 119, 120, 121, 122, 48, 49, 50, 51, 52, 53, 54, 55, 56, 57, 95, 46, 43, 45]⟩ : ByteArray) (bt a0 x3_2) t220 _ A10.out).mono ?_); rintro e w' ⟨rfl, ⟨nd, rfl⟩⟩; refine ⟨_, rfl, ?_⟩))
                  go_ret
                  exact ⟨by first | rfl | (simp; done) | (simp [*]; done), by repeat (first | exact Drawn0.refl _ | apply Drawn0.step)⟩
                · rw [if_neg c11] at H
                  have c11b0 : decide (t220 < 0) = false := decide_eq_false c11
                  clear c11
                  have H' := Aside0.mk H
                  clear H
                  have p9 : 0 ≤ (x3_2 : Int) := of_decide_eq_true (by first | (with_reducible assumption) | assumption)
                  have q9 : x3_2 < (a0.size : Int) := of_decide_eq_true (by first | (with_reducible assumption) | assumption)
                  have hx9 := bt_at a0 x3_2
                  replace p9 := eq_true p9
                  replace q9 := eq_true q9
                  go_wp2_with (first | ((with_reducible refine gate_callee (f := 37) rfl ?_); refine goesL_ (some 20) rfl rfl Tryd.func37 (by kernel_rfl) rfl #[.string (⟨#[65, 66, 67, 68, 69, 70, 71, 72, 73, 74, 75, 76, 77, 78, 79, 80, 81, 82, 83, 84, 85, 86, 87, 88, 89, 90, 97, 98, 99, 100, 101, 102, 103, 104, 105, 106, 107, 108, 109, 110, 111, 112, 113, 114, 115, 116, 117, 118, 119, 120, 121, 122, 48, 49, 50, 51, 52, 53, 54, 55, 56, 57, 95, 46, 43, 45]⟩ : ByteArray), .int .u8 (bt a0 x3_2)] rfl (by (try simp only [List.map_toArray, List.map_cons, List.map_nil]); first | done | rfl | (simp only [List.length_drop, List.length_take]; rfl)) ?_; (with_reducible refine (strings_IndexByte.calls (⟨#[65, 66, 67, 68, 69, 70, 71, 72, 73, 74, 75, 76, 77, 78, 79, 80, 81, 82, 83, 84, 85, 86, 87, 88, 89, 90, 97, 98, 99, 100, 101, 102, 103, 104, 105, 106, 107, 108, 109, 110, 111, 112, 113, 114, 115, 116, 117, 118, 119, 120, 121, 122, 48, 49, 50, 51, 52, 53, 54, 55, 56, 57, 95, 46, 43, 45]⟩ : ByteArray) (bt a0 x3_2) t220 _ A10.out).mono ?_); rintro e w' ⟨rfl, ⟨nd, rfl⟩⟩; refine ⟨_, rfl, ?_⟩))
                  go_roundg k2
                  case measure => have := HJ1.out; have := HK2.out; omega
                  case rel => exact ⟨(wrap64 (x3_2 + 1)), (by first | rfl | (simp; done) | (simp [*]; done)), H', ⟨by have := HJ1.out; have := HK2.out; omega⟩, by repeat (first | exact Drawn0.refl _ | apply Drawn0.step)⟩
              · rw [if_neg c8] at H
                exact absurd H (by simp)
            · rw [if_neg c7] at H
              have c7b0 : decide (x3_2 < (a0.size : Int)) = false := decide_eq_false c7
              clear c7
              obtain rfl := Option.some.inj H
              go_wp2
              go_ret
              exact ⟨by first | rfl | (simp; done) | (simp [*]; done), by repeat (first | exact Drawn0.refl _ | apply Drawn0.step)⟩

/-! ### strings_HasPrefix: function 70 -/
def strings_HasPrefix.f (a0 : ByteArray) (a1 : ByteArray) : Option (Bool) := (stringslite_HasPrefix.f a0 a1).bind fun t221 => (some t221)
set_option maxHeartbeats 8000000 in
set_option maxRecDepth 100000 in
theorem strings_HasPrefix.calls (a0 : ByteArray) (a1 : ByteArray) (r : Bool) (w : World) (h : strings_HasPrefix.f a0 a1 = some r) :
    Calls Tryd.prog 70 #[.string a0, .string a1] w fun e w' => e = .returned (.bool r) ∧ Drawn0 w w' := by
  have H : ((stringslite_HasPrefix.f a0 a1).bind fun t221 => (some t221)) = some r := h
  clear h
  replace H := Option.bind_eq_some_iff.mp H
  obtain ⟨t221, A30, H⟩ := H
  replace H : (some t221) = some r := H
  have A3 := Aside0.mk A30
  clear A30
  obtain rfl := Option.some.inj H
  go_enter Tryd.func70, Tryd.ntmps70
  go_wp2_with (first | ((with_reducible refine gate_callee (f := 79) rfl ?_); refine goesL_ (some 7) rfl rfl Tryd.func79 (by kernel_rfl) rfl #[.string a0, .string a1] rfl (by (try simp only [List.map_toArray, List.map_cons, List.map_nil]); first | done | rfl | (simp only [List.length_drop, List.length_take]; rfl)) ?_; (with_reducible refine (stringslite_HasPrefix.calls a0 a1 t221 _ A3.out).mono ?_); rintro e w' ⟨rfl, ⟨nd, rfl⟩⟩; refine ⟨_, rfl, ?_⟩))
  go_ret
  exact ⟨by first | rfl | (simp; done) | (simp [*]; done), by repeat (first | exact Drawn0.refl _ | apply Drawn0.step)⟩

/-! ### stockyardref02_Parts: function 55 -/
def stockyardref02_Parts.l0 : Nat → List ByteArray → List ByteArray → Int → Int → Option (List ByteArray × Bool)
  | 0, _, _, _, _ => none
  | k + 1, x4, x13, x14, x15 => if x15 < x14 then (if 0 ≤ x15 then (if x15 < (x13.length : Int) then ((stockyardref02_Component.f k (rdOf ByteArray.empty x13 x15)).bind fun t227 => (if t227 = true then (stockyardref02_Parts.l0 k x4 x13 x14 (wrap64 (x15 + 1))) else (some (([] : List ByteArray), false)))) else (none)) else (none)) else (some (x4, true))
def stockyardref02_Parts.f (k : Nat) (a0 : ByteArray) : Option (List ByteArray × Bool) := (strings_HasPrefix.f a0 (⟨#[47, 47]⟩ : ByteArray)).bind fun t222 => (if t222 = true then (if 2 ≤ (a0.size : Int) then ((strings_Split.f (a0.extract 2 a0.size) (⟨#[47]⟩ : ByteArray)).bind fun t223 => (stockyardref02_Parts.l0 k t223 t223 (t223.length : Int) 0)) else (none)) else (some (([] : List ByteArray), false)))
theorem stockyardref02_Parts.mono_l : ∀ k, (∀ y0 y1 y2 y3, LeO (stockyardref02_Parts.l0 k y0 y1 y2 y3) (stockyardref02_Parts.l0 (k + 1) y0 y1 y2 y3))
  | 0 => fun _ _ _ _ r h => by simp [stockyardref02_Parts.l0] at h
  | k + 1 => by
    have ih0 := stockyardref02_Parts.mono_l k
    · intro y0 y1 y2 y3
      unfold stockyardref02_Parts.l0
      repeat' first
      | (with_reducible exact ih0 _ _ _ _)
      | (with_reducible exact stockyardref02_Component.mono _ _)
      | (with_reducible exact LeO.refl _)
      | (with_reducible exact LeO.none _)
      | (with_reducible refine LeO.ite ?_ ?_)
      | (with_reducible refine LeO.bind ?_ (fun _ => ?_))
      | exact ih0 _ _ _ _
      | exact stockyardref02_Component.mono _ _
      | exact LeO.none _
      | refine LeO.ite ?_ ?_
      | refine LeO.bind ?_ (fun _ => ?_)
theorem stockyardref02_Parts.mono : ∀ a0 k, LeO (stockyardref02_Parts.f k a0) (stockyardref02_Parts.f (k + 1) a0) := by
  intro a0 k
  have ih0 := stockyardref02_Parts.mono_l k
  unfold stockyardref02_Parts.f
  repeat' first
      | (with_reducible exact ih0 _ _ _ _)
      | (with_reducible exact stockyardref02_Component.mono _ _)
      | (with_reducible exact LeO.refl _)
      | (with_reducible exact LeO.none _)
      | (with_reducible refine LeO.ite ?_ ?_)
      | (with_reducible refine LeO.bind ?_ (fun _ => ?_))
      | exact ih0 _ _ _ _
      | exact stockyardref02_Component.mono _ _
      | exact LeO.none _
      | refine LeO.ite ?_ ?_
      | refine LeO.bind ?_ (fun _ => ?_)
set_option maxHeartbeats 8000000 in
set_option maxRecDepth 100000 in
theorem stockyardref02_Parts.calls (k : Nat) (a0 : ByteArray) (r1 : List ByteArray) (r2 : Bool) (w : World) (h : stockyardref02_Parts.f k a0 = some (r1, r2)) :
    Calls Tryd.prog 55 #[.string a0] w fun e w' => ∃ v0_ : Value, e = .returned (.tuple #[v0_, .bool r2]) ∧ Kd.R Kd.string 9 w' w.heap.size (fun _ => True) v0_ r1 ∧ Below w.heap.size w w' := by
  have HB := Aside0.mk (Below.refl w.heap.size w)
  have H : ((strings_HasPrefix.f a0 (⟨#[47, 47]⟩ : ByteArray)).bind fun t222 => (if t222 = true then (if 2 ≤ (a0.size : Int) then ((strings_Split.f (a0.extract 2 a0.size) (⟨#[47]⟩ : ByteArray)).bind fun t223 => (stockyardref02_Parts.l0 k t223 t223 (t223.length : Int) 0)) else (none)) else (some (([] : List ByteArray), false)))) = some (r1, r2) := h
  clear h
  replace H := Option.bind_eq_some_iff.mp H
  obtain ⟨t222, A20, H⟩ := H
  replace H : (if t222 = true then (if 2 ≤ (a0.size : Int) then ((strings_Split.f (a0.extract 2 a0.size) (⟨#[47]⟩ : ByteArray)).bind fun t223 => (stockyardref02_Parts.l0 k t223 t223 (t223.length : Int) 0)) else (none)) else (some (([] : List ByteArray), false))) = some (r1, r2) := H
  have A2 := Aside0.mk A20
  clear A20
  by_cases c3 : t222 = true
  · subst c3
    have H1 : (if 2 ≤ (a0.size : Int) then ((strings_Split.f (a0.extract 2 a0.size) (⟨#[47]⟩ : ByteArray)).bind fun t223 => (stockyardref02_Parts.l0 k t223 t223 (t223.length : Int) 0)) else (none)) = some (r1, r2) := by rw [if_pos rfl] at H; exact H
    clear H
    have H := H1
    clear H1
    by_cases c4 : 2 ≤ (a0.size : Int)
    · rw [if_pos c4] at H
      have c4b0 := eq_true c4
      have c4b1 : decide (2 ≤ (a0.size : Int)) = true := decide_eq_true c4
      clear c4
      replace H := Option.bind_eq_some_iff.mp H
      obtain ⟨t223, A50, H⟩ := H
      replace H : (stockyardref02_Parts.l0 k t223 t223 (t223.length : Int) 0) = some (r1, r2) := H
      have A5 := Aside0.mk A50
      clear A50
      have H' := Aside0.mk H
      clear H
      go_enter Tryd.func55, Tryd.ntmps55
      go_wp2_with (first | ((with_reducible refine gate_callee (f := 70) rfl ?_); refine goesL_ (some 8) rfl rfl Tryd.func70 (by kernel_rfl) rfl #[.string a0, .string (⟨#[47, 47]⟩ : ByteArray)] rfl (by (try simp only [List.map_toArray, List.map_cons, List.map_nil]); first | done | rfl | (simp only [List.length_drop, List.length_take]; rfl)) ?_; (with_reducible refine (strings_HasPrefix.calls a0 (⟨#[47, 47]⟩ : ByteArray) true _ A2.out).mono ?_); rintro e w' ⟨rfl, ⟨nd, rfl⟩⟩; refine ⟨_, rfl, ?_⟩) | ((with_reducible refine gate_callee (f := 39) rfl ?_); refine goesL_ (some 12) rfl rfl Tryd.func39 (by kernel_rfl) rfl #[.string (a0.extract 2 a0.size), .string (⟨#[47]⟩ : ByteArray)] rfl (by (try simp only [List.map_toArray, List.map_cons, List.map_nil]); first | done | rfl | (simp only [List.length_drop, List.length_take]; rfl)) ?_; (with_reducible refine (strings_Split.calls (a0.extract 2 a0.size) (⟨#[47]⟩ : ByteArray) t223 _ A5.out).mono ?_); rintro e w6 ⟨v224, rfl, ho0, hb⟩; refine ⟨_, rfl, ?_⟩; have n0_ := Aside0.mk (Kd.R_lower ho0 (below_size (by repeat (first | (with_reducible first | exact HB.out | apply below_alloc | apply pw_below_drewN | apply below_drew1) | exact HB.out)))); have n1_ := Aside0.mk (below_step (by repeat (first | (with_reducible first | exact HB.out | apply below_alloc | apply pw_below_drewN | apply below_drew1) | exact HB.out)) hb); clear HB; have HO225 := n0_; have HB := n1_; clear n0_ n1_; (try clear hb); (try clear hb2); (try clear hk); (try clear hi); (try clear ho0); obtain ⟨Ao7, co7, eo7⟩ := Kd.R_slice HO225.out; subst eo7))
      go_loopg [15] k (fun kq v15 w' => ∃ (x15_1 : Int), v15 = .int .i64 x15_1 ∧ Aside0 (stockyardref02_Parts.l0 kq t223 t223 (t223.length : Int) x15_1 = some (r1, r2)) ∧ Aside0 (kq ≤ k) ∧ Aside0 (Kd.R Kd.string 9 w' w.heap.size (fun _ => True) (.slice Ao7 t223.length co7) t223) ∧ Aside0 (Kd.R Kd.string 9 w' w.heap.size (fun _ => True) (.slice Ao7 t223.length co7) t223) ∧ Aside0 (Below w.heap.size w w'))
      case atStart => exact ⟨(0), (by first | rfl | (simp; done) | (simp [*]; done)), H', ⟨Nat.le_refl _⟩, ⟨by (with_reducible repeat (first | apply Kd.R_alloc | apply Kd.R_drewN | apply Kd.R_drew)); exact HO225.out⟩, ⟨by (with_reducible repeat (first | apply Kd.R_alloc | apply Kd.R_drewN | apply Kd.R_drew)); exact HO225.out⟩, ⟨by repeat (first | (with_reducible first | exact HB.out | apply below_alloc | apply pw_below_drewN | apply below_drew1) | exact HB.out)⟩⟩
      case round =>
        clear H'
        try clear p2
        try clear c3
        try clear c4
        try clear c4b0
        try clear c4b1
        try clear c5
        try clear c7
        obtain ⟨x15_1, rfl, HA, HK1, HO_4, HO_13, HB⟩ := hrel
        cases gk with
        | zero => exact absurd HA.out (by simp [stockyardref02_Parts.l0])
        | succ k1 =>
          have H := HA.out
          clear HA
          simp only [stockyardref02_Parts.l0] at H
          by_cases c8 : x15_1 < (t223.length : Int)
          · rw [if_pos c8] at H
            have c8b0 : decide (x15_1 < (t223.length : Int)) = true := decide_eq_true c8
            clear c8
            by_cases c9 : 0 ≤ x15_1
            · rw [if_pos c9] at H
              have c9b0 : decide (0 ≤ x15_1) = true := decide_eq_true c9
              clear c9
              by_cases c10 : x15_1 < (t223.length : Int)
              · rw [if_pos c10] at H
                have c10b0 : decide (x15_1 < (t223.length : Int)) = true := decide_eq_true c10
                clear c10
                replace H := Option.bind_eq_some_iff.mp H
                obtain ⟨t227, A110, H⟩ := H
                replace H : (if t227 = true then (stockyardref02_Parts.l0 k1 t223 t223 (t223.length : Int) (wrap64 (x15_1 + 1))) else (some (([] : List ByteArray), false))) = some (r1, r2) := H
                have A11 := Aside0.mk A110
                clear A110
                by_cases c12 : t227 = true
                · subst c12
                  have H1 : (stockyardref02_Parts.l0 k1 t223 t223 (t223.length : Int) (wrap64 (x15_1 + 1))) = some (r1, r2) := by rw [if_pos rfl] at H; exact H
                  clear H
                  have H := H1
                  clear H1
                  have H' := Aside0.mk H
                  clear H
                  have p226 : 0 ≤ (x15_1 : Int) := of_decide_eq_true (by first | (with_reducible assumption) | assumption)
                  have q226 : x15_1 < (t223.length : Int) := of_decide_eq_true (by first | (with_reducible assumption) | assumption)
                  obtain ⟨ad226, e226, hx226_0⟩ := Kd.at_string (Kd.R_reads' HO_13.out).2.2 x15_1 p226 q226
                  cases e226
                  replace p226 := eq_true p226
                  replace q226 := eq_true q226
                  go_wp2_with (first | ((with_reducible refine gate_callee (f := 45) rfl ?_); refine goesL_ (some 20) rfl rfl Tryd.func45 (by kernel_rfl) rfl #[.string (rdOf ByteArray.empty t223 x15_1)] rfl (by (try simp only [List.map_toArray, List.map_cons, List.map_nil]); first | done | rfl | (simp only [List.length_drop, List.length_take]; rfl)) ?_; (with_reducible refine (stockyardref02_Component.calls k1 (rdOf ByteArray.empty t223 x15_1) true _ A11.out).mono ?_); rintro e w' ⟨rfl, ⟨nd, rfl⟩⟩; refine ⟨_, rfl, ?_⟩))
                  go_roundg k1
                  case measure => have := HK1.out; omega
                  case rel => exact ⟨(wrap64 (x15_1 + 1)), (by first | rfl | (simp; done) | (simp [*]; done)), H', ⟨by have := HK1.out; omega⟩, ⟨by (with_reducible repeat (first | apply Kd.R_alloc | apply Kd.R_drewN | apply Kd.R_drew)); exact HO_4.out⟩, ⟨by (with_reducible repeat (first | apply Kd.R_alloc | apply Kd.R_drewN | apply Kd.R_drew)); exact HO_13.out⟩, ⟨by repeat (first | (with_reducible first | exact HB.out | apply below_alloc | apply pw_below_drewN | apply below_drew1) | exact HB.out)⟩⟩
                · replace c12 := Bool.eq_false_iff.mpr c12
                  subst c12
                  have H1 : (some (([] : List ByteArray), false)) = some (r1, r2) := by rw [if_neg (show ¬ (false = true) by decide)] at H; exact H
                  clear H
                  have H := H1
                  clear H1
                  simp only [Option.some.injEq, Prod.mk.injEq] at H
                  obtain ⟨rfl, rfl⟩ := H
                  have p226 : 0 ≤ (x15_1 : Int) := of_decide_eq_true (by first | (with_reducible assumption) | assumption)
                  have q226 : x15_1 < (t223.length : Int) := of_decide_eq_true (by first | (with_reducible assumption) | assumption)
                  obtain ⟨ad226, e226, hx226_0⟩ := Kd.at_string (Kd.R_reads' HO_13.out).2.2 x15_1 p226 q226
                  cases e226
                  replace p226 := eq_true p226
                  replace q226 := eq_true q226
                  go_wp2_with (first | ((with_reducible refine gate_callee (f := 45) rfl ?_); refine goesL_ (some 20) rfl rfl Tryd.func45 (by kernel_rfl) rfl #[.string (rdOf ByteArray.empty t223 x15_1)] rfl (by (try simp only [List.map_toArray, List.map_cons, List.map_nil]); first | done | rfl | (simp only [List.length_drop, List.length_take]; rfl)) ?_; (with_reducible refine (stockyardref02_Component.calls k1 (rdOf ByteArray.empty t223 x15_1) false _ A11.out).mono ?_); rintro e w' ⟨rfl, ⟨nd, rfl⟩⟩; refine ⟨_, rfl, ?_⟩))
                  go_ret2
                  exact ⟨_, by first | rfl | (simp [errW_none, errW_some] <;> rfl) | (simp [*, errW_none, errW_some] <;> rfl), by first | exact Kd.R_nil _ _ _ _ _ | exact Kd.N_nil _ _ _ _ _ | exact Kd.V_nil _ _ _ _ _ | exact Kd.Q_nil _ _ _ _ _ | exact Kd.S_nil _ _ _ _ _, by repeat (first | (with_reducible first | exact HB.out | apply below_alloc | apply pw_below_drewN | apply below_drew1) | exact HB.out)⟩
              · rw [if_neg c10] at H
                exact absurd H (by simp)
            · rw [if_neg c9] at H
              exact absurd H (by simp)
          · rw [if_neg c8] at H
            have c8b0 : decide (x15_1 < (t223.length : Int)) = false := decide_eq_false c8
            clear c8
            simp only [Option.some.injEq, Prod.mk.injEq] at H
            obtain ⟨rfl, rfl⟩ := H
            go_wp2
            go_ret2
            exact ⟨_, by first | rfl | (simp [errW_none, errW_some] <;> rfl) | (simp [*, errW_none, errW_some] <;> rfl), by (with_reducible repeat (first | apply Kd.R_alloc | apply Kd.R_drewN | apply Kd.R_drew)); exact HO_4.out, by repeat (first | (with_reducible first | exact HB.out | apply below_alloc | apply pw_below_drewN | apply below_drew1) | exact HB.out)⟩
    · rw [if_neg c4] at H
      exact absurd H (by simp)
  · replace c3 := Bool.eq_false_iff.mpr c3
    subst c3
    have H1 : (some (([] : List ByteArray), false)) = some (r1, r2) := by rw [if_neg (show ¬ (false = true) by decide)] at H; exact H
    clear H
    have H := H1
    clear H1
    simp only [Option.some.injEq, Prod.mk.injEq] at H
    obtain ⟨rfl, rfl⟩ := H
    go_enter Tryd.func55, Tryd.ntmps55
    go_wp2_with (first | ((with_reducible refine gate_callee (f := 70) rfl ?_); refine goesL_ (some 8) rfl rfl Tryd.func70 (by kernel_rfl) rfl #[.string a0, .string (⟨#[47, 47]⟩ : ByteArray)] rfl (by (try simp only [List.map_toArray, List.map_cons, List.map_nil]); first | done | rfl | (simp only [List.length_drop, List.length_take]; rfl)) ?_; (with_reducible refine (strings_HasPrefix.calls a0 (⟨#[47, 47]⟩ : ByteArray) false _ A2.out).mono ?_); rintro e w' ⟨rfl, ⟨nd, rfl⟩⟩; refine ⟨_, rfl, ?_⟩))
    go_ret2
    exact ⟨_, by first | rfl | (simp [errW_none, errW_some] <;> rfl) | (simp [*, errW_none, errW_some] <;> rfl), by first | exact Kd.R_nil _ _ _ _ _ | exact Kd.N_nil _ _ _ _ _ | exact Kd.V_nil _ _ _ _ _ | exact Kd.Q_nil _ _ _ _ _ | exact Kd.S_nil _ _ _ _ _, by repeat (first | (with_reducible first | exact HB.out | apply below_alloc | apply pw_below_drewN | apply below_drew1) | exact HB.out)⟩

/-! ### stockyardref02_Path: function 43 -/
def stockyardref02_Path.f (k : Nat) (a0 : ByteArray) : Option (List ByteArray × Bool) := (stockyardref02_Parts.f k a0).bind fun bt228 => (if bt228.2 = true then (if (bt228.1.length : Int) < 2 then (some (([] : List ByteArray), false)) else (some (bt228.1, true))) else (some (([] : List ByteArray), false)))
theorem stockyardref02_Path.mono : ∀ a0 k, LeO (stockyardref02_Path.f k a0) (stockyardref02_Path.f (k + 1) a0) := by
  intro a0 k
  unfold stockyardref02_Path.f
  repeat' first
      | (with_reducible exact stockyardref02_Parts.mono _ _)
      | (with_reducible exact LeO.refl _)
      | (with_reducible exact LeO.none _)
      | (with_reducible refine LeO.ite ?_ ?_)
      | (with_reducible refine LeO.bind ?_ (fun _ => ?_))
      | exact stockyardref02_Parts.mono _ _
      | exact LeO.none _
      | refine LeO.ite ?_ ?_
      | refine LeO.bind ?_ (fun _ => ?_)
set_option maxHeartbeats 8000000 in
set_option maxRecDepth 100000 in
theorem stockyardref02_Path.calls (k : Nat) (a0 : ByteArray) (r1 : List ByteArray) (r2 : Bool) (w : World) (h : stockyardref02_Path.f k a0 = some (r1, r2)) :
    Calls Tryd.prog 43 #[.string a0] w fun e w' => ∃ v0_ : Value, e = .returned (.tuple #[v0_, .bool r2]) ∧ Kd.R Kd.string 9 w' w.heap.size (fun _ => True) v0_ r1 ∧ Below w.heap.size w w' := by
  have HB := Aside0.mk (Below.refl w.heap.size w)
  have H : ((stockyardref02_Parts.f k a0).bind fun bt228 => (if bt228.2 = true then (if (bt228.1.length : Int) < 2 then (some (([] : List ByteArray), false)) else (some (bt228.1, true))) else (some (([] : List ByteArray), false)))) = some (r1, r2) := h
  clear h
  replace H := Option.bind_eq_some_iff.mp H
  obtain ⟨⟨t228, t229⟩, A20, H⟩ := H
  replace H : (if t229 = true then (if (t228.length : Int) < 2 then (some (([] : List ByteArray), false)) else (some (t228, true))) else (some (([] : List ByteArray), false))) = some (r1, r2) := H
  have A2 := Aside0.mk A20
  clear A20
  by_cases c3 : t229 = true
  · subst c3
    have H1 : (if (t228.length : Int) < 2 then (some (([] : List ByteArray), false)) else (some (t228, true))) = some (r1, r2) := by rw [if_pos rfl] at H; exact H
    clear H
    have H := H1
    clear H1
    by_cases c4 : (t228.length : Int) < 2
    · rw [if_pos c4] at H
      have c4b0 : decide ((t228.length : Int) < 2) = true := decide_eq_true c4
      have c4b1 : decide (t228.length < 2) = true := decide_eq_true (by omega)
      clear c4
      simp only [Option.some.injEq, Prod.mk.injEq] at H
      obtain ⟨rfl, rfl⟩ := H
      go_enter Tryd.func43, Tryd.ntmps43
      go_wp2_with (first | ((with_reducible refine gate_callee (f := 55) rfl ?_); refine goesL_ (some 8) rfl rfl Tryd.func55 (by kernel_rfl) rfl #[.string a0] rfl (by (try simp only [List.map_toArray, List.map_cons, List.map_nil]); first | done | rfl | (simp only [List.length_drop, List.length_take]; rfl)) ?_; (with_reducible refine (stockyardref02_Parts.calls k a0 t228 true _ A2.out).mono ?_); rintro e w5 ⟨v230, rfl, ho0, hb⟩; refine ⟨_, rfl, ?_⟩; have n0_ := Aside0.mk (Kd.R_lower ho0 (below_size (by repeat (first | (with_reducible first | exact HB.out | apply below_alloc | apply pw_below_drewN | apply below_drew1) | exact HB.out)))); have n1_ := Aside0.mk (below_step (by repeat (first | (with_reducible first | exact HB.out | apply below_alloc | apply pw_below_drewN | apply below_drew1) | exact HB.out)) hb); clear HB; have HO231 := n0_; have HB := n1_; clear n0_ n1_; (try clear hb); (try clear hb2); (try clear hk); (try clear hi); (try clear ho0); obtain ⟨Ao6, co6, eo6⟩ := Kd.R_slice HO231.out; subst eo6))
      go_ret2
      exact ⟨_, by first | rfl | (simp [errW_none, errW_some] <;> rfl) | (simp [*, errW_none, errW_some] <;> rfl), by first | exact Kd.R_nil _ _ _ _ _ | exact Kd.N_nil _ _ _ _ _ | exact Kd.V_nil _ _ _ _ _ | exact Kd.Q_nil _ _ _ _ _ | exact Kd.S_nil _ _ _ _ _, by repeat (first | (with_reducible first | exact HB.out | apply below_alloc | apply pw_below_drewN | apply below_drew1) | exact HB.out)⟩
    · rw [if_neg c4] at H
      have c4b0 : decide ((t228.length : Int) < 2) = false := decide_eq_false c4
      have c4b1 : decide (t228.length < 2) = false := decide_eq_false (by omega)
      clear c4
      simp only [Option.some.injEq, Prod.mk.injEq] at H
      obtain ⟨rfl, rfl⟩ := H
      go_enter Tryd.func43, Tryd.ntmps43
      go_wp2_with (first | ((with_reducible refine gate_callee (f := 55) rfl ?_); refine goesL_ (some 8) rfl rfl Tryd.func55 (by kernel_rfl) rfl #[.string a0] rfl (by (try simp only [List.map_toArray, List.map_cons, List.map_nil]); first | done | rfl | (simp only [List.length_drop, List.length_take]; rfl)) ?_; (with_reducible refine (stockyardref02_Parts.calls k a0 t228 true _ A2.out).mono ?_); rintro e w7 ⟨v230, rfl, ho0, hb⟩; refine ⟨_, rfl, ?_⟩; have n0_ := Aside0.mk (Kd.R_lower ho0 (below_size (by repeat (first | (with_reducible first | exact HB.out | apply below_alloc | apply pw_below_drewN | apply below_drew1) | exact HB.out)))); have n1_ := Aside0.mk (below_step (by repeat (first | (with_reducible first | exact HB.out | apply below_alloc | apply pw_below_drewN | apply below_drew1) | exact HB.out)) hb); clear HB; have HO231 := n0_; have HB := n1_; clear n0_ n1_; (try clear hb); (try clear hb2); (try clear hk); (try clear hi); (try clear ho0); obtain ⟨Ao8, co8, eo8⟩ := Kd.R_slice HO231.out; subst eo8))
      go_ret2
      exact ⟨_, by first | rfl | (simp [errW_none, errW_some] <;> rfl) | (simp [*, errW_none, errW_some] <;> rfl), by (with_reducible repeat (first | apply Kd.R_alloc | apply Kd.R_drewN | apply Kd.R_drew)); exact HO231.out, by repeat (first | (with_reducible first | exact HB.out | apply below_alloc | apply pw_below_drewN | apply below_drew1) | exact HB.out)⟩
  · replace c3 := Bool.eq_false_iff.mpr c3
    subst c3
    have H1 : (some (([] : List ByteArray), false)) = some (r1, r2) := by rw [if_neg (show ¬ (false = true) by decide)] at H; exact H
    clear H
    have H := H1
    clear H1
    simp only [Option.some.injEq, Prod.mk.injEq] at H
    obtain ⟨rfl, rfl⟩ := H
    go_enter Tryd.func43, Tryd.ntmps43
    go_wp2_with (first | ((with_reducible refine gate_callee (f := 55) rfl ?_); refine goesL_ (some 8) rfl rfl Tryd.func55 (by kernel_rfl) rfl #[.string a0] rfl (by (try simp only [List.map_toArray, List.map_cons, List.map_nil]); first | done | rfl | (simp only [List.length_drop, List.length_take]; rfl)) ?_; (with_reducible refine (stockyardref02_Parts.calls k a0 t228 false _ A2.out).mono ?_); rintro e w9 ⟨v230, rfl, ho0, hb⟩; refine ⟨_, rfl, ?_⟩; have n0_ := Aside0.mk (Kd.R_lower ho0 (below_size (by repeat (first | (with_reducible first | exact HB.out | apply below_alloc | apply pw_below_drewN | apply below_drew1) | exact HB.out)))); have n1_ := Aside0.mk (below_step (by repeat (first | (with_reducible first | exact HB.out | apply below_alloc | apply pw_below_drewN | apply below_drew1) | exact HB.out)) hb); clear HB; have HO231 := n0_; have HB := n1_; clear n0_ n1_; (try clear hb); (try clear hb2); (try clear hk); (try clear hi); (try clear ho0)))
    go_ret2
    exact ⟨_, by first | rfl | (simp [errW_none, errW_some] <;> rfl) | (simp [*, errW_none, errW_some] <;> rfl), by first | exact Kd.R_nil _ _ _ _ _ | exact Kd.N_nil _ _ _ _ _ | exact Kd.V_nil _ _ _ _ _ | exact Kd.Q_nil _ _ _ _ _ | exact Kd.S_nil _ _ _ _ _, by repeat (first | (with_reducible first | exact HB.out | apply below_alloc | apply pw_below_drewN | apply below_drew1) | exact HB.out)⟩

/-! ### strings_Index: function 65: an external -/
def strings_Index.f (a0 : ByteArray) (a1 : ByteArray) : Option (Int) := if a1.size = 1 then some (Lib.indexByte a0.data.toList (bt a1 0).toNat.toUInt8) else none
theorem strings_Index.calls (a0 : ByteArray) (a1 : ByteArray) (r : Int) (w : World) (h : strings_Index.f a0 a1 = some r) :
    Calls Tryd.prog 65 #[.string a0, .string a1] w fun e w' => e = .returned (.int .i64 r) ∧ Drawn0 w w' := by
  have hs : a1.size = 1 := by
    unfold strings_Index.f at h
    split at h
    · assumption
    · cases h
  obtain ⟨c, rfl⟩ : ∃ c, a1 = ⟨#[c]⟩ := by
    obtain ⟨⟨l⟩⟩ := a1
    match l, hs with
    | [c], _ => exact ⟨c, rfl⟩
  unfold strings_Index.f at h
  rw [if_pos hs] at h
  obtain rfl := Option.some.inj h
  have hc : (bt (⟨#[c]⟩ : ByteArray) 0).toNat.toUInt8 = c := by
    show ((c.toNat : Int)).toNat.toUInt8 = c
    simp
  rw [hc]
  refine (Tryd.strings_Index_one a0 c w).mono ?_
  rintro e w' ⟨rfl, rfl⟩
  exact ⟨rfl, Drawn0.refl _⟩

/-! ### strings_Contains: function 56 -/
def strings_Contains.f (a0 : ByteArray) (a1 : ByteArray) : Option (Bool) := (strings_Index.f a0 a1).bind fun t232 => (some (decide (t232 ≥ 0)))
set_option maxHeartbeats 8000000 in
set_option maxRecDepth 100000 in
theorem strings_Contains.calls (a0 : ByteArray) (a1 : ByteArray) (r : Bool) (w : World) (h : strings_Contains.f a0 a1 = some r) :
    Calls Tryd.prog 56 #[.string a0, .string a1] w fun e w' => e = .returned (.bool r) ∧ Drawn0 w w' := by
  have H : ((strings_Index.f a0 a1).bind fun t232 => (some (decide (t232 ≥ 0)))) = some r := h
  clear h
  replace H := Option.bind_eq_some_iff.mp H
  obtain ⟨t232, A30, H⟩ := H
  replace H : (some (decide (t232 ≥ 0))) = some r := H
  have A3 := Aside0.mk A30
  clear A30
  obtain rfl := Option.some.inj H
  go_enter Tryd.func56, Tryd.ntmps56
  go_wp2_with (first | ((with_reducible refine gate_callee (f := 65) rfl ?_); refine goesL_ (some 7) rfl rfl Tryd.func65 (by kernel_rfl) rfl #[.string a0, .string a1] rfl (by (try simp only [List.map_toArray, List.map_cons, List.map_nil]); first | done | rfl | (simp only [List.length_drop, List.length_take]; rfl)) ?_; (with_reducible refine (strings_Index.calls a0 a1 t232 _ A3.out).mono ?_); rintro e w' ⟨rfl, ⟨nd, rfl⟩⟩; refine ⟨_, rfl, ?_⟩))
  go_ret
  exact ⟨by first | rfl | (simp; done) | (simp [*]; done), by repeat (first | exact Drawn0.refl _ | apply Drawn0.step)⟩

/-! ### stockyardref09_Target: function 44 -/
def stockyardref09_Target.f (a0 : ByteArray) : Option (Bool) := if a0.toList = ([] : List UInt8) then (some false) else (if (a0.size : Int) ≤ 200 then ((strings_Contains.f a0 (⟨#[0]⟩ : ByteArray)).bind fun t233 => (if t233 = true then (some false) else ((strings_Contains.f a0 (⟨#[10]⟩ : ByteArray)).bind fun t234 => (some (!t234))))) else (some false))
set_option maxHeartbeats 8000000 in
set_option maxRecDepth 100000 in
theorem stockyardref09_Target.calls (a0 : ByteArray) (r : Bool) (w : World) (h : stockyardref09_Target.f a0 = some r) :
    Calls Tryd.prog 44 #[.string a0] w fun e w' => e = .returned (.bool r) ∧ Drawn0 w w' := by
  have H : (if a0.toList = ([] : List UInt8) then (some false) else (if (a0.size : Int) ≤ 200 then ((strings_Contains.f a0 (⟨#[0]⟩ : ByteArray)).bind fun t233 => (if t233 = true then (some false) else ((strings_Contains.f a0 (⟨#[10]⟩ : ByteArray)).bind fun t234 => (some (!t234))))) else (some false))) = some r := h
  clear h
  by_cases c2 : a0.toList = ([] : List UInt8)
  · rw [if_pos c2] at H
    have c2b0 : (a0.toList == ([] : List UInt8)) = true := beq_iff_eq.mpr c2
    have c2b1 : (a0.toList != ([] : List UInt8)) = false := bne_eq_false_iff_eq.mpr c2
    clear c2
    obtain rfl := Option.some.inj H
    go_enter Tryd.func44, Tryd.ntmps44
    go_wp2
    go_ret
    exact ⟨by first | rfl | (simp; done) | (simp [*]; done), by repeat (first | exact Drawn0.refl _ | apply Drawn0.step)⟩
  · rw [if_neg c2] at H
    have c2b0 : (a0.toList == ([] : List UInt8)) = false := beq_eq_false_iff_ne.mpr c2
    have c2b1 : (a0.toList != ([] : List UInt8)) = true := bne_iff_ne.mpr c2
    by_cases c3 : (a0.size : Int) ≤ 200
    · rw [if_pos c3] at H
      have c3b0 : decide ((a0.size : Int) ≤ 200) = true := decide_eq_true c3
      have c3b1 : decide (a0.size ≤ 200) = true := decide_eq_true (by omega)
      clear c3
      replace H := Option.bind_eq_some_iff.mp H
      obtain ⟨t233, A40, H⟩ := H
      replace H : (if t233 = true then (some false) else ((strings_Contains.f a0 (⟨#[10]⟩ : ByteArray)).bind fun t234 => (some (!t234)))) = some r := H
      have A4 := Aside0.mk A40
      clear A40
      by_cases c5 : t233 = true
      · subst c5
        have H1 : (some false) = some r := by rw [if_pos rfl] at H; exact H
        clear H
        have H := H1
        clear H1
        obtain rfl := Option.some.inj H
        go_enter Tryd.func44, Tryd.ntmps44
        go_wp2_with (first | (go_at_call 56; (with_reducible refine (strings_Contains.calls a0 (⟨#[0]⟩ : ByteArray) true _ A4.out).mono ?_); rintro e w' ⟨rfl, ⟨nd, rfl⟩⟩))
        go_ret
        exact ⟨by first | rfl | (simp; done) | (simp [*]; done), by repeat (first | exact Drawn0.refl _ | apply Drawn0.step)⟩
      · replace c5 := Bool.eq_false_iff.mpr c5
        subst c5
        have H1 : ((strings_Contains.f a0 (⟨#[10]⟩ : ByteArray)).bind fun t234 => (some (!t234))) = some r := by rw [if_neg (show ¬ (false = true) by decide)] at H; exact H
        clear H
        have H := H1
        clear H1
        replace H := Option.bind_eq_some_iff.mp H
        obtain ⟨t234, A60, H⟩ := H
        replace H : (some (!t234)) = some r := H
        have A6 := Aside0.mk A60
        clear A60
        obtain rfl := Option.some.inj H
        go_enter Tryd.func44, Tryd.ntmps44
        go_wp2_with (first | (go_at_call 56; (with_reducible refine (strings_Contains.calls a0 (⟨#[0]⟩ : ByteArray) false _ A4.out).mono ?_); rintro e w' ⟨rfl, ⟨nd, rfl⟩⟩) | (go_at_call 56; (with_reducible refine (strings_Contains.calls a0 (⟨#[10]⟩ : ByteArray) t234 _ A6.out).mono ?_); rintro e w' ⟨rfl, ⟨nd, rfl⟩⟩))
        go_ret
        exact ⟨by first | rfl | (simp; done) | (simp [*]; done), by repeat (first | exact Drawn0.refl _ | apply Drawn0.step)⟩
    · rw [if_neg c3] at H
      have c3b0 : decide ((a0.size : Int) ≤ 200) = false := decide_eq_false c3
      have c3b1 : decide (a0.size ≤ 200) = false := decide_eq_false (by omega)
      clear c3
      obtain rfl := Option.some.inj H
      go_enter Tryd.func44, Tryd.ntmps44
      go_wp2
      go_ret
      exact ⟨by first | rfl | (simp; done) | (simp [*]; done), by repeat (first | exact Drawn0.refl _ | apply Drawn0.step)⟩

/-! ### stockyardref02_Join: function 46 -/
def stockyardref02_Join.f (l0 : List ByteArray) : Option (ByteArray) := (strings_Join.f l0 (⟨#[47]⟩ : ByteArray)).bind fun t235 => (if 2 + t235.size ≤ 9223372036854775807 then (some ((⟨#[47, 47]⟩ : ByteArray) ++ t235)) else (none))
set_option maxHeartbeats 8000000 in
set_option maxRecDepth 100000 in
theorem stockyardref02_Join.calls (A0 : Option Addr) (c0 : Nat) (l0 : List ByteArray) (r : ByteArray) (w : World) (hr0 : Kd.C Kd.string w A0 l0.length l0) (hc0 : l0.length ≤ c0) (h : stockyardref02_Join.f l0 = some r) :
    Calls Tryd.prog 46 #[.slice A0 l0.length c0] w fun e w' => e = .returned (.string r) ∧ Below w.heap.size w w' := by
  have HR0 := Aside0.mk hr0
  have HC0 := Aside0.mk hc0
  clear hr0 hc0
  have HB := Aside0.mk (Below.refl w.heap.size w)
  have H : ((strings_Join.f l0 (⟨#[47]⟩ : ByteArray)).bind fun t235 => (if 2 + t235.size ≤ 9223372036854775807 then (some ((⟨#[47, 47]⟩ : ByteArray) ++ t235)) else (none))) = some r := h
  clear h
  replace H := Option.bind_eq_some_iff.mp H
  obtain ⟨t235, A20, H⟩ := H
  replace H : (if 2 + t235.size ≤ 9223372036854775807 then (some ((⟨#[47, 47]⟩ : ByteArray) ++ t235)) else (none)) = some r := H
  have A2 := Aside0.mk A20
  clear A20
  by_cases c3 : 2 + t235.size ≤ 9223372036854775807
  · rw [if_pos c3] at H
    have c3b0 := eq_true c3
    have c3b1 : decide (2 + t235.size ≤ 9223372036854775807) = true := decide_eq_true c3
    try have c3b2 : (9223372036854775807 < 2 + t235.size) = False := eq_false (Nat.not_lt.2 c3)
    obtain rfl := Option.some.inj H
    go_enter Tryd.func46, Tryd.ntmps46
    go_wp2_with (first | ((with_reducible refine gate_callee (f := 53) rfl ?_); refine goesL_ (some 4) rfl rfl Tryd.func53 (by kernel_rfl) rfl #[.slice A0 l0.length c0, .string (⟨#[47]⟩ : ByteArray)] rfl (by (try simp only [List.map_toArray, List.map_cons, List.map_nil]); first | done | rfl | (simp only [List.length_drop, List.length_take]; rfl)) ?_; (with_reducible refine (strings_Join.calls _ _ l0 (⟨#[47]⟩ : ByteArray) t235 _ ?side1 ?side2 A2.out).mono ?_); (case side1 => repeat (first | exact HR0.out | (with_reducible refine Kd.C_alloc ?_ _) | (with_reducible refine Kd.C_drewN ?_ _) | (with_reducible refine Kd.C_drew ?_))); (case side2 => exact HC0.out); rintro e w4 ⟨rfl, hb⟩; refine ⟨_, rfl, ?_⟩; have n0_ := Aside0.mk (below_step (by repeat (first | (with_reducible first | exact HB.out | apply below_alloc | apply pw_below_drewN | apply below_drew1) | exact HB.out)) hb); clear HB; have HB := n0_; clear n0_; (try clear hb); (try clear hb2); (try clear hk); (try clear hi)))
    go_ret
    exact ⟨by first | rfl | (simp [errW_none, errW_some] <;> rfl) | (simp [*, errW_none, errW_some] <;> rfl), by repeat (first | (with_reducible first | exact HB.out | apply below_alloc | apply pw_below_drewN | apply below_drew1) | exact HB.out)⟩
  · rw [if_neg c3] at H
    exact absurd H (by simp)

theorem R_append_cut1 {P : Program} {ops : Array Oper} {rest : List Oper} {o : Oper} {a : Act} {Q : Exit → Act → World → Prop} {α : Type} (d : Kd α) {w0 W : World} (base : Nat) (hgd : o.guard = none) (s x : Operand) (t e : TypeId) (z : Value) (bytes : Nat)
    (ho : o.op = .call { callee := .builtin .append, args := #[s, x], argTypes := #[t, t] })
    (ht : P.underlying t = some (.slice e)) (hinfo : (P.info? e).map (fun i => (i.zero, i.size, i.bytes)) = some (some z, d.sz, bytes)) (hz : z.cells.size = d.sz) (hs0 : 0 < d.sz) (hb0 : 0 < bytes)
    (B : Option Addr) (r : Nat) (xs : List α) (p : α) (cs : List Value) (ok okp : Nat → Prop) (hs : a.eval s = .slice B xs.length xs.length) (hx : a.eval x = .slice (some ⟨W.heap.size, 0, none⟩) 1 1) (hp : d.M W base okp p cs) (hokp : ∀ k, okp k → ok k ∧ some k ≠ (Value.slice B xs.length r).ownBlock) (hfresh : ∀ k, W.heap.size ≤ k → ok k)
    (HO : d.R e W base ok (.slice B xs.length r) xs) (HB : Below base w0 W) (hbase : base ≤ W.heap.size) (hl : (xs.length + 1) * bytes ≤ 140737488355328)
    (h : ∀ v1 w1, d.R e w1 base ok v1 (xs ++ [p]) → Below base w0 w1 → (W.alloc (.cells cs.toArray e)).grownBy w1 (Value.slice B xs.length r).ownBlock → (v1.ownBlock = (Value.slice B xs.length r).ownBlock ∨ ∃ b, v1.ownBlock = some b ∧ (W.alloc (.cells cs.toArray e)).heap.size ≤ b) → wpList P ops Q rest (a.put o.dst v1) w1) :
    wpList P ops Q (o :: rest) a (W.alloc (.cells cs.toArray e)) := by
  have hb1 : Below W.heap.size W (W.alloc (.cells cs.toArray e)) := below_alloc (Below.refl _ _) _
  have hp1 : d.M (W.alloc (.cells cs.toArray e)) base okp p cs :=
    d.M_mono (fun k hk => hk.1) (d.M_move (w1 := W.alloc (.cells cs.toArray e)) (fun k hk => hb1.block k hk.2.2.1) (d.M_bound hp))
  have hlen : cs.length = d.sz := d.K_len (d.K_of_M hp)
  have hread : ReadsRow (d.M (W.alloc (.cells cs.toArray e)) base okp) d.sz (W.alloc (.cells cs.toArray e)) (some ⟨W.heap.size, 0, none⟩) 1 [p] := by
    refine ⟨rfl, by omega, fun _ => ⟨_, rfl, fun j q hj => ?_⟩⟩
    obtain ⟨hj1, hj2⟩ := List.getElem?_eq_some_iff.1 hj
    have hj0 : j = 0 := by simpa using hj1
    subst hj0
    have hq : q = p := by simpa using hj2.symm
    subst hq
    refine ⟨cs, hlen, hp1, fun i u hi => ?_⟩
    rw [Nat.zero_mul, Nat.zero_add, Go.Proofs.YtolmcdglemkchaaDoorW.PrintWords.add_plain, blk_cell (heap_alloc_new W (.cells cs.toArray e)) i]
    simpa using hi
  refine R_append_cut d base hgd s x t e z bytes ho ht hinfo hz hs0 hb0 B r xs [p] (some ⟨W.heap.size, 0, none⟩) 1 1 ok okp hs hx (Kd.R_alloc HO _) (fun h0 => absurd h0 (by decide)) hread (fun _ _ hq => hq) hokp (fun k hk => hfresh k (Nat.le_trans hb1.size hk)) (below_then HB hbase hb1) (Nat.le_trans hbase hb1.size) hl ?_
  exact h
/-! ### stockyardref09_Follow: function 24 -/
mutual
def stockyardref09_Follow.l0 : Nat → List ByteArray → List ByteArray → Int → Int → Option (ByteArray × Int)
  | 0, _, _, _, _ => none
  | k + 1, x6, x29, x30, x31 => if x31 < x30 then (if 0 ≤ x31 then (if x31 < (x29.length : Int) then (if (rdOf ByteArray.empty x29 x31).toList = ([] : List UInt8) then (stockyardref09_Follow.j1 k x6 (rdOf ByteArray.empty x29 x31) x29 x30 x31 true) else (stockyardref09_Follow.j1 k x6 (rdOf ByteArray.empty x29 x31) x29 x30 x31 ((rdOf ByteArray.empty x29 x31).toList == ([46] : List UInt8)))) else (none)) else (none)) else (if (x6.length : Int) < 2 then (some ((⟨#[]⟩ : ByteArray), 92)) else ((stockyardref02_Join.f x6).bind fun t247 => (some (t247, 0))))
def stockyardref09_Follow.j1 : Nat → List ByteArray → ByteArray → List ByteArray → Int → Int → Bool → Option (ByteArray × Int)
  | 0, _, _, _, _, _, _ => none
  | k + 1, x6, x9, x29, x30, x31, x35 => if x35 = true then (stockyardref09_Follow.l0 k x6 x29 x30 (wrap64 (x31 + 1))) else (if x9.toList = ([46, 46] : List UInt8) then (if (x6.length : Int) = 1 then (some ((⟨#[]⟩ : ByteArray), 92)) else (if 0 ≤ (wrap64 ((x6.length : Int) - 1)) then (if (wrap64 ((x6.length : Int) - 1)) ≤ (x6.length : Int) then (stockyardref09_Follow.l0 k (x6.take ((wrap64 ((x6.length : Int) - 1)) : Int).toNat) x29 x30 (wrap64 (x31 + 1))) else (none)) else (none))) else ((stockyardref02_Component.f k x9).bind fun t252 => (if t252 = true then (if 0 ≤ (x6.length : Int) then (if (x6.length : Int) ≤ (x6.length : Int) then ((some (x6.take ((x6.length : Int) : Int).toNat : List ByteArray)).bind fun y253 => (if y253.length < 8796093022208 then (stockyardref09_Follow.l0 k (y253 ++ [x9]) x29 x30 (wrap64 (x31 + 1))) else (none))) else (none)) else (none)) else (some ((⟨#[]⟩ : ByteArray), 92)))))
end
def stockyardref09_Follow.f (k : Nat) (a0 : ByteArray) (a1 : ByteArray) : Option (ByteArray × Int) := (stockyardref02_Path.f k a0).bind fun bt236 => (if bt236.2 = true then ((stockyardref09_Target.f a1).bind fun t240 => (if t240 = true then (if 0 < (a1.size : Int) then (if (bt a1 0) = 47 then (some ((⟨#[]⟩ : ByteArray), 92)) else (if 0 ≤ (wrap64 ((bt236.1.length : Int) - 1)) then (if (wrap64 ((bt236.1.length : Int) - 1)) ≤ (bt236.1.length : Int) then ((strings_Split.f a1 (⟨#[47]⟩ : ByteArray)).bind fun t244 => (stockyardref09_Follow.l0 k (bt236.1.take ((wrap64 ((bt236.1.length : Int) - 1)) : Int).toNat) t244 (t244.length : Int) 0)) else (none)) else (none))) else (none)) else (some ((⟨#[]⟩ : ByteArray), 91)))) else (some ((⟨#[]⟩ : ByteArray), 20)))
theorem stockyardref09_Follow.mono_l : ∀ k, (∀ y0 y1 y2 y3, LeO (stockyardref09_Follow.l0 k y0 y1 y2 y3) (stockyardref09_Follow.l0 (k + 1) y0 y1 y2 y3)) ∧ (∀ y0 y1 y2 y3 y4 y5, LeO (stockyardref09_Follow.j1 k y0 y1 y2 y3 y4 y5) (stockyardref09_Follow.j1 (k + 1) y0 y1 y2 y3 y4 y5))
  | 0 => ⟨fun _ _ _ _ r h => by simp [stockyardref09_Follow.l0] at h, fun _ _ _ _ _ _ r h => by simp [stockyardref09_Follow.j1] at h⟩
  | k + 1 => by
    obtain ⟨ih0, ih1⟩ := stockyardref09_Follow.mono_l k
    refine ⟨?_, ?_⟩
    · intro y0 y1 y2 y3
      unfold stockyardref09_Follow.l0
      repeat' first
      | (with_reducible exact ih0 _ _ _ _)
      | (with_reducible exact ih1 _ _ _ _ _ _)
      | (with_reducible exact stockyardref02_Component.mono _ _)
      | (with_reducible exact stockyardref02_Path.mono _ _)
      | (with_reducible exact LeO.refl _)
      | (with_reducible exact LeO.none _)
      | (with_reducible refine LeO.ite ?_ ?_)
      | (with_reducible refine LeO.bind ?_ (fun _ => ?_))
      | exact ih0 _ _ _ _
      | exact ih1 _ _ _ _ _ _
      | exact stockyardref02_Component.mono _ _
      | exact stockyardref02_Path.mono _ _
      | exact LeO.none _
      | refine LeO.ite ?_ ?_
      | refine LeO.bind ?_ (fun _ => ?_)
    · intro y0 y1 y2 y3 y4 y5
      unfold stockyardref09_Follow.j1
      repeat' first
      | (with_reducible exact ih0 _ _ _ _)
      | (with_reducible exact ih1 _ _ _ _ _ _)
      | (with_reducible exact stockyardref02_Component.mono _ _)
      | (with_reducible exact stockyardref02_Path.mono _ _)
      | (with_reducible exact LeO.refl _)
      | (with_reducible exact LeO.none _)
      | (with_reducible refine LeO.ite ?_ ?_)
      | (with_reducible refine LeO.bind ?_ (fun _ => ?_))
      | exact ih0 _ _ _ _
      | exact ih1 _ _ _ _ _ _
      | exact stockyardref02_Component.mono _ _
      | exact stockyardref02_Path.mono _ _
      | exact LeO.none _
      | refine LeO.ite ?_ ?_
      | refine LeO.bind ?_ (fun _ => ?_)
theorem stockyardref09_Follow.mono : ∀ a0 a1 k, LeO (stockyardref09_Follow.f k a0 a1) (stockyardref09_Follow.f (k + 1) a0 a1) := by
  intro a0 a1 k
  obtain ⟨ih0, ih1⟩ := stockyardref09_Follow.mono_l k
  unfold stockyardref09_Follow.f
  repeat' first
      | (with_reducible exact ih0 _ _ _ _)
      | (with_reducible exact ih1 _ _ _ _ _ _)
      | (with_reducible exact stockyardref02_Component.mono _ _)
      | (with_reducible exact stockyardref02_Path.mono _ _)
      | (with_reducible exact LeO.refl _)
      | (with_reducible exact LeO.none _)
      | (with_reducible refine LeO.ite ?_ ?_)
      | (with_reducible refine LeO.bind ?_ (fun _ => ?_))
      | exact ih0 _ _ _ _
      | exact ih1 _ _ _ _ _ _
      | exact stockyardref02_Component.mono _ _
      | exact stockyardref02_Path.mono _ _
      | exact LeO.none _
      | refine LeO.ite ?_ ?_
      | refine LeO.bind ?_ (fun _ => ?_)
set_option maxHeartbeats 8000000 in
set_option maxRecDepth 100000 in
theorem stockyardref09_Follow.calls (k : Nat) (a0 : ByteArray) (a1 : ByteArray) (r1 : ByteArray) (r2 : Int) (w : World) (h : stockyardref09_Follow.f k a0 a1 = some (r1, r2)) :
    Calls Tryd.prog 24 #[.string a0, .string a1] w fun e w' => e = .returned (.tuple #[.string r1, .int .i64 r2]) ∧ Below w.heap.size w w' := by
  have HB := Aside0.mk (Below.refl w.heap.size w)
  have H : ((stockyardref02_Path.f k a0).bind fun bt236 => (if bt236.2 = true then ((stockyardref09_Target.f a1).bind fun t240 => (if t240 = true then (if 0 < (a1.size : Int) then (if (bt a1 0) = 47 then (some ((⟨#[]⟩ : ByteArray), 92)) else (if 0 ≤ (wrap64 ((bt236.1.length : Int) - 1)) then (if (wrap64 ((bt236.1.length : Int) - 1)) ≤ (bt236.1.length : Int) then ((strings_Split.f a1 (⟨#[47]⟩ : ByteArray)).bind fun t244 => (stockyardref09_Follow.l0 k (bt236.1.take ((wrap64 ((bt236.1.length : Int) - 1)) : Int).toNat) t244 (t244.length : Int) 0)) else (none)) else (none))) else (none)) else (some ((⟨#[]⟩ : ByteArray), 91)))) else (some ((⟨#[]⟩ : ByteArray), 20)))) = some (r1, r2) := h
  clear h
  replace H := Option.bind_eq_some_iff.mp H
  obtain ⟨⟨t236, t237⟩, A30, H⟩ := H
  replace H : (if t237 = true then ((stockyardref09_Target.f a1).bind fun t240 => (if t240 = true then (if 0 < (a1.size : Int) then (if (bt a1 0) = 47 then (some ((⟨#[]⟩ : ByteArray), 92)) else (if 0 ≤ (wrap64 ((t236.length : Int) - 1)) then (if (wrap64 ((t236.length : Int) - 1)) ≤ (t236.length : Int) then ((strings_Split.f a1 (⟨#[47]⟩ : ByteArray)).bind fun t244 => (stockyardref09_Follow.l0 k (t236.take ((wrap64 ((t236.length : Int) - 1)) : Int).toNat) t244 (t244.length : Int) 0)) else (none)) else (none))) else (none)) else (some ((⟨#[]⟩ : ByteArray), 91)))) else (some ((⟨#[]⟩ : ByteArray), 20))) = some (r1, r2) := H
  have A3 := Aside0.mk A30
  clear A30
  by_cases c4 : t237 = true
  · subst c4
    have H1 : ((stockyardref09_Target.f a1).bind fun t240 => (if t240 = true then (if 0 < (a1.size : Int) then (if (bt a1 0) = 47 then (some ((⟨#[]⟩ : ByteArray), 92)) else (if 0 ≤ (wrap64 ((t236.length : Int) - 1)) then (if (wrap64 ((t236.length : Int) - 1)) ≤ (t236.length : Int) then ((strings_Split.f a1 (⟨#[47]⟩ : ByteArray)).bind fun t244 => (stockyardref09_Follow.l0 k (t236.take ((wrap64 ((t236.length : Int) - 1)) : Int).toNat) t244 (t244.length : Int) 0)) else (none)) else (none))) else (none)) else (some ((⟨#[]⟩ : ByteArray), 91)))) = some (r1, r2) := by rw [if_pos rfl] at H; exact H
    clear H
    have H := H1
    clear H1
    replace H := Option.bind_eq_some_iff.mp H
    obtain ⟨t240, A50, H⟩ := H
    replace H : (if t240 = true then (if 0 < (a1.size : Int) then (if (bt a1 0) = 47 then (some ((⟨#[]⟩ : ByteArray), 92)) else (if 0 ≤ (wrap64 ((t236.length : Int) - 1)) then (if (wrap64 ((t236.length : Int) - 1)) ≤ (t236.length : Int) then ((strings_Split.f a1 (⟨#[47]⟩ : ByteArray)).bind fun t244 => (stockyardref09_Follow.l0 k (t236.take ((wrap64 ((t236.length : Int) - 1)) : Int).toNat) t244 (t244.length : Int) 0)) else (none)) else (none))) else (none)) else (some ((⟨#[]⟩ : ByteArray), 91))) = some (r1, r2) := H
    have A5 := Aside0.mk A50
    clear A50
    by_cases c6 : t240 = true
    · subst c6
      have H1 : (if 0 < (a1.size : Int) then (if (bt a1 0) = 47 then (some ((⟨#[]⟩ : ByteArray), 92)) else (if 0 ≤ (wrap64 ((t236.length : Int) - 1)) then (if (wrap64 ((t236.length : Int) - 1)) ≤ (t236.length : Int) then ((strings_Split.f a1 (⟨#[47]⟩ : ByteArray)).bind fun t244 => (stockyardref09_Follow.l0 k (t236.take ((wrap64 ((t236.length : Int) - 1)) : Int).toNat) t244 (t244.length : Int) 0)) else (none)) else (none))) else (none)) = some (r1, r2) := by rw [if_pos rfl] at H; exact H
      clear H
      have H := H1
      clear H1
      by_cases c7 : 0 < (a1.size : Int)
      · rw [if_pos c7] at H
        have c7b0 : decide (0 < (a1.size : Int)) = true := decide_eq_true c7
        have c7b1 : decide (0 < a1.size) = true := decide_eq_true (by omega)
        clear c7
        by_cases c9 : (bt a1 0) = 47
        · rw [if_pos c9] at H
          have c9b0 : ((bt a1 0) == 47) = true := beq_iff_eq.mpr c9
          have c9b1 : ((bt a1 0) != 47) = false := bne_eq_false_iff_eq.mpr c9
          clear c9
          simp only [Option.some.injEq, Prod.mk.injEq] at H
          obtain ⟨rfl, rfl⟩ := H
          go_enter Tryd.func24, Tryd.ntmps24
          go_wp2_with (first | ((with_reducible refine gate_callee (f := 43) rfl ?_); refine goesL_ (some 12) rfl rfl Tryd.func43 (by kernel_rfl) rfl #[.string a0] rfl (by (try simp only [List.map_toArray, List.map_cons, List.map_nil]); first | done | rfl | (simp only [List.length_drop, List.length_take]; rfl)) ?_; (with_reducible refine (stockyardref02_Path.calls k a0 t236 true _ A3.out).mono ?_); rintro e w10 ⟨v238, rfl, ho0, hb⟩; refine ⟨_, rfl, ?_⟩; have n0_ := Aside0.mk (Kd.R_lower ho0 (below_size (by repeat (first | (with_reducible first | exact HB.out | apply below_alloc | apply pw_below_drewN | apply below_drew1) | exact HB.out)))); have n1_ := Aside0.mk (below_step (by repeat (first | (with_reducible first | exact HB.out | apply below_alloc | apply pw_below_drewN | apply below_drew1) | exact HB.out)) hb); clear HB; have HO239 := n0_; have HB := n1_; clear n0_ n1_; (try clear hb); (try clear hb2); (try clear hk); (try clear hi); (try clear ho0)) | ((with_reducible refine gate_callee (f := 44) rfl ?_); refine goesL_ (some 18) rfl rfl Tryd.func44 (by kernel_rfl) rfl #[.string a1] rfl (by (try simp only [List.map_toArray, List.map_cons, List.map_nil]); first | done | rfl | (simp only [List.length_drop, List.length_take]; rfl)) ?_; (with_reducible refine (stockyardref09_Target.calls a1 true _ A5.out).mono ?_); rintro e w' ⟨rfl, ⟨nd, rfl⟩⟩; refine ⟨_, rfl, ?_⟩; have p8 : 0 ≤ (0 : Int) := (by omega); have q8 : 0 < a1.size := (by have : (0 : Int) < (a1.size : Int) := of_decide_eq_true (by first | (with_reducible assumption) | assumption); omega); have hx8 : ∀ h : 0 < a1.size, ((a1[0]'h).toNat : Int) = bt a1 0 := bt_at a1 0; clear p8; have qi8 : (0 < (a1.size : Int)) = True := eq_true (of_decide_eq_true (by first | (with_reducible assumption) | assumption)); replace q8 := eq_true q8))
          go_ret2
          exact ⟨by first | rfl | (simp [errW_none, errW_some] <;> rfl) | (simp [*, errW_none, errW_some] <;> rfl), by repeat (first | (with_reducible first | exact HB.out | apply below_alloc | apply pw_below_drewN | apply below_drew1) | exact HB.out)⟩
        · rw [if_neg c9] at H
          have c9b0 : ((bt a1 0) == 47) = false := beq_eq_false_iff_ne.mpr c9
          have c9b1 : ((bt a1 0) != 47) = true := bne_iff_ne.mpr c9
          obtain ⟨ji11, hji11⟩ : ∃ j_ : Int, (wrap64 ((t236.length : Int) - 1)) = j_ := ⟨_, rfl⟩
          replace H : (if 0 ≤ (ji11) then (if (ji11) ≤ (t236.length : Int) then ((strings_Split.f a1 (⟨#[47]⟩ : ByteArray)).bind fun t244 => (stockyardref09_Follow.l0 k (t236.take ((ji11) : Int).toNat) t244 (t244.length : Int) 0)) else (none)) else (none)) = some (r1, r2) := by first | (rw [hji11] at H; exact H) | (simp only [hji11] at H ⊢; exact H)
          (try rw [hji11] at A3)
          (try rw [hji11] at A5)
          have hji11w : (IntKind.i64.wrap ((t236.length : Int) - 1)) = ji11 := (i64_w _).trans hji11
          by_cases c12 : 0 ≤ (ji11)
          · rw [if_pos c12] at H
            have c12b0 := eq_true c12
            have c12b1 : decide (0 ≤ (ji11)) = true := decide_eq_true c12
            clear c12
            by_cases c13 : (ji11) ≤ (t236.length : Int)
            · rw [if_pos c13] at H
              have c13b0 := eq_true c13
              have c13b1 : decide ((ji11) ≤ (t236.length : Int)) = true := decide_eq_true c13
              clear c13
              obtain ⟨y241, hy241⟩ : ∃ y_ : List ByteArray, y_ = (t236.take ((ji11) : Int).toNat) := ⟨_, rfl⟩
              replace H : ((strings_Split.f a1 (⟨#[47]⟩ : ByteArray)).bind fun t244 => (stockyardref09_Follow.l0 k y241 t244 (t244.length : Int) 0)) = some (r1, r2) := by first | (rw [hy241]; with_reducible exact H) | (have H2_ := (Option.bind_some _ _).symm.trans H; rw [hy241]; with_reducible exact H2_) | (have H2_ := (Option.bind_some _ _).symm.trans H; with_reducible exact H2_) | with_reducible exact H | (rw [hy241]; exact H) | exact H
              have Ny241 := Aside0.mk hy241
              clear hy241
              replace H := Option.bind_eq_some_iff.mp H
              obtain ⟨t244, A140, H⟩ := H
              replace H : (stockyardref09_Follow.l0 k y241 t244 (t244.length : Int) 0) = some (r1, r2) := H
              have A14 := Aside0.mk A140
              clear A140
              have H' := Aside0.mk H
              clear H
              go_enter Tryd.func24, Tryd.ntmps24
              go_wp2_with (first | ((with_reducible refine gate_callee (f := 43) rfl ?_); refine goesL_ (some 12) rfl rfl Tryd.func43 (by kernel_rfl) rfl #[.string a0] rfl (by (try simp only [List.map_toArray, List.map_cons, List.map_nil]); first | done | rfl | (simp only [List.length_drop, List.length_take]; rfl)) ?_; (with_reducible refine (stockyardref02_Path.calls k a0 t236 true _ A3.out).mono ?_); rintro e w15 ⟨v238, rfl, ho0, hb⟩; refine ⟨_, rfl, ?_⟩; have n0_ := Aside0.mk (Kd.R_lower ho0 (below_size (by repeat (first | (with_reducible first | exact HB.out | apply below_alloc | apply pw_below_drewN | apply below_drew1) | exact HB.out)))); have n1_ := Aside0.mk (below_step (by repeat (first | (with_reducible first | exact HB.out | apply below_alloc | apply pw_below_drewN | apply below_drew1) | exact HB.out)) hb); clear HB; have HO239 := n0_; have HB := n1_; clear n0_ n1_; (try clear hb); (try clear hb2); (try clear hk); (try clear hi); (try clear ho0)) | ((with_reducible refine gate_callee (f := 44) rfl ?_); refine goesL_ (some 18) rfl rfl Tryd.func44 (by kernel_rfl) rfl #[.string a1] rfl (by (try simp only [List.map_toArray, List.map_cons, List.map_nil]); first | done | rfl | (simp only [List.length_drop, List.length_take]; rfl)) ?_; (with_reducible refine (stockyardref09_Target.calls a1 true _ A5.out).mono ?_); rintro e w' ⟨rfl, ⟨nd, rfl⟩⟩; refine ⟨_, rfl, ?_⟩; have p8 : 0 ≤ (0 : Int) := (by omega); have q8 : 0 < a1.size := (by have : (0 : Int) < (a1.size : Int) := of_decide_eq_true (by first | (with_reducible assumption) | assumption); omega); have hx8 : ∀ h : 0 < a1.size, ((a1[0]'h).toNat : Int) = bt a1 0 := bt_at a1 0; clear p8; have qi8 : (0 < (a1.size : Int)) = True := eq_true (of_decide_eq_true (by first | (with_reducible assumption) | assumption)); replace q8 := eq_true q8; obtain ⟨Ao16, co16, eo16⟩ := Kd.R_slice HO239.out; subst eo16; have q17 : ((ji11) : Int) ≤ ((t236.length : Int) : Int) := of_decide_eq_true (by first | (with_reducible assumption) | assumption); obtain ⟨i017, hi017, _, hsz17, _⟩ := info_parts info9; have hcut17 := cut_to (P := Tryd.prog) 38 9 .i64 Tryd.underlying38 hi017 Ao16 t236.length co16 (ji11) (of_decide_eq_true (by first | (with_reducible assumption) | assumption)) q17 (Kd.R_reads' HO239.out).2.1; have hr17 := Kd.R_take (m := ((ji11) : Int).toNat) HO239.out (by omega); have hy17 : y241.length = ((ji11) : Int).toNat := (by rw [Ny241.out, List.length_take]; omega); rw [← Ny241.out] at hr17; rw [← hy17] at hr17 hcut17; clear hy17 hi017 hsz17 HO239; have HO243 := Aside0.mk hr17; clear hr17; replace q17 := eq_true q17) | ((with_reducible refine gate_callee (f := 39) rfl ?_); refine goesL_ (some 29) rfl rfl Tryd.func39 (by kernel_rfl) rfl #[.string a1, .string (⟨#[47]⟩ : ByteArray)] rfl (by (try simp only [List.map_toArray, List.map_cons, List.map_nil]); first | done | rfl | (simp only [List.length_drop, List.length_take]; rfl)) ?_; (with_reducible refine (strings_Split.calls a1 (⟨#[47]⟩ : ByteArray) t244 _ A14.out).mono ?_); rintro e w18 ⟨v245, rfl, ho0, hb⟩; refine ⟨_, rfl, ?_⟩; have n0_ := Aside0.mk (Kd.R_elder' (by (with_reducible repeat (first | apply Kd.R_alloc | apply Kd.R_drewN | apply Kd.R_drew)); exact HO243.out) (Kd.R_base ho0) hb); have n1_ := Aside0.mk (Kd.R_lower (Kd.R_new' ho0 (Kd.R_lt (by (with_reducible repeat (first | apply Kd.R_alloc | apply Kd.R_drewN | apply Kd.R_drew)); exact HO243.out))) (below_size (by repeat (first | (with_reducible first | exact HB.out | apply below_alloc | apply pw_below_drewN | apply below_drew1) | exact HB.out)))); have n2_ := Aside0.mk (below_step (by repeat (first | (with_reducible first | exact HB.out | apply below_alloc | apply pw_below_drewN | apply below_drew1) | exact HB.out)) hb); clear HO243; clear HB; have HO243 := n0_; have HO246 := n1_; have HB := n2_; clear n0_ n1_ n2_; (try clear hb); (try clear hb2); (try clear hk); (try clear hi); (try clear ho0); obtain ⟨Ao19, co19, eo19⟩ := Kd.R_slice HO246.out; subst eo19))
              go_loopg [6, 31] k (fun kq v6 v31 w' => ∃ (x6_1 : List ByteArray) (x31_1 : Int), v31 = .int .i64 x31_1 ∧ Aside0 (stockyardref09_Follow.l0 kq x6_1 t244 (t244.length : Int) x31_1 = some (r1, r2)) ∧ Aside0 (kq ≤ k) ∧ Aside0 (Kd.R Kd.string 9 w' w.heap.size (fun k_ => some k_ ≠ ((.slice Ao19 t244.length co19) : Value).ownBlock) v6 x6_1) ∧ Aside0 (Kd.R Kd.string 9 w' w.heap.size (fun k_ => some k_ ≠ (v6 : Value).ownBlock) (.slice Ao19 t244.length co19) t244) ∧ Aside0 (Below w.heap.size w w'))
              case atStart => exact ⟨(y241), (0), (by first | rfl | (simp; done) | (simp [*]; done)), H', ⟨Nat.le_refl _⟩, ⟨by (with_reducible repeat (first | apply Kd.R_alloc | apply Kd.R_drewN | apply Kd.R_drew)); exact Kd.R_mono HO243.out (fun _ hk => hk.2)⟩, ⟨by (with_reducible repeat (first | apply Kd.R_alloc | apply Kd.R_drewN | apply Kd.R_drew)); exact Kd.R_mono HO246.out (fun _ hk => hk.2)⟩, ⟨by repeat (first | (with_reducible first | exact HB.out | apply below_alloc | apply pw_below_drewN | apply below_drew1) | exact HB.out)⟩⟩
              case round =>
                clear H'
                try clear c1
                try clear q1
                try clear c2
                try clear p2
                try clear c3
                try clear c4
                try clear c6
                try clear p6
                try clear c7
                try clear c7b0
                try clear c7b1
                try clear p8
                try clear q8
                try clear hx8
                try clear qi8
                try clear c9
                try clear c9b0
                try clear c9b1
                try clear c12
                try clear c12b0
                try clear c12b1
                try clear c13
                try clear c13b0
                try clear c13b1
                try clear q17
                try clear p8
                try clear q17
                try clear q8
                obtain ⟨x6_1, x31_1, rfl, HA, HK1, HO_6, HO_29, HB⟩ := hrel
                cases gk with
                | zero => exact absurd HA.out (by simp [stockyardref09_Follow.l0])
                | succ k1 =>
                  have H := HA.out
                  clear HA
                  simp only [stockyardref09_Follow.l0] at H
                  by_cases c20 : x31_1 < (t244.length : Int)
                  · rw [if_pos c20] at H
                    have c20b0 : decide (x31_1 < (t244.length : Int)) = true := decide_eq_true c20
                    clear c20
                    by_cases c21 : 0 ≤ x31_1
                    · rw [if_pos c21] at H
                      have c21b0 : decide (0 ≤ x31_1) = true := decide_eq_true c21
                      clear c21
                      by_cases c22 : x31_1 < (t244.length : Int)
                      · rw [if_pos c22] at H
                        have c22b0 : decide (x31_1 < (t244.length : Int)) = true := decide_eq_true c22
                        clear c22
                        have HC23 := Aside0.mk H
                        clear H
                        have p248 : 0 ≤ (x31_1 : Int) := of_decide_eq_true (by first | (with_reducible assumption) | assumption)
                        have q248 : x31_1 < (t244.length : Int) := of_decide_eq_true (by first | (with_reducible assumption) | assumption)
                        obtain ⟨ad248, e248, hx248_0⟩ := Kd.at_string (Kd.R_reads' HO_29.out).2.2 x31_1 p248 q248
                        cases e248
                        replace p248 := eq_true p248
                        replace q248 := eq_true q248
                        go_upto_region 13 with (fail)
                        go_cut [35] (fun v35 wc => ∃ (kq : Nat) (x35_22 : Bool), v35 = .bool x35_22 ∧ Aside0 (stockyardref09_Follow.j1 kq x6_1 (rdOf ByteArray.empty t244 x31_1) t244 (t244.length : Int) x31_1 x35_22 = some (r1, r2)) ∧ Aside0 (kq ≤ k1) ∧ Aside0 (Kd.R Kd.string 9 wc w.heap.size (fun k_ => some k_ ≠ ((.slice (some ad248) t244.length co19) : Value).ownBlock) u6 x6_1) ∧ Aside0 (Kd.R Kd.string 9 wc w.heap.size (fun k_ => some k_ ≠ (u6 : Value).ownBlock) (.slice (some ad248) t244.length co19) t244) ∧ Aside0 (Below w.heap.size w wc))
                        case first =>
                          have H := HC23.out
                          clear HC23
                          by_cases c24 : (rdOf ByteArray.empty t244 x31_1).toList = ([] : List UInt8)
                          · rw [if_pos c24] at H
                            have c24b0 : ((rdOf ByteArray.empty t244 x31_1).toList == ([] : List UInt8)) = true := beq_iff_eq.mpr c24
                            have c24b1 : ((rdOf ByteArray.empty t244 x31_1).toList != ([] : List UInt8)) = false := bne_eq_false_iff_eq.mpr c24
                            clear c24
                            (first | rw [c24b0] | (simp only [i64_w, i32_w]; rw [c24b0]) | skip)
                            have H' := Aside0.mk H
                            clear H
                            go_wp2
                            go_meet
                            case rel => exact ⟨_, (true), (by first | rfl | (simp; done) | (simp [*]; done)), H', ⟨by have := HK1.out; first | omega | exact Nat.le_refl _⟩, ⟨by (with_reducible repeat (first | apply Kd.R_alloc | apply Kd.R_drewN | apply Kd.R_drew)); exact HO_6.out⟩, ⟨by (with_reducible repeat (first | apply Kd.R_alloc | apply Kd.R_drewN | apply Kd.R_drew)); exact HO_29.out⟩, ⟨by repeat (first | (with_reducible first | exact HB.out | apply below_alloc | apply pw_below_drewN | apply below_drew1) | exact HB.out)⟩⟩
                          · rw [if_neg c24] at H
                            have c24b0 : ((rdOf ByteArray.empty t244 x31_1).toList == ([] : List UInt8)) = false := beq_eq_false_iff_ne.mpr c24
                            have c24b1 : ((rdOf ByteArray.empty t244 x31_1).toList != ([] : List UInt8)) = true := bne_iff_ne.mpr c24
                            (first | rw [c24b0] | (simp only [i64_w, i32_w]; rw [c24b0]) | skip)
                            have H' := Aside0.mk H
                            clear H
                            go_wp2
                            go_meet
                            case rel => exact ⟨_, (((rdOf ByteArray.empty t244 x31_1).toList == ([46] : List UInt8))), (by first | rfl | (simp; done) | (simp [*]; done)), H', ⟨by have := HK1.out; first | omega | exact Nat.le_refl _⟩, ⟨by (with_reducible repeat (first | apply Kd.R_alloc | apply Kd.R_drewN | apply Kd.R_drew)); exact HO_6.out⟩, ⟨by (with_reducible repeat (first | apply Kd.R_alloc | apply Kd.R_drewN | apply Kd.R_drew)); exact HO_29.out⟩, ⟨by repeat (first | (with_reducible first | exact HB.out | apply below_alloc | apply pw_below_drewN | apply below_drew1) | exact HB.out)⟩⟩
                        case rest =>
                          clear HC23
                          try clear c1
                          try clear q1
                          try clear c2
                          try clear p2
                          try clear q2
                          try clear hx2
                          try clear c3
                          try clear c4
                          try clear c6
                          try clear p6
                          try clear c7
                          try clear c7b0
                          try clear c7b1
                          try clear p8
                          try clear q8
                          try clear hx8
                          try clear qi8
                          try clear c9
                          try clear c9b0
                          try clear c9b1
                          try clear c12
                          try clear c12b0
                          try clear c12b1
                          try clear c13
                          try clear c13b0
                          try clear c13b1
                          try clear q17
                          try clear c20
                          try clear c20b0
                          try clear c21
                          try clear c21b0
                          try clear c22
                          try clear c22b0
                          try clear c24
                          try clear c24b0
                          try clear c24b1
                          try clear p24
                          try clear q24
                          try clear hx24
                          try clear hx248_0
                          try clear p2
                          try clear p248
                          try clear p6
                          try clear p8
                          try clear q1
                          try clear q17
                          try clear q248
                          try clear q8
                          obtain ⟨kq, x35_22, rfl, HA, HJ22, HO_6, HO_29, HB⟩ := hcut
                          cases kq with
                          | zero => exact absurd HA.out (by simp [stockyardref09_Follow.j1])
                          | succ kj22 =>
                            have H := HA.out
                            clear HA
                            simp only [stockyardref09_Follow.j1] at H
                            by_cases c25 : x35_22 = true
                            · subst c25
                              have H1 : (stockyardref09_Follow.l0 kj22 x6_1 t244 (t244.length : Int) (wrap64 (x31_1 + 1))) = some (r1, r2) := by rw [if_pos rfl] at H; exact H
                              clear H
                              have H := H1
                              clear H1
                              have H' := Aside0.mk H
                              clear H
                              go_wp2
                              go_roundg kj22
                              case measure => have := HK1.out; have := HJ22.out; omega
                              case rel => exact ⟨(x6_1), (wrap64 (x31_1 + 1)), (by first | rfl | (simp; done) | (simp [*]; done)), H', ⟨by have := HK1.out; have := HJ22.out; omega⟩, ⟨by (with_reducible repeat (first | apply Kd.R_alloc | apply Kd.R_drewN | apply Kd.R_drew)); exact HO_6.out⟩, ⟨by (with_reducible repeat (first | apply Kd.R_alloc | apply Kd.R_drewN | apply Kd.R_drew)); exact HO_29.out⟩, ⟨by repeat (first | (with_reducible first | exact HB.out | apply below_alloc | apply pw_below_drewN | apply below_drew1) | exact HB.out)⟩⟩
                            · replace c25 := Bool.eq_false_iff.mpr c25
                              subst c25
                              have H1 : (if (rdOf ByteArray.empty t244 x31_1).toList = ([46, 46] : List UInt8) then (if (x6_1.length : Int) = 1 then (some ((⟨#[]⟩ : ByteArray), 92)) else (if 0 ≤ (wrap64 ((x6_1.length : Int) - 1)) then (if (wrap64 ((x6_1.length : Int) - 1)) ≤ (x6_1.length : Int) then (stockyardref09_Follow.l0 kj22 (x6_1.take ((wrap64 ((x6_1.length : Int) - 1)) : Int).toNat) t244 (t244.length : Int) (wrap64 (x31_1 + 1))) else (none)) else (none))) else ((stockyardref02_Component.f kj22 (rdOf ByteArray.empty t244 x31_1)).bind fun t252 => (if t252 = true then (if 0 ≤ (x6_1.length : Int) then (if (x6_1.length : Int) ≤ (x6_1.length : Int) then ((some (x6_1.take ((x6_1.length : Int) : Int).toNat : List ByteArray)).bind fun y253 => (if y253.length < 8796093022208 then (stockyardref09_Follow.l0 kj22 (y253 ++ [(rdOf ByteArray.empty t244 x31_1)]) t244 (t244.length : Int) (wrap64 (x31_1 + 1))) else (none))) else (none)) else (none)) else (some ((⟨#[]⟩ : ByteArray), 92))))) = some (r1, r2) := by rw [if_neg (show ¬ (false = true) by decide)] at H; exact H
                              clear H
                              have H := H1
                              clear H1
                              by_cases c26 : (rdOf ByteArray.empty t244 x31_1).toList = ([46, 46] : List UInt8)
                              · rw [if_pos c26] at H
                                have c26b0 : ((rdOf ByteArray.empty t244 x31_1).toList == ([46, 46] : List UInt8)) = true := beq_iff_eq.mpr c26
                                have c26b1 : ((rdOf ByteArray.empty t244 x31_1).toList != ([46, 46] : List UInt8)) = false := bne_eq_false_iff_eq.mpr c26
                                clear c26
                                by_cases c27 : (x6_1.length : Int) = 1
                                · rw [if_pos c27] at H
                                  have c27b0 : ((x6_1.length : Int) == 1) = true := beq_iff_eq.mpr c27
                                  have c27b1 : ((x6_1.length : Int) != 1) = false := bne_eq_false_iff_eq.mpr c27
                                  clear c27
                                  simp only [Option.some.injEq, Prod.mk.injEq] at H
                                  obtain ⟨rfl, rfl⟩ := H
                                  obtain ⟨Ao28, co28, eo28⟩ := Kd.R_slice HO_6.out
                                  subst eo28
                                  go_wp2
                                  go_ret2
                                  exact ⟨by first | rfl | (simp [errW_none, errW_some] <;> rfl) | (simp only [← hji11]; first | rfl | (simp [errW_none, errW_some] <;> rfl)) | (simp [*, errW_none, errW_some] <;> rfl), by repeat (first | (with_reducible first | exact HB.out | apply below_alloc | apply pw_below_drewN | apply below_drew1) | exact HB.out)⟩
                                · rw [if_neg c27] at H
                                  have c27b0 : ((x6_1.length : Int) == 1) = false := beq_eq_false_iff_ne.mpr c27
                                  have c27b1 : ((x6_1.length : Int) != 1) = true := bne_iff_ne.mpr c27
                                  obtain ⟨ji29, hji29⟩ : ∃ j_ : Int, (wrap64 ((x6_1.length : Int) - 1)) = j_ := ⟨_, rfl⟩
                                  replace H : (if 0 ≤ (ji29) then (if (ji29) ≤ (x6_1.length : Int) then (stockyardref09_Follow.l0 kj22 (x6_1.take ((ji29) : Int).toNat) t244 (t244.length : Int) (wrap64 (x31_1 + 1))) else (none)) else (none)) = some (r1, r2) := by first | (rw [hji29] at H; exact H) | (simp only [hji29] at H ⊢; exact H)
                                  have hji29w : (IntKind.i64.wrap ((x6_1.length : Int) - 1)) = ji29 := (i64_w _).trans hji29
                                  by_cases c30 : 0 ≤ (ji29)
                                  · rw [if_pos c30] at H
                                    have c30b0 := eq_true c30
                                    have c30b1 : decide (0 ≤ (ji29)) = true := decide_eq_true c30
                                    clear c30
                                    by_cases c31 : (ji29) ≤ (x6_1.length : Int)
                                    · rw [if_pos c31] at H
                                      have c31b0 := eq_true c31
                                      have c31b1 : decide ((ji29) ≤ (x6_1.length : Int)) = true := decide_eq_true c31
                                      clear c31
                                      obtain ⟨y249, hy249⟩ : ∃ y_ : List ByteArray, y_ = (x6_1.take ((ji29) : Int).toNat) := ⟨_, rfl⟩
                                      replace H : (stockyardref09_Follow.l0 kj22 y249 t244 (t244.length : Int) (wrap64 (x31_1 + 1))) = some (r1, r2) := by first | (rw [hy249]; with_reducible exact H) | (have H2_ := (Option.bind_some _ _).symm.trans H; rw [hy249]; with_reducible exact H2_) | (have H2_ := (Option.bind_some _ _).symm.trans H; with_reducible exact H2_) | with_reducible exact H | (rw [hy249]; exact H) | exact H
                                      have Ny249 := Aside0.mk hy249
                                      clear hy249
                                      have H' := Aside0.mk H
                                      clear H
                                      obtain ⟨Ao32, co32, eo32⟩ := Kd.R_slice HO_6.out
                                      subst eo32
                                      have q33 : ((ji29) : Int) ≤ ((x6_1.length : Int) : Int) := of_decide_eq_true (by first | (with_reducible assumption) | assumption)
                                      obtain ⟨i033, hi033, _, hsz33, _⟩ := info_parts info9
                                      have hcut33 := cut_to (P := Tryd.prog) 38 9 .i64 Tryd.underlying38 hi033 Ao32 x6_1.length co32 (ji29) (of_decide_eq_true (by first | (with_reducible assumption) | assumption)) q33 (Kd.R_reads' HO_6.out).2.1
                                      have hr33 := Kd.R_take (m := ((ji29) : Int).toNat) HO_6.out (by omega)
                                      have hy33 : y249.length = ((ji29) : Int).toNat := (by rw [Ny249.out, List.length_take]; omega)
                                      rw [← Ny249.out] at hr33
                                      rw [← hy33] at hr33 hcut33
                                      clear hy33 hi033 hsz33 HO_6
                                      have HO251 := Aside0.mk hr33
                                      clear hr33
                                      replace q33 := eq_true q33
                                      go_wp2
                                      go_roundg kj22
                                      case measure => have := HK1.out; have := HJ22.out; omega
                                      case rel => exact ⟨(y249), (wrap64 (x31_1 + 1)), (by first | rfl | (simp; done) | (simp [*]; done)), H', ⟨by have := HK1.out; have := HJ22.out; omega⟩, ⟨by (with_reducible repeat (first | apply Kd.R_alloc | apply Kd.R_drewN | apply Kd.R_drew)); exact HO251.out⟩, ⟨by (with_reducible repeat (first | apply Kd.R_alloc | apply Kd.R_drewN | apply Kd.R_drew)); first | exact HO_29.out | exact Kd.R_mono HO_29.out (fun k_ hk_ => by cases Ao32 <;> exact hk_)⟩, ⟨by repeat (first | (with_reducible first | exact HB.out | apply below_alloc | apply pw_below_drewN | apply below_drew1) | exact HB.out)⟩⟩
                                    · rw [if_neg c31] at H
                                      exact absurd H (by simp)
                                  · rw [if_neg c30] at H
                                    exact absurd H (by simp)
                              · rw [if_neg c26] at H
                                have c26b0 : ((rdOf ByteArray.empty t244 x31_1).toList == ([46, 46] : List UInt8)) = false := beq_eq_false_iff_ne.mpr c26
                                have c26b1 : ((rdOf ByteArray.empty t244 x31_1).toList != ([46, 46] : List UInt8)) = true := bne_iff_ne.mpr c26
                                replace H := Option.bind_eq_some_iff.mp H
                                obtain ⟨t252, A340, H⟩ := H
                                replace H : (if t252 = true then (if 0 ≤ (x6_1.length : Int) then (if (x6_1.length : Int) ≤ (x6_1.length : Int) then ((some (x6_1.take ((x6_1.length : Int) : Int).toNat : List ByteArray)).bind fun y253 => (if y253.length < 8796093022208 then (stockyardref09_Follow.l0 kj22 (y253 ++ [(rdOf ByteArray.empty t244 x31_1)]) t244 (t244.length : Int) (wrap64 (x31_1 + 1))) else (none))) else (none)) else (none)) else (some ((⟨#[]⟩ : ByteArray), 92))) = some (r1, r2) := H
                                have A34 := Aside0.mk A340
                                clear A340
                                by_cases c35 : t252 = true
                                · subst c35
                                  have H1 : (if 0 ≤ (x6_1.length : Int) then (if (x6_1.length : Int) ≤ (x6_1.length : Int) then ((some (x6_1.take ((x6_1.length : Int) : Int).toNat : List ByteArray)).bind fun y253 => (if y253.length < 8796093022208 then (stockyardref09_Follow.l0 kj22 (y253 ++ [(rdOf ByteArray.empty t244 x31_1)]) t244 (t244.length : Int) (wrap64 (x31_1 + 1))) else (none))) else (none)) else (none)) = some (r1, r2) := by rw [if_pos rfl] at H; exact H
                                  clear H
                                  have H := H1
                                  clear H1
                                  by_cases c36 : 0 ≤ (x6_1.length : Int)
                                  · rw [if_pos c36] at H
                                    have c36b0 := eq_true c36
                                    have c36b1 : decide (0 ≤ (x6_1.length : Int)) = true := decide_eq_true c36
                                    clear c36
                                    by_cases c37 : (x6_1.length : Int) ≤ (x6_1.length : Int)
                                    · rw [if_pos c37] at H
                                      have c37b0 := eq_true c37
                                      have c37b1 : decide ((x6_1.length : Int) ≤ (x6_1.length : Int)) = true := decide_eq_true c37
                                      clear c37
                                      have c38b0 := eq_true (of_decide_eq_true (by first | (with_reducible assumption) | assumption) : (x6_1.length : Int) ≤ (x6_1.length : Int))
                                      obtain ⟨y253, hy253⟩ : ∃ y_ : List ByteArray, y_ = (x6_1.take ((x6_1.length : Int) : Int).toNat) := ⟨_, rfl⟩
                                      replace H : (if y253.length < 8796093022208 then (stockyardref09_Follow.l0 kj22 (y253 ++ [(rdOf ByteArray.empty t244 x31_1)]) t244 (t244.length : Int) (wrap64 (x31_1 + 1))) else (none)) = some (r1, r2) := by first | (rw [hy253]; with_reducible exact H) | (have H2_ := (Option.bind_some _ _).symm.trans H; rw [hy253]; with_reducible exact H2_) | (have H2_ := (Option.bind_some _ _).symm.trans H; with_reducible exact H2_) | with_reducible exact H | (rw [hy253]; exact H) | exact H
                                      have Ny253 := Aside0.mk hy253
                                      clear hy253
                                      by_cases c39 : y253.length < 8796093022208
                                      · rw [if_pos c39] at H
                                        have LMc39 := Aside0.mk c39
                                        clear c39
                                        obtain ⟨y256, hy256⟩ : ∃ y_ : List ByteArray, y_ = (y253 ++ [(rdOf ByteArray.empty t244 x31_1)]) := ⟨_, rfl⟩
                                        replace H : (stockyardref09_Follow.l0 kj22 y256 t244 (t244.length : Int) (wrap64 (x31_1 + 1))) = some (r1, r2) := by first | (rw [hy256]; with_reducible exact H) | (have H2_ := (Option.bind_some _ _).symm.trans H; rw [hy256]; with_reducible exact H2_) | (have H2_ := (Option.bind_some _ _).symm.trans H; with_reducible exact H2_) | with_reducible exact H | (rw [hy256]; exact H) | exact H
                                        have Ny256 := Aside0.mk hy256
                                        clear hy256
                                        have H' := Aside0.mk H
                                        clear H
                                        go_wp2_with (first | ((with_reducible refine gate_callee (f := 45) rfl ?_); refine goesL_ (some 55) rfl rfl Tryd.func45 (by kernel_rfl) rfl #[.string (rdOf ByteArray.empty t244 x31_1)] rfl (by (try simp only [List.map_toArray, List.map_cons, List.map_nil]); first | done | rfl | (simp only [List.length_drop, List.length_take]; rfl)) ?_; (with_reducible refine (stockyardref02_Component.calls kj22 (rdOf ByteArray.empty t244 x31_1) true _ A34.out).mono ?_); rintro e w' ⟨rfl, ⟨nd, rfl⟩⟩; refine ⟨_, rfl, ?_⟩; obtain ⟨Ao40, co40, eo40⟩ := Kd.R_slice HO_6.out; subst eo40; have q41 : ((x6_1.length : Int) : Int) ≤ ((x6_1.length : Int) : Int) := of_decide_eq_true (by first | (with_reducible assumption) | assumption); have qr41 : ((x6_1.length : Int) : Int) ≤ ((x6_1.length : Int) : Int) := of_decide_eq_true (by first | (with_reducible assumption) | assumption); obtain ⟨i041, hi041, _, hsz41, _⟩ := info_parts info9; have hcut41 := cut_full (P := Tryd.prog) 38 9 .i64 Tryd.underlying38 hi041 Ao40 x6_1.length co40 (x6_1.length : Int) (of_decide_eq_true (by first | (with_reducible assumption) | assumption)) q41 qr41 (Kd.R_reads' HO_6.out).2.1; have hr41 := Kd.R_take (m := ((x6_1.length : Int) : Int).toNat) HO_6.out (by omega); have hy41 : y253.length = ((x6_1.length : Int) : Int).toNat := (by rw [Ny253.out, List.length_take]; omega); rw [← Ny253.out] at hr41; rw [← hy41] at hr41 hcut41; clear hy41 hi041 hsz41 HO_6; have HO255 := Aside0.mk hr41; clear hr41; replace q41 := eq_true q41; clear qr41) | ((with_reducible refine gate_builtin (b := .append) (xs := #[.tmp 61, .tmp 63]) rfl ?_); at_builtin; refine R_append_cut1 Kd.string (w0 := w) w.heap.size rfl (.tmp 61) (.tmp 63) 38 9 (.string ⟨#[]⟩) 16 rfl Tryd.underlying38 info9 rfl (by decide) (by omega) Ao40 co40 y253 (rdOf ByteArray.empty t244 x31_1) [.string (rdOf ByteArray.empty t244 x31_1)] (fun k_ => some k_ ≠ (.slice (some ad248) t244.length co19 : Value).ownBlock) (fun _ => False) rfl rfl ?aP (fun _ hk => hk.elim) ?aF ?aO ?aB ?aS ?aL ?_; (case aP => exact rfl); (case aB => exact (by repeat (first | (with_reducible first | exact HB.out | apply below_alloc | apply pw_below_drewN | apply below_drew1) | exact HB.out))); (case aF => exact (fun k_ hk => Kd.fresh' (Kd.R_lt (by (with_reducible repeat (first | apply Kd.R_alloc | apply Kd.R_drewN | apply Kd.R_drew)); exact HO_29.out)) k_ hk)); (case aO => exact (by (with_reducible repeat (first | apply Kd.R_alloc | apply Kd.R_drewN | apply Kd.R_drew)); exact HO255.out)); (case aS => exact (below_size (by repeat (first | (with_reducible first | exact HB.out | apply below_alloc | apply pw_below_drewN | apply below_drew1) | exact HB.out)))); (case aL => have := LMc39.out; omega); intro v257 w42 ho hb hg hat; rw [← Ny256.out] at ho; have n0_ := Aside0.mk (Kd.R_after (ok := (fun _ => True)) (by (with_reducible repeat (first | apply Kd.R_alloc | apply Kd.R_drewN | apply Kd.R_drew)); exact Kd.R_mono HO_29.out (fun k_ hk => ⟨trivial, (by first | exact hk | (cases Ao40 <;> exact hk))⟩)) hg hat); have n1_ := Aside0.mk (hb); have n2_ := Aside0.mk (ho); clear HO_29; clear HB; clear HO255; have HO_29 := n0_; have HB := n1_; have HO258 := n2_; clear n0_ n1_ n2_; clear ho hb hg hat))
                                        go_roundg kj22
                                        case measure => have := HK1.out; have := HJ22.out; omega
                                        case rel => exact ⟨(y256), (wrap64 (x31_1 + 1)), (by first | rfl | (simp; done) | (simp [*]; done)), H', ⟨by have := HK1.out; have := HJ22.out; omega⟩, ⟨by (with_reducible repeat (first | apply Kd.R_alloc | apply Kd.R_drewN | apply Kd.R_drew)); exact HO258.out⟩, ⟨by (with_reducible repeat (first | apply Kd.R_alloc | apply Kd.R_drewN | apply Kd.R_drew)); exact Kd.R_mono HO_29.out (fun _ hk => hk.2)⟩, ⟨by repeat (first | (with_reducible first | exact HB.out | apply below_alloc | apply pw_below_drewN | apply below_drew1) | exact HB.out)⟩⟩
                                      · rw [if_neg c39] at H
                                        exact absurd H (by simp)
                                    · rw [if_neg c37] at H
                                      exact absurd H (by simp)
                                  · rw [if_neg c36] at H
                                    exact absurd H (by simp)
                                · replace c35 := Bool.eq_false_iff.mpr c35
                                  subst c35
                                  have H1 : (some ((⟨#[]⟩ : ByteArray), 92)) = some (r1, r2) := by rw [if_neg (show ¬ (false = true) by decide)] at H; exact H
                                  clear H
                                  have H := H1
                                  clear H1
                                  simp only [Option.some.injEq, Prod.mk.injEq] at H
                                  obtain ⟨rfl, rfl⟩ := H
                                  go_wp2_with (first | ((with_reducible refine gate_callee (f := 45) rfl ?_); refine goesL_ (some 55) rfl rfl Tryd.func45 (by kernel_rfl) rfl #[.string (rdOf ByteArray.empty t244 x31_1)] rfl (by (try simp only [List.map_toArray, List.map_cons, List.map_nil]); first | done | rfl | (simp only [List.length_drop, List.length_take]; rfl)) ?_; (with_reducible refine (stockyardref02_Component.calls kj22 (rdOf ByteArray.empty t244 x31_1) false _ A34.out).mono ?_); rintro e w' ⟨rfl, ⟨nd, rfl⟩⟩; refine ⟨_, rfl, ?_⟩))
                                  go_ret2
                                  exact ⟨by first | rfl | (simp [errW_none, errW_some] <;> rfl) | (simp only [← hji11]; first | rfl | (simp [errW_none, errW_some] <;> rfl)) | (simp [*, errW_none, errW_some] <;> rfl), by repeat (first | (with_reducible first | exact HB.out | apply below_alloc | apply pw_below_drewN | apply below_drew1) | exact HB.out)⟩
                      · rw [if_neg c22] at H
                        exact absurd H (by simp)
                    · rw [if_neg c21] at H
                      exact absurd H (by simp)
                  · rw [if_neg c20] at H
                    have c20b0 : decide (x31_1 < (t244.length : Int)) = false := decide_eq_false c20
                    clear c20
                    by_cases c43 : (x6_1.length : Int) < 2
                    · rw [if_pos c43] at H
                      have c43b0 : decide ((x6_1.length : Int) < 2) = true := decide_eq_true c43
                      have c43b1 : decide (x6_1.length < 2) = true := decide_eq_true (by omega)
                      clear c43
                      simp only [Option.some.injEq, Prod.mk.injEq] at H
                      obtain ⟨rfl, rfl⟩ := H
                      obtain ⟨Ao44, co44, eo44⟩ := Kd.R_slice HO_6.out
                      subst eo44
                      go_wp2
                      go_ret2
                      exact ⟨by first | rfl | (simp [errW_none, errW_some] <;> rfl) | (simp only [← hji11]; first | rfl | (simp [errW_none, errW_some] <;> rfl)) | (simp [*, errW_none, errW_some] <;> rfl), by repeat (first | (with_reducible first | exact HB.out | apply below_alloc | apply pw_below_drewN | apply below_drew1) | exact HB.out)⟩
                    · rw [if_neg c43] at H
                      have c43b0 : decide ((x6_1.length : Int) < 2) = false := decide_eq_false c43
                      have c43b1 : decide (x6_1.length < 2) = false := decide_eq_false (by omega)
                      clear c43
                      replace H := Option.bind_eq_some_iff.mp H
                      obtain ⟨t247, A450, H⟩ := H
                      replace H : (some (t247, 0)) = some (r1, r2) := H
                      have A45 := Aside0.mk A450
                      clear A450
                      simp only [Option.some.injEq, Prod.mk.injEq] at H
                      obtain ⟨rfl, rfl⟩ := H
                      obtain ⟨Ao46, co46, eo46⟩ := Kd.R_slice HO_6.out
                      subst eo46
                      go_wp2_with (first | ((with_reducible refine gate_callee (f := 46) rfl ?_); refine goesL_ (some 70) rfl rfl Tryd.func46 (by kernel_rfl) rfl #[.slice Ao46 x6_1.length co46] rfl (by (try simp only [List.map_toArray, List.map_cons, List.map_nil]); first | done | rfl | (simp only [List.length_drop, List.length_take]; rfl)) ?_; (with_reducible refine (stockyardref02_Join.calls _ _ x6_1 t247 _ ?side1 ?side2 A45.out).mono ?_); (case side1 => repeat (first | exact (Kd.R_reads' HO_6.out).2.2 | (with_reducible refine Kd.C_alloc ?_ _) | (with_reducible refine Kd.C_drewN ?_ _) | (with_reducible refine Kd.C_drew ?_))); (case side2 => exact (Kd.R_reads' HO_6.out).2.1); rintro e w47 ⟨rfl, hb⟩; refine ⟨_, rfl, ?_⟩; have n0_ := Aside0.mk (Kd.R_below (by (with_reducible repeat (first | apply Kd.R_alloc | apply Kd.R_drewN | apply Kd.R_drew)); exact HO_6.out) hb); have n1_ := Aside0.mk (Kd.R_below (by (with_reducible repeat (first | apply Kd.R_alloc | apply Kd.R_drewN | apply Kd.R_drew)); exact HO_29.out) hb); have n2_ := Aside0.mk (below_step (by repeat (first | (with_reducible first | exact HB.out | apply below_alloc | apply pw_below_drewN | apply below_drew1) | exact HB.out)) hb); clear HO_6; clear HO_29; clear HB; have HO_6 := n0_; have HO_29 := n1_; have HB := n2_; clear n0_ n1_ n2_; (try clear hb); (try clear hb2); (try clear hk); (try clear hi)))
                      go_ret2
                      exact ⟨by first | rfl | (simp [errW_none, errW_some] <;> rfl) | (simp only [← hji11]; first | rfl | (simp [errW_none, errW_some] <;> rfl)) | (simp [*, errW_none, errW_some] <;> rfl), by repeat (first | (with_reducible first | exact HB.out | apply below_alloc | apply pw_below_drewN | apply below_drew1) | exact HB.out)⟩
            · rw [if_neg c13] at H
              exact absurd H (by simp)
          · rw [if_neg c12] at H
            exact absurd H (by simp)
      · rw [if_neg c7] at H
        exact absurd H (by simp)
    · replace c6 := Bool.eq_false_iff.mpr c6
      subst c6
      have H1 : (some ((⟨#[]⟩ : ByteArray), 91)) = some (r1, r2) := by rw [if_neg (show ¬ (false = true) by decide)] at H; exact H
      clear H
      have H := H1
      clear H1
      simp only [Option.some.injEq, Prod.mk.injEq] at H
      obtain ⟨rfl, rfl⟩ := H
      go_enter Tryd.func24, Tryd.ntmps24
      go_wp2_with (first | ((with_reducible refine gate_callee (f := 43) rfl ?_); refine goesL_ (some 12) rfl rfl Tryd.func43 (by kernel_rfl) rfl #[.string a0] rfl (by (try simp only [List.map_toArray, List.map_cons, List.map_nil]); first | done | rfl | (simp only [List.length_drop, List.length_take]; rfl)) ?_; (with_reducible refine (stockyardref02_Path.calls k a0 t236 true _ A3.out).mono ?_); rintro e w48 ⟨v238, rfl, ho0, hb⟩; refine ⟨_, rfl, ?_⟩; have n0_ := Aside0.mk (Kd.R_lower ho0 (below_size (by repeat (first | (with_reducible first | exact HB.out | apply below_alloc | apply pw_below_drewN | apply below_drew1) | exact HB.out)))); have n1_ := Aside0.mk (below_step (by repeat (first | (with_reducible first | exact HB.out | apply below_alloc | apply pw_below_drewN | apply below_drew1) | exact HB.out)) hb); clear HB; have HO239 := n0_; have HB := n1_; clear n0_ n1_; (try clear hb); (try clear hb2); (try clear hk); (try clear hi); (try clear ho0)) | ((with_reducible refine gate_callee (f := 44) rfl ?_); refine goesL_ (some 18) rfl rfl Tryd.func44 (by kernel_rfl) rfl #[.string a1] rfl (by (try simp only [List.map_toArray, List.map_cons, List.map_nil]); first | done | rfl | (simp only [List.length_drop, List.length_take]; rfl)) ?_; (with_reducible refine (stockyardref09_Target.calls a1 false _ A5.out).mono ?_); rintro e w' ⟨rfl, ⟨nd, rfl⟩⟩; refine ⟨_, rfl, ?_⟩))
      go_ret2
      exact ⟨by first | rfl | (simp [errW_none, errW_some] <;> rfl) | (simp [*, errW_none, errW_some] <;> rfl), by repeat (first | (with_reducible first | exact HB.out | apply below_alloc | apply pw_below_drewN | apply below_drew1) | exact HB.out)⟩
  · replace c4 := Bool.eq_false_iff.mpr c4
    subst c4
    have H1 : (some ((⟨#[]⟩ : ByteArray), 20)) = some (r1, r2) := by rw [if_neg (show ¬ (false = true) by decide)] at H; exact H
    clear H
    have H := H1
    clear H1
    simp only [Option.some.injEq, Prod.mk.injEq] at H
    obtain ⟨rfl, rfl⟩ := H
    go_enter Tryd.func24, Tryd.ntmps24
    go_wp2_with (first | ((with_reducible refine gate_callee (f := 43) rfl ?_); refine goesL_ (some 12) rfl rfl Tryd.func43 (by kernel_rfl) rfl #[.string a0] rfl (by (try simp only [List.map_toArray, List.map_cons, List.map_nil]); first | done | rfl | (simp only [List.length_drop, List.length_take]; rfl)) ?_; (with_reducible refine (stockyardref02_Path.calls k a0 t236 false _ A3.out).mono ?_); rintro e w49 ⟨v238, rfl, ho0, hb⟩; refine ⟨_, rfl, ?_⟩; have n0_ := Aside0.mk (Kd.R_lower ho0 (below_size (by repeat (first | (with_reducible first | exact HB.out | apply below_alloc | apply pw_below_drewN | apply below_drew1) | exact HB.out)))); have n1_ := Aside0.mk (below_step (by repeat (first | (with_reducible first | exact HB.out | apply below_alloc | apply pw_below_drewN | apply below_drew1) | exact HB.out)) hb); clear HB; have HO239 := n0_; have HB := n1_; clear n0_ n1_; (try clear hb); (try clear hb2); (try clear hk); (try clear hi); (try clear ho0)))
    go_ret2
    exact ⟨by first | rfl | (simp [errW_none, errW_some] <;> rfl) | (simp [*, errW_none, errW_some] <;> rfl), by repeat (first | (with_reducible first | exact HB.out | apply below_alloc | apply pw_below_drewN | apply below_drew1) | exact HB.out)⟩

/-! ### stockyardlaw09_FiletypeFollows: function 7 -/
def stockyardlaw09_FiletypeFollows.j0 : Nat → ByteArray → ByteArray → Bool → Option (Bool)
  | 0, _, _, _ => none
  | k + 1, x0, x1, x16 => if x16 = true then ((stockyardlaw09_awake.f k).bind fun t259 => (some t259)) else ((filetype_Follow.f k x0 x1).bind fun bt260 => ((stockyardref09_Follow.f k x0 x1).bind fun bt262 => (if bt260.1.toList = bt262.1.toList then (if bt260.2 = bt262.2 then ((stockyardlaw09_awake.f k).bind fun t264 => (some t264)) else (some false)) else (some false))))
def stockyardlaw09_FiletypeFollows.f (k : Nat) (a0 : ByteArray) (a1 : ByteArray) : Option (Bool) := if (a0.size : Int) > 300 then (stockyardlaw09_FiletypeFollows.j0 k a0 a1 true) else (stockyardlaw09_FiletypeFollows.j0 k a0 a1 (decide ((a1.size : Int) > 300)))
theorem stockyardlaw09_FiletypeFollows.mono_l : ∀ k, (∀ y0 y1 y2, LeO (stockyardlaw09_FiletypeFollows.j0 k y0 y1 y2) (stockyardlaw09_FiletypeFollows.j0 (k + 1) y0 y1 y2))
  | 0 => fun _ _ _ r h => by simp [stockyardlaw09_FiletypeFollows.j0] at h
  | k + 1 => by
    have ih0 := stockyardlaw09_FiletypeFollows.mono_l k
    · intro y0 y1 y2
      unfold stockyardlaw09_FiletypeFollows.j0
      repeat' first
      | (with_reducible exact ih0 _ _ _)
      | (with_reducible exact filetype_Follow.mono _ _ _)
      | (with_reducible exact stockyardlaw09_awake.mono _)
      | (with_reducible exact stockyardref09_Follow.mono _ _ _)
      | (with_reducible exact LeO.refl _)
      | (with_reducible exact LeO.none _)
      | (with_reducible refine LeO.ite ?_ ?_)
      | (with_reducible refine LeO.bind ?_ (fun _ => ?_))
      | exact ih0 _ _ _
      | exact filetype_Follow.mono _ _ _
      | exact stockyardlaw09_awake.mono _
      | exact stockyardref09_Follow.mono _ _ _
      | exact LeO.none _
      | refine LeO.ite ?_ ?_
      | refine LeO.bind ?_ (fun _ => ?_)
theorem stockyardlaw09_FiletypeFollows.mono : ∀ a0 a1 k, LeO (stockyardlaw09_FiletypeFollows.f k a0 a1) (stockyardlaw09_FiletypeFollows.f (k + 1) a0 a1) := by
  intro a0 a1 k
  have ih0 := stockyardlaw09_FiletypeFollows.mono_l k
  unfold stockyardlaw09_FiletypeFollows.f
  repeat' first
      | (with_reducible exact ih0 _ _ _)
      | (with_reducible exact filetype_Follow.mono _ _ _)
      | (with_reducible exact stockyardlaw09_awake.mono _)
      | (with_reducible exact stockyardref09_Follow.mono _ _ _)
      | (with_reducible exact LeO.refl _)
      | (with_reducible exact LeO.none _)
      | (with_reducible refine LeO.ite ?_ ?_)
      | (with_reducible refine LeO.bind ?_ (fun _ => ?_))
      | exact ih0 _ _ _
      | exact filetype_Follow.mono _ _ _
      | exact stockyardlaw09_awake.mono _
      | exact stockyardref09_Follow.mono _ _ _
      | exact LeO.none _
      | refine LeO.ite ?_ ?_
      | refine LeO.bind ?_ (fun _ => ?_)
set_option maxHeartbeats 8000000 in
set_option maxRecDepth 100000 in
theorem stockyardlaw09_FiletypeFollows.calls (k : Nat) (a0 : ByteArray) (a1 : ByteArray) (r : Bool) (w : World) (h : stockyardlaw09_FiletypeFollows.f k a0 a1 = some r) :
    Calls Tryd.prog 7 #[.string a0, .string a1] w fun e w' => e = .returned (.bool r) ∧ Below w.heap.size w w' := by
  have HB := Aside0.mk (Below.refl w.heap.size w)
  have H : (if (a0.size : Int) > 300 then (stockyardlaw09_FiletypeFollows.j0 k a0 a1 true) else (stockyardlaw09_FiletypeFollows.j0 k a0 a1 (decide ((a1.size : Int) > 300)))) = some r := h
  clear h
  have HC3 := Aside0.mk H
  clear H
  go_enter Tryd.func7, Tryd.ntmps7
  go_upto_region 1 with (fail)
  go_cut [16] (fun v16 wc => ∃ (kq : Nat) (x16_2 : Bool), v16 = .bool x16_2 ∧ Aside0 (stockyardlaw09_FiletypeFollows.j0 kq a0 a1 x16_2 = some r) ∧ Aside0 (kq ≤ k) ∧ Aside0 (Below w.heap.size w wc))
  case first =>
    have H := HC3.out
    clear HC3
    by_cases c4 : (a0.size : Int) > 300
    · rw [if_pos c4] at H
      have c4b0 : decide (300 < (a0.size : Int)) = true := decide_eq_true c4
      have c4b1 : decide (300 < a0.size) = true := decide_eq_true (by omega)
      clear c4
      (first | rw [c4b0] | (simp only [i64_w, i32_w]; rw [c4b0]) | skip)
      have H' := Aside0.mk H
      clear H
      go_wp2
      go_meet
      case rel => exact ⟨_, (true), (by first | rfl | (simp; done) | (simp [*]; done)), H', ⟨by first | omega | exact Nat.le_refl _⟩, ⟨by repeat (first | (with_reducible first | exact HB.out | apply below_alloc | apply pw_below_drewN | apply below_drew1) | exact HB.out)⟩⟩
    · rw [if_neg c4] at H
      have c4b0 : decide (300 < (a0.size : Int)) = false := decide_eq_false c4
      have c4b1 : decide (300 < a0.size) = false := decide_eq_false (by omega)
      clear c4
      (first | rw [c4b0] | (simp only [i64_w, i32_w]; rw [c4b0]) | skip)
      have H' := Aside0.mk H
      clear H
      go_wp2
      go_meet
      case rel => exact ⟨_, (decide ((a1.size : Int) > 300)), (by first | rfl | (simp; done) | (simp [*]; done)), H', ⟨by first | omega | exact Nat.le_refl _⟩, ⟨by repeat (first | (with_reducible first | exact HB.out | apply below_alloc | apply pw_below_drewN | apply below_drew1) | exact HB.out)⟩⟩
  case rest =>
    clear HC3
    try clear p2
    try clear c4
    try clear c4b0
    try clear c4b1
    obtain ⟨kq, x16_2, rfl, HA, HJ2, HB⟩ := hcut
    cases kq with
    | zero => exact absurd HA.out (by simp [stockyardlaw09_FiletypeFollows.j0])
    | succ kj2 =>
      have H := HA.out
      clear HA
      simp only [stockyardlaw09_FiletypeFollows.j0] at H
      by_cases c5 : x16_2 = true
      · subst c5
        have H1 : ((stockyardlaw09_awake.f kj2).bind fun t259 => (some t259)) = some r := by rw [if_pos rfl] at H; exact H
        clear H
        have H := H1
        clear H1
        replace H := Option.bind_eq_some_iff.mp H
        obtain ⟨t259, A60, H⟩ := H
        replace H : (some t259) = some r := H
        have A6 := Aside0.mk A60
        clear A60
        obtain rfl := Option.some.inj H
        go_wp2_with (first | ((with_reducible refine gate_callee (f := 16) rfl ?_); refine goesL_ (some 17) rfl rfl Tryd.func16 (by kernel_rfl) rfl #[] rfl (by (try simp only [List.map_toArray, List.map_cons, List.map_nil]); first | done | rfl | (simp only [List.length_drop, List.length_take]; rfl)) ?_; (with_reducible refine (stockyardlaw09_awake.calls kj2  t259 _ A6.out).mono ?_); rintro e w7 ⟨rfl, hb⟩; refine ⟨_, rfl, ?_⟩; have n0_ := Aside0.mk (below_step (by repeat (first | (with_reducible first | exact HB.out | apply below_alloc | apply pw_below_drewN | apply below_drew1) | exact HB.out)) hb); clear HB; have HB := n0_; clear n0_; (try clear hb); (try clear hb2); (try clear hk); (try clear hi)))
        go_ret
        exact ⟨by first | rfl | (simp [errW_none, errW_some] <;> rfl) | (simp [*, errW_none, errW_some] <;> rfl), by repeat (first | (with_reducible first | exact HB.out | apply below_alloc | apply pw_below_drewN | apply below_drew1) | exact HB.out)⟩
      · replace c5 := Bool.eq_false_iff.mpr c5
        subst c5
        have H1 : ((filetype_Follow.f kj2 a0 a1).bind fun bt260 => ((stockyardref09_Follow.f kj2 a0 a1).bind fun bt262 => (if bt260.1.toList = bt262.1.toList then (if bt260.2 = bt262.2 then ((stockyardlaw09_awake.f kj2).bind fun t264 => (some t264)) else (some false)) else (some false)))) = some r := by rw [if_neg (show ¬ (false = true) by decide)] at H; exact H
        clear H
        have H := H1
        clear H1
        replace H := Option.bind_eq_some_iff.mp H
        obtain ⟨⟨t260, t261⟩, A80, H⟩ := H
        replace H : ((stockyardref09_Follow.f kj2 a0 a1).bind fun bt262 => (if t260.toList = bt262.1.toList then (if t261 = bt262.2 then ((stockyardlaw09_awake.f kj2).bind fun t264 => (some t264)) else (some false)) else (some false))) = some r := H
        have A8 := Aside0.mk A80
        clear A80
        replace H := Option.bind_eq_some_iff.mp H
        obtain ⟨⟨t262, t263⟩, A90, H⟩ := H
        replace H : (if t260.toList = t262.toList then (if t261 = t263 then ((stockyardlaw09_awake.f kj2).bind fun t264 => (some t264)) else (some false)) else (some false)) = some r := H
        have A9 := Aside0.mk A90
        clear A90
        by_cases c10 : t260.toList = t262.toList
        · rw [if_pos c10] at H
          have c10b0 : (t260.toList == t262.toList) = true := beq_iff_eq.mpr c10
          have c10b1 : (t260.toList != t262.toList) = false := bne_eq_false_iff_eq.mpr c10
          clear c10
          by_cases c11 : t261 = t263
          · rw [if_pos c11] at H
            have c11b0 : (t261 == t263) = true := beq_iff_eq.mpr c11
            have c11b1 : (t261 != t263) = false := bne_eq_false_iff_eq.mpr c11
            clear c11
            replace H := Option.bind_eq_some_iff.mp H
            obtain ⟨t264, A120, H⟩ := H
            replace H : (some t264) = some r := H
            have A12 := Aside0.mk A120
            clear A120
            obtain rfl := Option.some.inj H
            go_wp2_with (first | ((with_reducible refine gate_callee (f := 21) rfl ?_); refine goesL_ (some 21) rfl rfl Tryd.func21 (by kernel_rfl) rfl #[.string a0, .string a1] rfl (by (try simp only [List.map_toArray, List.map_cons, List.map_nil]); first | done | rfl | (simp only [List.length_drop, List.length_take]; rfl)) ?_; (with_reducible refine (filetype_Follow.calls kj2 a0 a1 t260 t261 _ A8.out).mono ?_); rintro e w13 ⟨rfl, hb⟩; refine ⟨_, rfl, ?_⟩; have n0_ := Aside0.mk (below_step (by repeat (first | (with_reducible first | exact HB.out | apply below_alloc | apply pw_below_drewN | apply below_drew1) | exact HB.out)) hb); clear HB; have HB := n0_; clear n0_; (try clear hb); (try clear hb2); (try clear hk); (try clear hi)) | ((with_reducible refine gate_callee (f := 24) rfl ?_); refine goesL_ (some 27) rfl rfl Tryd.func24 (by kernel_rfl) rfl #[.string a0, .string a1] rfl (by (try simp only [List.map_toArray, List.map_cons, List.map_nil]); first | done | rfl | (simp only [List.length_drop, List.length_take]; rfl)) ?_; (with_reducible refine (stockyardref09_Follow.calls kj2 a0 a1 t262 t263 _ A9.out).mono ?_); rintro e w14 ⟨rfl, hb⟩; refine ⟨_, rfl, ?_⟩; have n0_ := Aside0.mk (below_step (by repeat (first | (with_reducible first | exact HB.out | apply below_alloc | apply pw_below_drewN | apply below_drew1) | exact HB.out)) hb); clear HB; have HB := n0_; clear n0_; (try clear hb); (try clear hb2); (try clear hk); (try clear hi)) | (go_at_call 16; (with_reducible refine (stockyardlaw09_awake.calls kj2  t264 _ A12.out).mono ?_); rintro e w15 ⟨rfl, hb⟩; have n0_ := Aside0.mk (below_step (by repeat (first | (with_reducible first | exact HB.out | apply below_alloc | apply pw_below_drewN | apply below_drew1) | exact HB.out)) hb); clear HB; have HB := n0_; clear n0_; (try clear hb); (try clear hb2); (try clear hk); (try clear hi)))
            go_ret
            exact ⟨by first | rfl | (simp [errW_none, errW_some] <;> rfl) | (simp [*, errW_none, errW_some] <;> rfl), by repeat (first | (with_reducible first | exact HB.out | apply below_alloc | apply pw_below_drewN | apply below_drew1) | exact HB.out)⟩
          · rw [if_neg c11] at H
            have c11b0 : (t261 == t263) = false := beq_eq_false_iff_ne.mpr c11
            have c11b1 : (t261 != t263) = true := bne_iff_ne.mpr c11
            obtain rfl := Option.some.inj H
            go_wp2_with (first | ((with_reducible refine gate_callee (f := 21) rfl ?_); refine goesL_ (some 21) rfl rfl Tryd.func21 (by kernel_rfl) rfl #[.string a0, .string a1] rfl (by (try simp only [List.map_toArray, List.map_cons, List.map_nil]); first | done | rfl | (simp only [List.length_drop, List.length_take]; rfl)) ?_; (with_reducible refine (filetype_Follow.calls kj2 a0 a1 t260 t261 _ A8.out).mono ?_); rintro e w16 ⟨rfl, hb⟩; refine ⟨_, rfl, ?_⟩; have n0_ := Aside0.mk (below_step (by repeat (first | (with_reducible first | exact HB.out | apply below_alloc | apply pw_below_drewN | apply below_drew1) | exact HB.out)) hb); clear HB; have HB := n0_; clear n0_; (try clear hb); (try clear hb2); (try clear hk); (try clear hi)) | ((with_reducible refine gate_callee (f := 24) rfl ?_); refine goesL_ (some 27) rfl rfl Tryd.func24 (by kernel_rfl) rfl #[.string a0, .string a1] rfl (by (try simp only [List.map_toArray, List.map_cons, List.map_nil]); first | done | rfl | (simp only [List.length_drop, List.length_take]; rfl)) ?_; (with_reducible refine (stockyardref09_Follow.calls kj2 a0 a1 t262 t263 _ A9.out).mono ?_); rintro e w17 ⟨rfl, hb⟩; refine ⟨_, rfl, ?_⟩; have n0_ := Aside0.mk (below_step (by repeat (first | (with_reducible first | exact HB.out | apply below_alloc | apply pw_below_drewN | apply below_drew1) | exact HB.out)) hb); clear HB; have HB := n0_; clear n0_; (try clear hb); (try clear hb2); (try clear hk); (try clear hi)))
            go_ret
            exact ⟨by first | rfl | (simp [errW_none, errW_some] <;> rfl) | (simp [*, errW_none, errW_some] <;> rfl), by repeat (first | (with_reducible first | exact HB.out | apply below_alloc | apply pw_below_drewN | apply below_drew1) | exact HB.out)⟩
        · rw [if_neg c10] at H
          have c10b0 : (t260.toList == t262.toList) = false := beq_eq_false_iff_ne.mpr c10
          have c10b1 : (t260.toList != t262.toList) = true := bne_iff_ne.mpr c10
          obtain rfl := Option.some.inj H
          go_wp2_with (first | ((with_reducible refine gate_callee (f := 21) rfl ?_); refine goesL_ (some 21) rfl rfl Tryd.func21 (by kernel_rfl) rfl #[.string a0, .string a1] rfl (by (try simp only [List.map_toArray, List.map_cons, List.map_nil]); first | done | rfl | (simp only [List.length_drop, List.length_take]; rfl)) ?_; (with_reducible refine (filetype_Follow.calls kj2 a0 a1 t260 t261 _ A8.out).mono ?_); rintro e w18 ⟨rfl, hb⟩; refine ⟨_, rfl, ?_⟩; have n0_ := Aside0.mk (below_step (by repeat (first | (with_reducible first | exact HB.out | apply below_alloc | apply pw_below_drewN | apply below_drew1) | exact HB.out)) hb); clear HB; have HB := n0_; clear n0_; (try clear hb); (try clear hb2); (try clear hk); (try clear hi)) | ((with_reducible refine gate_callee (f := 24) rfl ?_); refine goesL_ (some 27) rfl rfl Tryd.func24 (by kernel_rfl) rfl #[.string a0, .string a1] rfl (by (try simp only [List.map_toArray, List.map_cons, List.map_nil]); first | done | rfl | (simp only [List.length_drop, List.length_take]; rfl)) ?_; (with_reducible refine (stockyardref09_Follow.calls kj2 a0 a1 t262 t263 _ A9.out).mono ?_); rintro e w19 ⟨rfl, hb⟩; refine ⟨_, rfl, ?_⟩; have n0_ := Aside0.mk (below_step (by repeat (first | (with_reducible first | exact HB.out | apply below_alloc | apply pw_below_drewN | apply below_drew1) | exact HB.out)) hb); clear HB; have HB := n0_; clear n0_; (try clear hb); (try clear hb2); (try clear hk); (try clear hi)))
          go_ret
          exact ⟨by first | rfl | (simp [errW_none, errW_some] <;> rfl) | (simp [*, errW_none, errW_some] <;> rfl), by repeat (first | (with_reducible first | exact HB.out | apply below_alloc | apply pw_below_drewN | apply below_drew1) | exact HB.out)⟩

/-! ### path_Valid: function 25 -/
def path_Valid.f (k : Nat) (a0 : ByteArray) : Option (Bool) := (path_Split.f k a0).bind fun bt265 => (some (bt265.2 == 0))
theorem path_Valid.mono : ∀ a0 k, LeO (path_Valid.f k a0) (path_Valid.f (k + 1) a0) := by
  intro a0 k
  unfold path_Valid.f
  repeat' first
      | (with_reducible exact path_Split.mono _ _)
      | (with_reducible exact LeO.refl _)
      | (with_reducible exact LeO.none _)
      | (with_reducible refine LeO.ite ?_ ?_)
      | (with_reducible refine LeO.bind ?_ (fun _ => ?_))
      | exact path_Split.mono _ _
      | exact LeO.none _
      | refine LeO.ite ?_ ?_
      | refine LeO.bind ?_ (fun _ => ?_)
set_option maxHeartbeats 8000000 in
set_option maxRecDepth 100000 in
theorem path_Valid.calls (k : Nat) (a0 : ByteArray) (r : Bool) (w : World) (h : path_Valid.f k a0 = some r) :
    Calls Tryd.prog 25 #[.string a0] w fun e w' => e = .returned (.bool r) ∧ Below w.heap.size w w' := by
  have HB := Aside0.mk (Below.refl w.heap.size w)
  have H : ((path_Split.f k a0).bind fun bt265 => (some (bt265.2 == 0))) = some r := h
  clear h
  replace H := Option.bind_eq_some_iff.mp H
  obtain ⟨⟨t265, t266⟩, A20, H⟩ := H
  replace H : (some (t266 == 0)) = some r := H
  have A2 := Aside0.mk A20
  clear A20
  obtain rfl := Option.some.inj H
  go_enter Tryd.func25, Tryd.ntmps25
  go_wp2_with (first | ((with_reducible refine gate_callee (f := 22) rfl ?_); refine goesL_ (some 7) rfl rfl Tryd.func22 (by kernel_rfl) rfl #[.string a0] rfl (by (try simp only [List.map_toArray, List.map_cons, List.map_nil]); first | done | rfl | (simp only [List.length_drop, List.length_take]; rfl)) ?_; (with_reducible refine (path_Split.calls k a0 t265 t266 _ A2.out).mono ?_); rintro e w3 ⟨v267, rfl, ho0, hb⟩; refine ⟨_, rfl, ?_⟩; have n0_ := Aside0.mk (Kd.R_lower ho0 (below_size (by repeat (first | (with_reducible first | exact HB.out | apply below_alloc | apply pw_below_drewN | apply below_drew1) | exact HB.out)))); have n1_ := Aside0.mk (below_step (by repeat (first | (with_reducible first | exact HB.out | apply below_alloc | apply pw_below_drewN | apply below_drew1) | exact HB.out)) hb); clear HB; have HO268 := n0_; have HB := n1_; clear n0_ n1_; (try clear hb); (try clear hb2); (try clear hk); (try clear hi); (try clear ho0)))
  go_ret
  exact ⟨by first | rfl | (simp [errW_none, errW_some] <;> rfl) | (simp [*, errW_none, errW_some] <;> rfl), by repeat (first | (with_reducible first | exact HB.out | apply below_alloc | apply pw_below_drewN | apply below_drew1) | exact HB.out)⟩

/-! ### path_Parent: function 26 -/
def path_Parent.f (k : Nat) (a0 : ByteArray) : Option (ByteArray × Int) := (path_Split.f k a0).bind fun bt269 => (if bt269.2 = 0 then (if 0 ≤ (wrap64 ((bt269.1.length : Int) - 1)) then (if (wrap64 ((bt269.1.length : Int) - 1)) < (bt269.1.length : Int) then (if 0 ≤ (wrap64 ((wrap64 ((a0.size : Int) - ((rdOf ByteArray.empty bt269.1 (wrap64 ((bt269.1.length : Int) - 1))).size : Int))) - 1)) then (if (wrap64 ((wrap64 ((a0.size : Int) - ((rdOf ByteArray.empty bt269.1 (wrap64 ((bt269.1.length : Int) - 1))).size : Int))) - 1)) ≤ (a0.size : Int) then (some (a0.extract 0 ((wrap64 ((wrap64 ((a0.size : Int) - ((rdOf ByteArray.empty bt269.1 (wrap64 ((bt269.1.length : Int) - 1))).size : Int))) - 1)) : Int).toNat, 0)) else (none)) else (none)) else (none)) else (none)) else (some ((⟨#[]⟩ : ByteArray), bt269.2)))
theorem path_Parent.mono : ∀ a0 k, LeO (path_Parent.f k a0) (path_Parent.f (k + 1) a0) := by
  intro a0 k
  unfold path_Parent.f
  repeat' first
      | (with_reducible exact path_Split.mono _ _)
      | (with_reducible exact LeO.refl _)
      | (with_reducible exact LeO.none _)
      | (with_reducible refine LeO.ite ?_ ?_)
      | (with_reducible refine LeO.bind ?_ (fun _ => ?_))
      | exact path_Split.mono _ _
      | exact LeO.none _
      | refine LeO.ite ?_ ?_
      | refine LeO.bind ?_ (fun _ => ?_)
set_option maxHeartbeats 8000000 in
set_option maxRecDepth 100000 in
theorem path_Parent.calls (k : Nat) (a0 : ByteArray) (r1 : ByteArray) (r2 : Int) (w : World) (h : path_Parent.f k a0 = some (r1, r2)) :
    Calls Tryd.prog 26 #[.string a0] w fun e w' => e = .returned (.tuple #[.string r1, .int .i64 r2]) ∧ Below w.heap.size w w' := by
  have HB := Aside0.mk (Below.refl w.heap.size w)
  have H : ((path_Split.f k a0).bind fun bt269 => (if bt269.2 = 0 then (if 0 ≤ (wrap64 ((bt269.1.length : Int) - 1)) then (if (wrap64 ((bt269.1.length : Int) - 1)) < (bt269.1.length : Int) then (if 0 ≤ (wrap64 ((wrap64 ((a0.size : Int) - ((rdOf ByteArray.empty bt269.1 (wrap64 ((bt269.1.length : Int) - 1))).size : Int))) - 1)) then (if (wrap64 ((wrap64 ((a0.size : Int) - ((rdOf ByteArray.empty bt269.1 (wrap64 ((bt269.1.length : Int) - 1))).size : Int))) - 1)) ≤ (a0.size : Int) then (some (a0.extract 0 ((wrap64 ((wrap64 ((a0.size : Int) - ((rdOf ByteArray.empty bt269.1 (wrap64 ((bt269.1.length : Int) - 1))).size : Int))) - 1)) : Int).toNat, 0)) else (none)) else (none)) else (none)) else (none)) else (some ((⟨#[]⟩ : ByteArray), bt269.2)))) = some (r1, r2) := h
  clear h
  replace H := Option.bind_eq_some_iff.mp H
  obtain ⟨⟨t269, t270⟩, A20, H⟩ := H
  replace H : (if t270 = 0 then (if 0 ≤ (wrap64 ((t269.length : Int) - 1)) then (if (wrap64 ((t269.length : Int) - 1)) < (t269.length : Int) then (if 0 ≤ (wrap64 ((wrap64 ((a0.size : Int) - ((rdOf ByteArray.empty t269 (wrap64 ((t269.length : Int) - 1))).size : Int))) - 1)) then (if (wrap64 ((wrap64 ((a0.size : Int) - ((rdOf ByteArray.empty t269 (wrap64 ((t269.length : Int) - 1))).size : Int))) - 1)) ≤ (a0.size : Int) then (some (a0.extract 0 ((wrap64 ((wrap64 ((a0.size : Int) - ((rdOf ByteArray.empty t269 (wrap64 ((t269.length : Int) - 1))).size : Int))) - 1)) : Int).toNat, 0)) else (none)) else (none)) else (none)) else (none)) else (some ((⟨#[]⟩ : ByteArray), t270))) = some (r1, r2) := H
  have A2 := Aside0.mk A20
  clear A20
  by_cases c3 : t270 = 0
  · rw [if_pos c3] at H
    have c3b0 : (t270 == 0) = true := beq_iff_eq.mpr c3
    have c3b1 : (t270 != 0) = false := bne_eq_false_iff_eq.mpr c3
    clear c3
    obtain ⟨ji4, hji4⟩ : ∃ j_ : Int, (wrap64 ((t269.length : Int) - 1)) = j_ := ⟨_, rfl⟩
    replace H : (if 0 ≤ (ji4) then (if (ji4) < (t269.length : Int) then (if 0 ≤ (wrap64 ((wrap64 ((a0.size : Int) - ((rdOf ByteArray.empty t269 (ji4)).size : Int))) - 1)) then (if (wrap64 ((wrap64 ((a0.size : Int) - ((rdOf ByteArray.empty t269 (ji4)).size : Int))) - 1)) ≤ (a0.size : Int) then (some (a0.extract 0 ((wrap64 ((wrap64 ((a0.size : Int) - ((rdOf ByteArray.empty t269 (ji4)).size : Int))) - 1)) : Int).toNat, 0)) else (none)) else (none)) else (none)) else (none)) = some (r1, r2) := by first | (rw [hji4] at H; exact H) | (simp only [hji4] at H ⊢; exact H)
    (try rw [hji4] at A2)
    have hji4w : (IntKind.i64.wrap ((t269.length : Int) - 1)) = ji4 := (i64_w _).trans hji4
    by_cases c5 : 0 ≤ (ji4)
    · rw [if_pos c5] at H
      have c5b0 : decide (0 ≤ (ji4)) = true := decide_eq_true c5
      clear c5
      by_cases c6 : (ji4) < (t269.length : Int)
      · rw [if_pos c6] at H
        have c6b0 : decide ((ji4) < (t269.length : Int)) = true := decide_eq_true c6
        clear c6
        obtain ⟨ji7, hji7⟩ : ∃ j_ : Int, (wrap64 ((wrap64 ((a0.size : Int) - ((rdOf ByteArray.empty t269 (ji4)).size : Int))) - 1)) = j_ := ⟨_, rfl⟩
        replace H : (if 0 ≤ (ji7) then (if (ji7) ≤ (a0.size : Int) then (some (a0.extract 0 ((ji7) : Int).toNat, 0)) else (none)) else (none)) = some (r1, r2) := by first | (rw [hji7] at H; exact H) | (simp only [hji7] at H ⊢; exact H)
        (try rw [hji7] at A2)
        have hji7w : (IntKind.i64.wrap ((wrap64 ((a0.size : Int) - ((rdOf ByteArray.empty t269 (ji4)).size : Int))) - 1)) = ji7 := (i64_w _).trans hji7
        by_cases c8 : 0 ≤ (ji7)
        · rw [if_pos c8] at H
          have c8b0 := eq_true c8
          have c8b1 : decide (0 ≤ (ji7)) = true := decide_eq_true c8
          clear c8
          by_cases c9 : (ji7) ≤ (a0.size : Int)
          · rw [if_pos c9] at H
            have c9b0 := eq_true c9
            have c9b1 : decide ((ji7) ≤ (a0.size : Int)) = true := decide_eq_true c9
            clear c9
            simp only [Option.some.injEq, Prod.mk.injEq] at H
            obtain ⟨rfl, rfl⟩ := H
            go_enter Tryd.func26, Tryd.ntmps26
            go_wp2_with (first | ((with_reducible refine gate_callee (f := 22) rfl ?_); refine goesL_ (some 8) rfl rfl Tryd.func22 (by kernel_rfl) rfl #[.string a0] rfl (by (try simp only [List.map_toArray, List.map_cons, List.map_nil]); first | done | rfl | (simp only [List.length_drop, List.length_take]; rfl)) ?_; (with_reducible refine (path_Split.calls k a0 t269 t270 _ A2.out).mono ?_); rintro e w10 ⟨v271, rfl, ho0, hb⟩; refine ⟨_, rfl, ?_⟩; have n0_ := Aside0.mk (Kd.R_lower ho0 (below_size (by repeat (first | (with_reducible first | exact HB.out | apply below_alloc | apply pw_below_drewN | apply below_drew1) | exact HB.out)))); have n1_ := Aside0.mk (below_step (by repeat (first | (with_reducible first | exact HB.out | apply below_alloc | apply pw_below_drewN | apply below_drew1) | exact HB.out)) hb); clear HB; have HO272 := n0_; have HB := n1_; clear n0_ n1_; (try clear hb); (try clear hb2); (try clear hk); (try clear hi); (try clear ho0); obtain ⟨Ao11, co11, eo11⟩ := Kd.R_slice HO272.out; subst eo11; have p273 : 0 ≤ ((ji4) : Int) := of_decide_eq_true (by first | (with_reducible assumption) | assumption); have q273 : (ji4) < (t269.length : Int) := of_decide_eq_true (by first | (with_reducible assumption) | assumption); obtain ⟨ad273, e273, hx273_0⟩ := Kd.at_string (Kd.R_reads' HO272.out).2.2 (ji4) p273 q273; cases e273; replace p273 := eq_true p273; replace q273 := eq_true q273))
            go_ret2
            exact ⟨by first | rfl | (simp [errW_none, errW_some] <;> rfl) | (simp only [← hji4, ← hji7]; first | rfl | (simp [errW_none, errW_some] <;> rfl)) | (simp [*, errW_none, errW_some] <;> rfl), by repeat (first | (with_reducible first | exact HB.out | apply below_alloc | apply pw_below_drewN | apply below_drew1) | exact HB.out)⟩
          · rw [if_neg c9] at H
            exact absurd H (by simp)
        · rw [if_neg c8] at H
          exact absurd H (by simp)
      · rw [if_neg c6] at H
        exact absurd H (by simp)
    · rw [if_neg c5] at H
      exact absurd H (by simp)
  · rw [if_neg c3] at H
    have c3b0 : (t270 == 0) = false := beq_eq_false_iff_ne.mpr c3
    have c3b1 : (t270 != 0) = true := bne_iff_ne.mpr c3
    simp only [Option.some.injEq, Prod.mk.injEq] at H
    obtain ⟨rfl, rfl⟩ := H
    go_enter Tryd.func26, Tryd.ntmps26
    go_wp2_with (first | ((with_reducible refine gate_callee (f := 22) rfl ?_); refine goesL_ (some 8) rfl rfl Tryd.func22 (by kernel_rfl) rfl #[.string a0] rfl (by (try simp only [List.map_toArray, List.map_cons, List.map_nil]); first | done | rfl | (simp only [List.length_drop, List.length_take]; rfl)) ?_; (with_reducible refine (path_Split.calls k a0 t269 t270 _ A2.out).mono ?_); rintro e w12 ⟨v271, rfl, ho0, hb⟩; refine ⟨_, rfl, ?_⟩; have n0_ := Aside0.mk (Kd.R_lower ho0 (below_size (by repeat (first | (with_reducible first | exact HB.out | apply below_alloc | apply pw_below_drewN | apply below_drew1) | exact HB.out)))); have n1_ := Aside0.mk (below_step (by repeat (first | (with_reducible first | exact HB.out | apply below_alloc | apply pw_below_drewN | apply below_drew1) | exact HB.out)) hb); clear HB; have HO272 := n0_; have HB := n1_; clear n0_ n1_; (try clear hb); (try clear hb2); (try clear hk); (try clear hi); (try clear ho0)))
    go_ret2
    exact ⟨by first | rfl | (simp [errW_none, errW_some] <;> rfl) | (simp [*, errW_none, errW_some] <;> rfl), by repeat (first | (with_reducible first | exact HB.out | apply below_alloc | apply pw_below_drewN | apply below_drew1) | exact HB.out)⟩

/-! ### stockyardlaw09_FiletypeNeighbour: function 8 -/
def stockyardlaw09_FiletypeNeighbour.j0 : Nat → ByteArray → ByteArray → Bool → Option (Bool)
  | 0, _, _, _ => none
  | k + 1, x0, x1, x26 => if x26 = true then ((stockyardlaw09_awake.f k).bind fun t276 => (some t276)) else ((path_Parent.f k x0).bind fun bt277 => ((filetype_Follow.f k x0 x1).bind fun bt279 => (if bt277.2 = 0 then (if bt277.1.size + 1 ≤ 9223372036854775807 then (if (bt277.1 ++ (⟨#[47]⟩ : ByteArray)).size + x1.size ≤ 9223372036854775807 then (if bt279.1.toList = ((bt277.1 ++ (⟨#[47]⟩ : ByteArray)) ++ x1).toList then (if bt279.2 = 0 then ((stockyardlaw09_awake.f k).bind fun t281 => (some t281)) else (some false)) else (some false)) else (none)) else (none)) else (some false))))
def stockyardlaw09_FiletypeNeighbour.f (k : Nat) (a0 : ByteArray) (a1 : ByteArray) : Option (Bool) := if (a0.size : Int) > 300 then (stockyardlaw09_FiletypeNeighbour.j0 k a0 a1 true) else (if (a1.size : Int) > 100 then (stockyardlaw09_FiletypeNeighbour.j0 k a0 a1 true) else ((path_Valid.f k a0).bind fun t274 => (if t274 = true then ((path_Component.f k a1).bind fun t275 => (stockyardlaw09_FiletypeNeighbour.j0 k a0 a1 (!t275))) else (stockyardlaw09_FiletypeNeighbour.j0 k a0 a1 true))))
theorem stockyardlaw09_FiletypeNeighbour.mono_l : ∀ k, (∀ y0 y1 y2, LeO (stockyardlaw09_FiletypeNeighbour.j0 k y0 y1 y2) (stockyardlaw09_FiletypeNeighbour.j0 (k + 1) y0 y1 y2))
  | 0 => fun _ _ _ r h => by simp [stockyardlaw09_FiletypeNeighbour.j0] at h
  | k + 1 => by
    have ih0 := stockyardlaw09_FiletypeNeighbour.mono_l k
    · intro y0 y1 y2
      unfold stockyardlaw09_FiletypeNeighbour.j0
      repeat' first
      | (with_reducible exact ih0 _ _ _)
      | (with_reducible exact filetype_Follow.mono _ _ _)
      | (with_reducible exact path_Component.mono _ _)
      | (with_reducible exact path_Parent.mono _ _)
      | (with_reducible exact path_Valid.mono _ _)
      | (with_reducible exact stockyardlaw09_awake.mono _)
      | (with_reducible exact LeO.refl _)
      | (with_reducible exact LeO.none _)
      | (with_reducible refine LeO.ite ?_ ?_)
      | (with_reducible refine LeO.bind ?_ (fun _ => ?_))
      | exact ih0 _ _ _
      | exact filetype_Follow.mono _ _ _
      | exact path_Component.mono _ _
      | exact path_Parent.mono _ _
      | exact path_Valid.mono _ _
      | exact stockyardlaw09_awake.mono _
      | exact LeO.none _
      | refine LeO.ite ?_ ?_
      | refine LeO.bind ?_ (fun _ => ?_)
theorem stockyardlaw09_FiletypeNeighbour.mono : ∀ a0 a1 k, LeO (stockyardlaw09_FiletypeNeighbour.f k a0 a1) (stockyardlaw09_FiletypeNeighbour.f (k + 1) a0 a1) := by
  intro a0 a1 k
  have ih0 := stockyardlaw09_FiletypeNeighbour.mono_l k
  unfold stockyardlaw09_FiletypeNeighbour.f
  repeat' first
      | (with_reducible exact ih0 _ _ _)
      | (with_reducible exact filetype_Follow.mono _ _ _)
      | (with_reducible exact path_Component.mono _ _)
      | (with_reducible exact path_Parent.mono _ _)
      | (with_reducible exact path_Valid.mono _ _)
      | (with_reducible exact stockyardlaw09_awake.mono _)
      | (with_reducible exact LeO.refl _)
      | (with_reducible exact LeO.none _)
      | (with_reducible refine LeO.ite ?_ ?_)
      | (with_reducible refine LeO.bind ?_ (fun _ => ?_))
      | exact ih0 _ _ _
      | exact filetype_Follow.mono _ _ _
      | exact path_Component.mono _ _
      | exact path_Parent.mono _ _
      | exact path_Valid.mono _ _
      | exact stockyardlaw09_awake.mono _
      | exact LeO.none _
      | refine LeO.ite ?_ ?_
      | refine LeO.bind ?_ (fun _ => ?_)
set_option maxHeartbeats 8000000 in
set_option maxRecDepth 100000 in
theorem stockyardlaw09_FiletypeNeighbour.calls (k : Nat) (a0 : ByteArray) (a1 : ByteArray) (r : Bool) (w : World) (h : stockyardlaw09_FiletypeNeighbour.f k a0 a1 = some r) :
    Calls Tryd.prog 8 #[.string a0, .string a1] w fun e w' => e = .returned (.bool r) ∧ Below w.heap.size w w' := by
  have HB := Aside0.mk (Below.refl w.heap.size w)
  have H : (if (a0.size : Int) > 300 then (stockyardlaw09_FiletypeNeighbour.j0 k a0 a1 true) else (if (a1.size : Int) > 100 then (stockyardlaw09_FiletypeNeighbour.j0 k a0 a1 true) else ((path_Valid.f k a0).bind fun t274 => (if t274 = true then ((path_Component.f k a1).bind fun t275 => (stockyardlaw09_FiletypeNeighbour.j0 k a0 a1 (!t275))) else (stockyardlaw09_FiletypeNeighbour.j0 k a0 a1 true))))) = some r := h
  clear h
  have HC3 := Aside0.mk H
  clear H
  go_enter Tryd.func8, Tryd.ntmps8
  go_upto_region 1 with (fail)
  go_cut [26] (fun v26 wc => ∃ (kq : Nat) (x26_2 : Bool), v26 = .bool x26_2 ∧ Aside0 (stockyardlaw09_FiletypeNeighbour.j0 kq a0 a1 x26_2 = some r) ∧ Aside0 (kq ≤ k) ∧ Aside0 (Below w.heap.size w wc))
  case first =>
    have H := HC3.out
    clear HC3
    by_cases c4 : (a0.size : Int) > 300
    · rw [if_pos c4] at H
      have c4b0 : decide (300 < (a0.size : Int)) = true := decide_eq_true c4
      have c4b1 : decide (300 < a0.size) = true := decide_eq_true (by omega)
      clear c4
      (first | rw [c4b0] | (simp only [i64_w, i32_w]; rw [c4b0]) | skip)
      have H' := Aside0.mk H
      clear H
      go_wp2
      go_meet
      case rel => exact ⟨_, (true), (by first | rfl | (simp; done) | (simp [*]; done)), H', ⟨by first | omega | exact Nat.le_refl _⟩, ⟨by repeat (first | (with_reducible first | exact HB.out | apply below_alloc | apply pw_below_drewN | apply below_drew1) | exact HB.out)⟩⟩
    · rw [if_neg c4] at H
      have c4b0 : decide (300 < (a0.size : Int)) = false := decide_eq_false c4
      have c4b1 : decide (300 < a0.size) = false := decide_eq_false (by omega)
      clear c4
      (first | rw [c4b0] | (simp only [i64_w, i32_w]; rw [c4b0]) | skip)
      by_cases c5 : (a1.size : Int) > 100
      · rw [if_pos c5] at H
        have c5b0 : decide (100 < (a1.size : Int)) = true := decide_eq_true c5
        have c5b1 : decide (100 < a1.size) = true := decide_eq_true (by omega)
        clear c5
        have H' := Aside0.mk H
        clear H
        go_wp2
        go_meet
        case rel => exact ⟨_, (true), (by first | rfl | (simp; done) | (simp [*]; done)), H', ⟨by first | omega | exact Nat.le_refl _⟩, ⟨by repeat (first | (with_reducible first | exact HB.out | apply below_alloc | apply pw_below_drewN | apply below_drew1) | exact HB.out)⟩⟩
      · rw [if_neg c5] at H
        have c5b0 : decide (100 < (a1.size : Int)) = false := decide_eq_false c5
        have c5b1 : decide (100 < a1.size) = false := decide_eq_false (by omega)
        clear c5
        replace H := Option.bind_eq_some_iff.mp H
        obtain ⟨t274, A60, H⟩ := H
        replace H : (if t274 = true then ((path_Component.f k a1).bind fun t275 => (stockyardlaw09_FiletypeNeighbour.j0 k a0 a1 (!t275))) else (stockyardlaw09_FiletypeNeighbour.j0 k a0 a1 true)) = some r := H
        have A6 := Aside0.mk A60
        clear A60
        by_cases c7 : t274 = true
        · subst c7
          have H1 : ((path_Component.f k a1).bind fun t275 => (stockyardlaw09_FiletypeNeighbour.j0 k a0 a1 (!t275))) = some r := by rw [if_pos rfl] at H; exact H
          clear H
          have H := H1
          clear H1
          replace H := Option.bind_eq_some_iff.mp H
          obtain ⟨t275, A80, H⟩ := H
          replace H : (stockyardlaw09_FiletypeNeighbour.j0 k a0 a1 (!t275)) = some r := H
          have A8 := Aside0.mk A80
          clear A80
          have H' := Aside0.mk H
          clear H
          go_wp2_with (first | (go_at_call 25; (with_reducible refine (path_Valid.calls k a0 true _ A6.out).mono ?_); rintro e w9 ⟨rfl, hb⟩; have n0_ := Aside0.mk (below_step (by repeat (first | (with_reducible first | exact HB.out | apply below_alloc | apply pw_below_drewN | apply below_drew1) | exact HB.out)) hb); clear HB; have HB := n0_; clear n0_; (try clear hb); (try clear hb2); (try clear hk); (try clear hi)) | (go_at_call 23; (with_reducible refine (path_Component.calls k a1 t275 _ A8.out).mono ?_); rintro e w' ⟨rfl, ⟨nd, rfl⟩⟩))
          go_meet
          case rel => exact ⟨_, (!t275), (by first | rfl | (simp; done) | (simp [*]; done)), H', ⟨by first | omega | exact Nat.le_refl _⟩, ⟨by repeat (first | (with_reducible first | exact HB.out | apply below_alloc | apply pw_below_drewN | apply below_drew1) | exact HB.out)⟩⟩
        · replace c7 := Bool.eq_false_iff.mpr c7
          subst c7
          have H1 : (stockyardlaw09_FiletypeNeighbour.j0 k a0 a1 true) = some r := by rw [if_neg (show ¬ (false = true) by decide)] at H; exact H
          clear H
          have H := H1
          clear H1
          have H' := Aside0.mk H
          clear H
          go_wp2_with (first | (go_at_call 25; (with_reducible refine (path_Valid.calls k a0 false _ A6.out).mono ?_); rintro e w10 ⟨rfl, hb⟩; have n0_ := Aside0.mk (below_step (by repeat (first | (with_reducible first | exact HB.out | apply below_alloc | apply pw_below_drewN | apply below_drew1) | exact HB.out)) hb); clear HB; have HB := n0_; clear n0_; (try clear hb); (try clear hb2); (try clear hk); (try clear hi)))
          go_meet
          case rel => exact ⟨_, (true), (by first | rfl | (simp; done) | (simp [*]; done)), H', ⟨by first | omega | exact Nat.le_refl _⟩, ⟨by repeat (first | (with_reducible first | exact HB.out | apply below_alloc | apply pw_below_drewN | apply below_drew1) | exact HB.out)⟩⟩
  case rest =>
    clear HC3
    try clear p2
    try clear c4
    try clear c4b0
    try clear c4b1
    try clear c5
    try clear c5b0
    try clear c5b1
    try clear c7
    try clear c8
    obtain ⟨kq, x26_2, rfl, HA, HJ2, HB⟩ := hcut
    cases kq with
    | zero => exact absurd HA.out (by simp [stockyardlaw09_FiletypeNeighbour.j0])
    | succ kj2 =>
      have H := HA.out
      clear HA
      simp only [stockyardlaw09_FiletypeNeighbour.j0] at H
      by_cases c11 : x26_2 = true
      · subst c11
        have H1 : ((stockyardlaw09_awake.f kj2).bind fun t276 => (some t276)) = some r := by rw [if_pos rfl] at H; exact H
        clear H
        have H := H1
        clear H1
        replace H := Option.bind_eq_some_iff.mp H
        obtain ⟨t276, A120, H⟩ := H
        replace H : (some t276) = some r := H
        have A12 := Aside0.mk A120
        clear A120
        obtain rfl := Option.some.inj H
        go_wp2_with (first | ((with_reducible refine gate_callee (f := 16) rfl ?_); refine goesL_ (some 27) rfl rfl Tryd.func16 (by kernel_rfl) rfl #[] rfl (by (try simp only [List.map_toArray, List.map_cons, List.map_nil]); first | done | rfl | (simp only [List.length_drop, List.length_take]; rfl)) ?_; (with_reducible refine (stockyardlaw09_awake.calls kj2  t276 _ A12.out).mono ?_); rintro e w13 ⟨rfl, hb⟩; refine ⟨_, rfl, ?_⟩; have n0_ := Aside0.mk (below_step (by repeat (first | (with_reducible first | exact HB.out | apply below_alloc | apply pw_below_drewN | apply below_drew1) | exact HB.out)) hb); clear HB; have HB := n0_; clear n0_; (try clear hb); (try clear hb2); (try clear hk); (try clear hi)))
        go_ret
        exact ⟨by first | rfl | (simp [errW_none, errW_some] <;> rfl) | (simp [*, errW_none, errW_some] <;> rfl), by repeat (first | (with_reducible first | exact HB.out | apply below_alloc | apply pw_below_drewN | apply below_drew1) | exact HB.out)⟩
      · replace c11 := Bool.eq_false_iff.mpr c11
        subst c11
        have H1 : ((path_Parent.f kj2 a0).bind fun bt277 => ((filetype_Follow.f kj2 a0 a1).bind fun bt279 => (if bt277.2 = 0 then (if bt277.1.size + 1 ≤ 9223372036854775807 then (if (bt277.1 ++ (⟨#[47]⟩ : ByteArray)).size + a1.size ≤ 9223372036854775807 then (if bt279.1.toList = ((bt277.1 ++ (⟨#[47]⟩ : ByteArray)) ++ a1).toList then (if bt279.2 = 0 then ((stockyardlaw09_awake.f kj2).bind fun t281 => (some t281)) else (some false)) else (some false)) else (none)) else (none)) else (some false)))) = some r := by rw [if_neg (show ¬ (false = true) by decide)] at H; exact H
        clear H
        have H := H1
        clear H1
        replace H := Option.bind_eq_some_iff.mp H
        obtain ⟨⟨t277, t278⟩, A140, H⟩ := H
        replace H : ((filetype_Follow.f kj2 a0 a1).bind fun bt279 => (if t278 = 0 then (if t277.size + 1 ≤ 9223372036854775807 then (if (t277 ++ (⟨#[47]⟩ : ByteArray)).size + a1.size ≤ 9223372036854775807 then (if bt279.1.toList = ((t277 ++ (⟨#[47]⟩ : ByteArray)) ++ a1).toList then (if bt279.2 = 0 then ((stockyardlaw09_awake.f kj2).bind fun t281 => (some t281)) else (some false)) else (some false)) else (none)) else (none)) else (some false))) = some r := H
        have A14 := Aside0.mk A140
        clear A140
        replace H := Option.bind_eq_some_iff.mp H
        obtain ⟨⟨t279, t280⟩, A150, H⟩ := H
        replace H : (if t278 = 0 then (if t277.size + 1 ≤ 9223372036854775807 then (if (t277 ++ (⟨#[47]⟩ : ByteArray)).size + a1.size ≤ 9223372036854775807 then (if t279.toList = ((t277 ++ (⟨#[47]⟩ : ByteArray)) ++ a1).toList then (if t280 = 0 then ((stockyardlaw09_awake.f kj2).bind fun t281 => (some t281)) else (some false)) else (some false)) else (none)) else (none)) else (some false)) = some r := H
        have A15 := Aside0.mk A150
        clear A150
        by_cases c16 : t278 = 0
        · rw [if_pos c16] at H
          have c16b0 : (t278 == 0) = true := beq_iff_eq.mpr c16
          have c16b1 : (t278 != 0) = false := bne_eq_false_iff_eq.mpr c16
          clear c16
          by_cases c17 : t277.size + 1 ≤ 9223372036854775807
          · rw [if_pos c17] at H
            have c17b0 := eq_true c17
            have c17b1 : decide (t277.size + 1 ≤ 9223372036854775807) = true := decide_eq_true c17
            try have c17b2 : (9223372036854775807 < t277.size + 1) = False := eq_false (Nat.not_lt.2 c17)
            by_cases c18 : (t277 ++ (⟨#[47]⟩ : ByteArray)).size + a1.size ≤ 9223372036854775807
            · rw [if_pos c18] at H
              have c18b0 := eq_true c18
              have c18b1 : decide ((t277 ++ (⟨#[47]⟩ : ByteArray)).size + a1.size ≤ 9223372036854775807) = true := decide_eq_true c18
              have c18b5 : ((t277.size + 1) + a1.size ≤ 9223372036854775807) = True := eq_true (by have q_ := of_decide_eq_true c18b1; (repeat rw [ByteArray.size_append] at q_); exact q_)
              have c18b6 : decide ((t277.size + 1) + a1.size ≤ 9223372036854775807) = true := decide_eq_true (by have q_ := of_decide_eq_true c18b1; (repeat rw [ByteArray.size_append] at q_); exact q_)
              try have c18b7 : (9223372036854775807 < (t277.size + 1) + a1.size) = False := eq_false (Nat.not_lt.2 (by have q_ := of_decide_eq_true c18b1; (repeat rw [ByteArray.size_append] at q_); exact q_))
              try have c18b2 : (9223372036854775807 < (t277 ++ (⟨#[47]⟩ : ByteArray)).size + a1.size) = False := eq_false (Nat.not_lt.2 c18)
              by_cases c19 : t279.toList = ((t277 ++ (⟨#[47]⟩ : ByteArray)) ++ a1).toList
              · rw [if_pos c19] at H
                have c19b0 : (t279.toList == ((t277 ++ (⟨#[47]⟩ : ByteArray)) ++ a1).toList) = true := beq_iff_eq.mpr c19
                have c19b1 : (t279.toList != ((t277 ++ (⟨#[47]⟩ : ByteArray)) ++ a1).toList) = false := bne_eq_false_iff_eq.mpr c19
                clear c19
                by_cases c20 : t280 = 0
                · rw [if_pos c20] at H
                  have c20b0 : (t280 == 0) = true := beq_iff_eq.mpr c20
                  have c20b1 : (t280 != 0) = false := bne_eq_false_iff_eq.mpr c20
                  clear c20
                  replace H := Option.bind_eq_some_iff.mp H
                  obtain ⟨t281, A210, H⟩ := H
                  replace H : (some t281) = some r := H
                  have A21 := Aside0.mk A210
                  clear A210
                  obtain rfl := Option.some.inj H
                  go_wp2_with (first | ((with_reducible refine gate_callee (f := 26) rfl ?_); refine goesL_ (some 30) rfl rfl Tryd.func26 (by kernel_rfl) rfl #[.string a0] rfl (by (try simp only [List.map_toArray, List.map_cons, List.map_nil]); first | done | rfl | (simp only [List.length_drop, List.length_take]; rfl)) ?_; (with_reducible refine (path_Parent.calls kj2 a0 t277 t278 _ A14.out).mono ?_); rintro e w22 ⟨rfl, hb⟩; refine ⟨_, rfl, ?_⟩; have n0_ := Aside0.mk (below_step (by repeat (first | (with_reducible first | exact HB.out | apply below_alloc | apply pw_below_drewN | apply below_drew1) | exact HB.out)) hb); clear HB; have HB := n0_; clear n0_; (try clear hb); (try clear hb2); (try clear hk); (try clear hi)) | ((with_reducible refine gate_callee (f := 21) rfl ?_); refine goesL_ (some 36) rfl rfl Tryd.func21 (by kernel_rfl) rfl #[.string a0, .string a1] rfl (by (try simp only [List.map_toArray, List.map_cons, List.map_nil]); first | done | rfl | (simp only [List.length_drop, List.length_take]; rfl)) ?_; (with_reducible refine (filetype_Follow.calls kj2 a0 a1 t279 t280 _ A15.out).mono ?_); rintro e w23 ⟨rfl, hb⟩; refine ⟨_, rfl, ?_⟩; have n0_ := Aside0.mk (below_step (by repeat (first | (with_reducible first | exact HB.out | apply below_alloc | apply pw_below_drewN | apply below_drew1) | exact HB.out)) hb); clear HB; have HB := n0_; clear n0_; (try clear hb); (try clear hb2); (try clear hk); (try clear hi)) | (go_at_call 16; (with_reducible refine (stockyardlaw09_awake.calls kj2  t281 _ A21.out).mono ?_); rintro e w24 ⟨rfl, hb⟩; have n0_ := Aside0.mk (below_step (by repeat (first | (with_reducible first | exact HB.out | apply below_alloc | apply pw_below_drewN | apply below_drew1) | exact HB.out)) hb); clear HB; have HB := n0_; clear n0_; (try clear hb); (try clear hb2); (try clear hk); (try clear hi)))
                  go_ret
                  exact ⟨by first | rfl | (simp [errW_none, errW_some] <;> rfl) | (simp [*, errW_none, errW_some] <;> rfl), by repeat (first | (with_reducible first | exact HB.out | apply below_alloc | apply pw_below_drewN | apply below_drew1) | exact HB.out)⟩
                · rw [if_neg c20] at H
                  have c20b0 : (t280 == 0) = false := beq_eq_false_iff_ne.mpr c20
                  have c20b1 : (t280 != 0) = true := bne_iff_ne.mpr c20
                  obtain rfl := Option.some.inj H
                  go_wp2_with (first | ((with_reducible refine gate_callee (f := 26) rfl ?_); refine goesL_ (some 30) rfl rfl Tryd.func26 (by kernel_rfl) rfl #[.string a0] rfl (by (try simp only [List.map_toArray, List.map_cons, List.map_nil]); first | done | rfl | (simp only [List.length_drop, List.length_take]; rfl)) ?_; (with_reducible refine (path_Parent.calls kj2 a0 t277 t278 _ A14.out).mono ?_); rintro e w25 ⟨rfl, hb⟩; refine ⟨_, rfl, ?_⟩; have n0_ := Aside0.mk (below_step (by repeat (first | (with_reducible first | exact HB.out | apply below_alloc | apply pw_below_drewN | apply below_drew1) | exact HB.out)) hb); clear HB; have HB := n0_; clear n0_; (try clear hb); (try clear hb2); (try clear hk); (try clear hi)) | ((with_reducible refine gate_callee (f := 21) rfl ?_); refine goesL_ (some 36) rfl rfl Tryd.func21 (by kernel_rfl) rfl #[.string a0, .string a1] rfl (by (try simp only [List.map_toArray, List.map_cons, List.map_nil]); first | done | rfl | (simp only [List.length_drop, List.length_take]; rfl)) ?_; (with_reducible refine (filetype_Follow.calls kj2 a0 a1 t279 t280 _ A15.out).mono ?_); rintro e w26 ⟨rfl, hb⟩; refine ⟨_, rfl, ?_⟩; have n0_ := Aside0.mk (below_step (by repeat (first | (with_reducible first | exact HB.out | apply below_alloc | apply pw_below_drewN | apply below_drew1) | exact HB.out)) hb); clear HB; have HB := n0_; clear n0_; (try clear hb); (try clear hb2); (try clear hk); (try clear hi)))
                  go_ret
                  exact ⟨by first | rfl | (simp [errW_none, errW_some] <;> rfl) | (simp [*, errW_none, errW_some] <;> rfl), by repeat (first | (with_reducible first | exact HB.out | apply below_alloc | apply pw_below_drewN | apply below_drew1) | exact HB.out)⟩
              · rw [if_neg c19] at H
                have c19b0 : (t279.toList == ((t277 ++ (⟨#[47]⟩ : ByteArray)) ++ a1).toList) = false := beq_eq_false_iff_ne.mpr c19
                have c19b1 : (t279.toList != ((t277 ++ (⟨#[47]⟩ : ByteArray)) ++ a1).toList) = true := bne_iff_ne.mpr c19
                obtain rfl := Option.some.inj H
                go_wp2_with (first | ((with_reducible refine gate_callee (f := 26) rfl ?_); refine goesL_ (some 30) rfl rfl Tryd.func26 (by kernel_rfl) rfl #[.string a0] rfl (by (try simp only [List.map_toArray, List.map_cons, List.map_nil]); first | done | rfl | (simp only [List.length_drop, List.length_take]; rfl)) ?_; (with_reducible refine (path_Parent.calls kj2 a0 t277 t278 _ A14.out).mono ?_); rintro e w27 ⟨rfl, hb⟩; refine ⟨_, rfl, ?_⟩; have n0_ := Aside0.mk (below_step (by repeat (first | (with_reducible first | exact HB.out | apply below_alloc | apply pw_below_drewN | apply below_drew1) | exact HB.out)) hb); clear HB; have HB := n0_; clear n0_; (try clear hb); (try clear hb2); (try clear hk); (try clear hi)) | ((with_reducible refine gate_callee (f := 21) rfl ?_); refine goesL_ (some 36) rfl rfl Tryd.func21 (by kernel_rfl) rfl #[.string a0, .string a1] rfl (by (try simp only [List.map_toArray, List.map_cons, List.map_nil]); first | done | rfl | (simp only [List.length_drop, List.length_take]; rfl)) ?_; (with_reducible refine (filetype_Follow.calls kj2 a0 a1 t279 t280 _ A15.out).mono ?_); rintro e w28 ⟨rfl, hb⟩; refine ⟨_, rfl, ?_⟩; have n0_ := Aside0.mk (below_step (by repeat (first | (with_reducible first | exact HB.out | apply below_alloc | apply pw_below_drewN | apply below_drew1) | exact HB.out)) hb); clear HB; have HB := n0_; clear n0_; (try clear hb); (try clear hb2); (try clear hk); (try clear hi)))
                go_ret
                exact ⟨by first | rfl | (simp [errW_none, errW_some] <;> rfl) | (simp [*, errW_none, errW_some] <;> rfl), by repeat (first | (with_reducible first | exact HB.out | apply below_alloc | apply pw_below_drewN | apply below_drew1) | exact HB.out)⟩
            · rw [if_neg c18] at H
              exact absurd H (by simp)
          · rw [if_neg c17] at H
            exact absurd H (by simp)
        · rw [if_neg c16] at H
          have c16b0 : (t278 == 0) = false := beq_eq_false_iff_ne.mpr c16
          have c16b1 : (t278 != 0) = true := bne_iff_ne.mpr c16
          obtain rfl := Option.some.inj H
          go_wp2_with (first | ((with_reducible refine gate_callee (f := 26) rfl ?_); refine goesL_ (some 30) rfl rfl Tryd.func26 (by kernel_rfl) rfl #[.string a0] rfl (by (try simp only [List.map_toArray, List.map_cons, List.map_nil]); first | done | rfl | (simp only [List.length_drop, List.length_take]; rfl)) ?_; (with_reducible refine (path_Parent.calls kj2 a0 t277 t278 _ A14.out).mono ?_); rintro e w29 ⟨rfl, hb⟩; refine ⟨_, rfl, ?_⟩; have n0_ := Aside0.mk (below_step (by repeat (first | (with_reducible first | exact HB.out | apply below_alloc | apply pw_below_drewN | apply below_drew1) | exact HB.out)) hb); clear HB; have HB := n0_; clear n0_; (try clear hb); (try clear hb2); (try clear hk); (try clear hi)) | ((with_reducible refine gate_callee (f := 21) rfl ?_); refine goesL_ (some 36) rfl rfl Tryd.func21 (by kernel_rfl) rfl #[.string a0, .string a1] rfl (by (try simp only [List.map_toArray, List.map_cons, List.map_nil]); first | done | rfl | (simp only [List.length_drop, List.length_take]; rfl)) ?_; (with_reducible refine (filetype_Follow.calls kj2 a0 a1 t279 t280 _ A15.out).mono ?_); rintro e w30 ⟨rfl, hb⟩; refine ⟨_, rfl, ?_⟩; have n0_ := Aside0.mk (below_step (by repeat (first | (with_reducible first | exact HB.out | apply below_alloc | apply pw_below_drewN | apply below_drew1) | exact HB.out)) hb); clear HB; have HB := n0_; clear n0_; (try clear hb); (try clear hb2); (try clear hk); (try clear hi)))
          go_ret
          exact ⟨by first | rfl | (simp [errW_none, errW_some] <;> rfl) | (simp [*, errW_none, errW_some] <;> rfl), by repeat (first | (with_reducible first | exact HB.out | apply below_alloc | apply pw_below_drewN | apply below_drew1) | exact HB.out)⟩

/-! ### strings_Count: function 64: an external -/
def strings_Count.f (a0 : ByteArray) (a1 : ByteArray) : Option (Int) := if a1.size = 1 then some ((Lib.countByte a0.data.toList (bt a1 0).toNat.toUInt8 : Nat) : Int) else none
theorem strings_Count.calls (a0 : ByteArray) (a1 : ByteArray) (r : Int) (w : World) (h : strings_Count.f a0 a1 = some r) :
    Calls Tryd.prog 64 #[.string a0, .string a1] w fun e w' => e = .returned (.int .i64 r) ∧ Drawn0 w w' := by
  have hs : a1.size = 1 := by
    unfold strings_Count.f at h
    split at h
    · assumption
    · cases h
  obtain ⟨c, rfl⟩ : ∃ c, a1 = ⟨#[c]⟩ := by
    obtain ⟨⟨l⟩⟩ := a1
    match l, hs with
    | [c], _ => exact ⟨c, rfl⟩
  unfold strings_Count.f at h
  rw [if_pos hs] at h
  obtain rfl := Option.some.inj h
  have hc : (bt (⟨#[c]⟩ : ByteArray) 0).toNat.toUInt8 = c := by
    show ((c.toNat : Int)).toNat.toUInt8 = c
    simp
  rw [hc]
  refine (Tryd.strings_Count_one a0 c w).mono ?_
  rintro e w' ⟨rfl, rfl⟩
  exact ⟨rfl, Drawn0.refl _⟩

-- NOT PRINTED: function 82 (abi_NoEscape)

-- NOT PRINTED: function 77 (strings_Builder_copyCheck)

-- NOT PRINTED: function 83 (bytealg_MakeNoZero)

-- NOT PRINTED: function 78 (strings_Builder_grow)

-- NOT PRINTED: function 66 (strings_Builder_Grow)

-- NOT PRINTED: function 67 (strings_Builder_WriteString)

-- NOT PRINTED: function 68 (strings_Builder_String)

-- NOT PRINTED: function 80 (utf8_decodeRuneInStringSlow)

-- NOT PRINTED: function 71 (utf8_DecodeRuneInString)

-- NOT PRINTED: function 59 (strings_Replace)

-- NOT PRINTED: function 48 (strings_ReplaceAll)

/-! ### filetype_fault: function 57 -/
def filetype_fault.j0 : Nat → List Int → Int → Bool → Int → Bool → Bool → Bool → Option (Bool × Int)
  | 0, _, _, _, _, _, _, _ => none
  | k + 1, x1, x2, x19, x284000, x284001, x284002, x284003 => if x19 = true then (some (false, 93)) else (if x284000 = 3 then ((filetype_link.f x1).bind fun t285 => (if t285 = true then (if x284000 = 1 then (some ((x2 == 2), 0)) else (some (false, 0))) else (some (false, 91)))) else (if x284000 = 1 then (some ((x2 == 2), 0)) else (some (false, 0))))
def filetype_fault.f (k : Nat) (a0_0 : Int) (a0_1 : Bool) (a0_2 : Bool) (a0_3 : Bool) (l1 : List Int) (a2 : Int) : Option (Bool × Int) := (filetype_Check.f a0_0 a0_1 a0_2 a0_3).bind fun t284 => (if t284 = 0 then (if a2 = 1 then (filetype_fault.j0 k l1 a2 false a0_0 a0_1 a0_2 a0_3) else (filetype_fault.j0 k l1 a2 (a2 != 2) a0_0 a0_1 a0_2 a0_3)) else (some (false, t284)))
theorem filetype_fault.mono_l : ∀ k, (∀ y0 y1 y2 y3 y4 y5 y6, LeO (filetype_fault.j0 k y0 y1 y2 y3 y4 y5 y6) (filetype_fault.j0 (k + 1) y0 y1 y2 y3 y4 y5 y6))
  | 0 => fun _ _ _ _ _ _ _ r h => by simp [filetype_fault.j0] at h
  | k + 1 => by
    have ih0 := filetype_fault.mono_l k
    · intro y0 y1 y2 y3 y4 y5 y6
      unfold filetype_fault.j0
      repeat' first
      | (with_reducible exact ih0 _ _ _ _ _ _ _)
      | (with_reducible exact LeO.refl _)
      | (with_reducible exact LeO.none _)
      | (with_reducible refine LeO.ite ?_ ?_)
      | (with_reducible refine LeO.bind ?_ (fun _ => ?_))
      | exact ih0 _ _ _ _ _ _ _
      | exact LeO.none _
      | refine LeO.ite ?_ ?_
      | refine LeO.bind ?_ (fun _ => ?_)
theorem filetype_fault.mono : ∀ a0 a1 a2 a3 a4 a5 k, LeO (filetype_fault.f k a0 a1 a2 a3 a4 a5) (filetype_fault.f (k + 1) a0 a1 a2 a3 a4 a5) := by
  intro a0 a1 a2 a3 a4 a5 k
  have ih0 := filetype_fault.mono_l k
  unfold filetype_fault.f
  repeat' first
      | (with_reducible exact ih0 _ _ _ _ _ _ _)
      | (with_reducible exact LeO.refl _)
      | (with_reducible exact LeO.none _)
      | (with_reducible refine LeO.ite ?_ ?_)
      | (with_reducible refine LeO.bind ?_ (fun _ => ?_))
      | exact ih0 _ _ _ _ _ _ _
      | exact LeO.none _
      | refine LeO.ite ?_ ?_
      | refine LeO.bind ?_ (fun _ => ?_)
set_option maxHeartbeats 8000000 in
set_option maxRecDepth 100000 in
theorem filetype_fault.calls (k : Nat) (a0_0 : Int) (a0_1 : Bool) (a0_2 : Bool) (a0_3 : Bool) (A1 : Option Addr) (c1 : Nat) (l1 : List Int) (a2 : Int) (r1 : Bool) (r2 : Int) (w : World) (hr1 : Kd.C (Kd.int .u8) w A1 l1.length l1) (hc1 : l1.length ≤ c1) (h : filetype_fault.f k a0_0 a0_1 a0_2 a0_3 l1 a2 = some (r1, r2)) :
    Calls Tryd.prog 57 #[.agg #[.int .i64 a0_0, .bool a0_1, .bool a0_2, .bool a0_3], .slice A1 l1.length c1, .int .i64 a2] w fun e w' => e = .returned (.tuple #[.bool r1, .int .i64 r2]) ∧ Below w.heap.size w w' := by
  have hu23 := Tryd.underlying23
  have HR1 := Aside0.mk hr1
  have HC1 := Aside0.mk hc1
  clear hr1 hc1
  have HB := Aside0.mk (Below.refl w.heap.size w)
  have H : ((filetype_Check.f a0_0 a0_1 a0_2 a0_3).bind fun t284 => (if t284 = 0 then (if a2 = 1 then (filetype_fault.j0 k l1 a2 false a0_0 a0_1 a0_2 a0_3) else (filetype_fault.j0 k l1 a2 (a2 != 2) a0_0 a0_1 a0_2 a0_3)) else (some (false, t284)))) = some (r1, r2) := h
  clear h
  replace H := Option.bind_eq_some_iff.mp H
  obtain ⟨t284, A40, H⟩ := H
  replace H : (if t284 = 0 then (if a2 = 1 then (filetype_fault.j0 k l1 a2 false a0_0 a0_1 a0_2 a0_3) else (filetype_fault.j0 k l1 a2 (a2 != 2) a0_0 a0_1 a0_2 a0_3)) else (some (false, t284))) = some (r1, r2) := H
  have A4 := Aside0.mk A40
  clear A40
  by_cases c5 : t284 = 0
  · rw [if_pos c5] at H
    have c5b0 : (t284 == 0) = true := beq_iff_eq.mpr c5
    have c5b1 : (t284 != 0) = false := bne_eq_false_iff_eq.mpr c5
    clear c5
    have HC6 := Aside0.mk H
    clear H
    go_enter Tryd.func57, Tryd.ntmps57
    go_upto_region 4 with (first | ((with_reducible refine gate_dst (N := 3) rfl ?_); refine box_event ?hg (N := 3) ?hd (cs := #[.int .i64 a0_0, .bool a0_1, .bool a0_2, .bool a0_3]) (t := 23) ?hr ?_; (case hd => rfl); (case hg => rfl); (case hr => first | (go_simp; done) | (go_simp; rfl)); intro gb283 hg w7 hbox hb; have n0_ := Aside0.mk (below_step (by repeat (first | (with_reducible first | exact HB.out | apply below_alloc | apply pw_below_drewN | apply below_drew1) | exact HB.out)) hb); have n1_ := Aside0.mk (hbox); have n2_ := Aside0.mk ((by rw [hg]; exact (below_size (by repeat (first | (with_reducible first | exact HB.out | apply below_alloc | apply pw_below_drewN | apply below_drew1) | exact HB.out))) : w.heap.size ≤ gb283)); have n3_ := Aside0.mk ((by rw [hg]; exact (below_size (by repeat (first | (with_reducible first | exact HB.out | apply below_alloc | apply pw_below_drewN | apply below_drew1) | exact HB.out))) : w.heap.size ≤ gb283)); clear HB; have HB := n0_; have BK283 := n1_; have GW283 := n2_; have GE283 := n3_; clear n0_ n1_ n2_ n3_; clear hb hbox hg; have hcz8_0 : w7.cell? ⟨gb283, 0, none⟩ = some (.int .i64 a0_0) := (blk_cell BK283.out 0).trans rfl; have hcz8_1 : w7.cell? ⟨gb283, 1, none⟩ = some (.bool a0_1) := (blk_cell BK283.out 1).trans rfl; have hcz8_2 : w7.cell? ⟨gb283, 2, none⟩ = some (.bool a0_2) := (blk_cell BK283.out 2).trans rfl; have hcz8_3 : w7.cell? ⟨gb283, 3, none⟩ = some (.bool a0_3) := (blk_cell BK283.out 3).trans rfl; have hfz8_0 := blk_frozen BK283.out 0; have hfz8_1 := blk_frozen BK283.out 1; have hfz8_2 := blk_frozen BK283.out 2; have hfz8_3 := blk_frozen BK283.out 3) | ((with_reducible refine gate_callee (f := 15) rfl ?_); refine goesL_ (some 10) rfl rfl Tryd.func15 (by kernel_rfl) rfl #[.agg #[.int .i64 a0_0, .bool a0_1, .bool a0_2, .bool a0_3]] rfl (by (try simp only [List.map_toArray, List.map_cons, List.map_nil]); first | done | rfl | (simp only [List.length_drop, List.length_take]; rfl)) ?_; (with_reducible refine (filetype_Check.calls a0_0 a0_1 a0_2 a0_3 t284 _ A4.out).mono ?_); rintro e w9 ⟨rfl, hb⟩; refine ⟨_, rfl, ?_⟩; have n0_ := Aside0.mk (blk_below (g := gb283) (o := .cells #[.int .i64 a0_0, .bool a0_1, .bool a0_2, .bool a0_3] 23 (0, 0)) (by (with_reducible repeat (first | refine blk_drewN ?_ _ | refine blk_drew ?_ | refine blk_alloc ?_ _)); exact BK283.out) hb); have n1_ := Aside0.mk (below_step (by repeat (first | (with_reducible first | exact HB.out | apply below_alloc | apply pw_below_drewN | apply below_drew1 | refine below_set ?_ GE283.out) | exact HB.out)) hb); clear BK283; clear HB; have BK283 := n0_; have HB := n1_; clear n0_ n1_; (try clear hb); (try clear hb2); (try clear hk); (try clear hi)))
    (try simp only [Act.put, List.setIfInBounds_toArray, List.set_cons_zero, List.set_cons_succ])
    go_cut [19] (fun v19 wc => ∃ (kq : Nat) (x19_5 : Bool), v19 = .bool x19_5 ∧ Aside0 (filetype_fault.j0 kq l1 a2 x19_5 a0_0 a0_1 a0_2 a0_3 = some (r1, r2)) ∧ Aside0 (kq ≤ k) ∧ Aside0 (wc.heap[gb283]? = some (.cells #[.int .i64 a0_0, .bool a0_1, .bool a0_2, .bool a0_3] 23 (0, 0))) ∧ Aside0 (Below w.heap.size w wc))
    case first =>
      have H := HC6.out
      clear HC6
      by_cases c10 : a2 = 1
      · rw [if_pos c10] at H
        have c10b0 : (a2 == 1) = true := beq_iff_eq.mpr c10
        have c10b1 : (a2 != 1) = false := bne_eq_false_iff_eq.mpr c10
        clear c10
        (first | rw [c10b0] | (simp only [i64_w, i32_w]; rw [c10b0]) | skip)
        have H' := Aside0.mk H
        clear H
        go_wp2
        go_meet
        case rel => exact ⟨_, (false), (by first | rfl | (simp; done) | (simp [*]; done)), H', ⟨by first | omega | exact Nat.le_refl _⟩, ⟨by (with_reducible repeat (first | refine blk_drewN ?_ _ | refine blk_drew ?_ | refine blk_alloc ?_ _)); exact BK283.out⟩, ⟨by repeat (first | (with_reducible first | exact HB.out | apply below_alloc | apply pw_below_drewN | apply below_drew1 | refine below_set ?_ GE283.out) | exact HB.out)⟩⟩
      · rw [if_neg c10] at H
        have c10b0 : (a2 == 1) = false := beq_eq_false_iff_ne.mpr c10
        have c10b1 : (a2 != 1) = true := bne_iff_ne.mpr c10
        (first | rw [c10b0] | (simp only [i64_w, i32_w]; rw [c10b0]) | skip)
        have H' := Aside0.mk H
        clear H
        go_wp2
        go_meet
        case rel => exact ⟨_, ((a2 != 2)), (by first | rfl | (simp; done) | (simp [*]; done)), H', ⟨by first | omega | exact Nat.le_refl _⟩, ⟨by (with_reducible repeat (first | refine blk_drewN ?_ _ | refine blk_drew ?_ | refine blk_alloc ?_ _)); exact BK283.out⟩, ⟨by repeat (first | (with_reducible first | exact HB.out | apply below_alloc | apply pw_below_drewN | apply below_drew1 | refine below_set ?_ GE283.out) | exact HB.out)⟩⟩
    case rest =>
      clear HC6
      try clear c1
      try clear p2
      try clear c5
      try clear c5b0
      try clear c5b1
      try clear c10
      try clear c10b0
      try clear c10b1
      try clear hcz8_0
      try clear hcz8_1
      try clear hcz8_2
      try clear hcz8_3
      try clear hfz8_0
      try clear hfz8_1
      try clear hfz8_2
      try clear hfz8_3
      obtain ⟨kq, x19_5, rfl, HA, HJ5, BK283, HB⟩ := hcut
      cases kq with
      | zero => exact absurd HA.out (by simp [filetype_fault.j0])
      | succ kj5 =>
        have H := HA.out
        clear HA
        simp only [filetype_fault.j0] at H
        by_cases c11 : x19_5 = true
        · subst c11
          have H1 : (some (false, 93)) = some (r1, r2) := by rw [if_pos rfl] at H; exact H
          clear H
          have H := H1
          clear H1
          simp only [Option.some.injEq, Prod.mk.injEq] at H
          obtain ⟨rfl, rfl⟩ := H
          go_wp2
          go_ret2
          exact ⟨by first | rfl | (simp [errW_none, errW_some] <;> rfl) | (simp [*, errW_none, errW_some] <;> rfl), by repeat (first | (with_reducible first | exact HB.out | apply below_alloc | apply pw_below_drewN | apply below_drew1 | refine below_set ?_ GE283.out) | exact HB.out)⟩
        · replace c11 := Bool.eq_false_iff.mpr c11
          subst c11
          have H1 : (if a0_0 = 3 then ((filetype_link.f l1).bind fun t285 => (if t285 = true then (if a0_0 = 1 then (some ((a2 == 2), 0)) else (some (false, 0))) else (some (false, 91)))) else (if a0_0 = 1 then (some ((a2 == 2), 0)) else (some (false, 0)))) = some (r1, r2) := by rw [if_neg (show ¬ (false = true) by decide)] at H; exact H
          clear H
          have H := H1
          clear H1
          by_cases c12 : a0_0 = 3
          · rw [if_pos c12] at H
            have c12b0 : (a0_0 == 3) = true := beq_iff_eq.mpr c12
            have c12b1 : (a0_0 != 3) = false := bne_eq_false_iff_eq.mpr c12
            clear c12
            replace H := Option.bind_eq_some_iff.mp H
            obtain ⟨t285, A130, H⟩ := H
            replace H : (if t285 = true then (if a0_0 = 1 then (some ((a2 == 2), 0)) else (some (false, 0))) else (some (false, 91))) = some (r1, r2) := H
            have A13 := Aside0.mk A130
            clear A130
            by_cases c14 : t285 = true
            · subst c14
              have H1 : (if a0_0 = 1 then (some ((a2 == 2), 0)) else (some (false, 0))) = some (r1, r2) := by rw [if_pos rfl] at H; exact H
              clear H
              have H := H1
              clear H1
              by_cases c15 : a0_0 = 1
              · rw [if_pos c15] at H
                have c15b0 : (a0_0 == 1) = true := beq_iff_eq.mpr c15
                have c15b1 : (a0_0 != 1) = false := bne_eq_false_iff_eq.mpr c15
                clear c15
                simp only [Option.some.injEq, Prod.mk.injEq] at H
                obtain ⟨rfl, rfl⟩ := H
                have hcz16_0 : wc.cell? ⟨gb283, 0, none⟩ = some (.int .i64 a0_0) := (blk_cell BK283.out 0).trans rfl
                have hcz16_1 : wc.cell? ⟨gb283, 1, none⟩ = some (.bool a0_1) := (blk_cell BK283.out 1).trans rfl
                have hcz16_2 : wc.cell? ⟨gb283, 2, none⟩ = some (.bool a0_2) := (blk_cell BK283.out 2).trans rfl
                have hcz16_3 : wc.cell? ⟨gb283, 3, none⟩ = some (.bool a0_3) := (blk_cell BK283.out 3).trans rfl
                have hfz16_0 := blk_frozen BK283.out 0
                have hfz16_1 := blk_frozen BK283.out 1
                have hfz16_2 := blk_frozen BK283.out 2
                have hfz16_3 := blk_frozen BK283.out 3
                go_wp2_with (first | (go_at_call 38; (with_reducible refine (filetype_link.calls _ _ l1 true _ ?side1 ?side2 A13.out).mono ?_); (case side1 => repeat (first | exact (Kd.C_below HR1.out HB.out) | (with_reducible refine Kd.C_alloc ?_ _) | (with_reducible refine Kd.C_drewN ?_ _) | (with_reducible refine Kd.C_drew ?_))); (case side2 => exact HC1.out); rintro e w' ⟨rfl, ⟨nd, rfl⟩⟩))
                go_ret2
                exact ⟨by first | rfl | (simp [errW_none, errW_some] <;> rfl) | (simp [*, errW_none, errW_some] <;> rfl), by repeat (first | (with_reducible first | exact HB.out | apply below_alloc | apply pw_below_drewN | apply below_drew1 | refine below_set ?_ GE283.out) | exact HB.out)⟩
              · rw [if_neg c15] at H
                have c15b0 : (a0_0 == 1) = false := beq_eq_false_iff_ne.mpr c15
                have c15b1 : (a0_0 != 1) = true := bne_iff_ne.mpr c15
                simp only [Option.some.injEq, Prod.mk.injEq] at H
                obtain ⟨rfl, rfl⟩ := H
                have hcz17_0 : wc.cell? ⟨gb283, 0, none⟩ = some (.int .i64 a0_0) := (blk_cell BK283.out 0).trans rfl
                have hcz17_1 : wc.cell? ⟨gb283, 1, none⟩ = some (.bool a0_1) := (blk_cell BK283.out 1).trans rfl
                have hcz17_2 : wc.cell? ⟨gb283, 2, none⟩ = some (.bool a0_2) := (blk_cell BK283.out 2).trans rfl
                have hcz17_3 : wc.cell? ⟨gb283, 3, none⟩ = some (.bool a0_3) := (blk_cell BK283.out 3).trans rfl
                have hfz17_0 := blk_frozen BK283.out 0
                have hfz17_1 := blk_frozen BK283.out 1
                have hfz17_2 := blk_frozen BK283.out 2
                have hfz17_3 := blk_frozen BK283.out 3
                go_wp2_with (first | (go_at_call 38; (with_reducible refine (filetype_link.calls _ _ l1 true _ ?side1 ?side2 A13.out).mono ?_); (case side1 => repeat (first | exact (Kd.C_below HR1.out HB.out) | (with_reducible refine Kd.C_alloc ?_ _) | (with_reducible refine Kd.C_drewN ?_ _) | (with_reducible refine Kd.C_drew ?_))); (case side2 => exact HC1.out); rintro e w' ⟨rfl, ⟨nd, rfl⟩⟩))
                go_ret2
                exact ⟨by first | rfl | (simp [errW_none, errW_some] <;> rfl) | (simp [*, errW_none, errW_some] <;> rfl), by repeat (first | (with_reducible first | exact HB.out | apply below_alloc | apply pw_below_drewN | apply below_drew1 | refine below_set ?_ GE283.out) | exact HB.out)⟩
            · replace c14 := Bool.eq_false_iff.mpr c14
              subst c14
              have H1 : (some (false, 91)) = some (r1, r2) := by rw [if_neg (show ¬ (false = true) by decide)] at H; exact H
              clear H
              have H := H1
              clear H1
              simp only [Option.some.injEq, Prod.mk.injEq] at H
              obtain ⟨rfl, rfl⟩ := H
              have hcz18_0 : wc.cell? ⟨gb283, 0, none⟩ = some (.int .i64 a0_0) := (blk_cell BK283.out 0).trans rfl
              have hcz18_1 : wc.cell? ⟨gb283, 1, none⟩ = some (.bool a0_1) := (blk_cell BK283.out 1).trans rfl
              have hcz18_2 : wc.cell? ⟨gb283, 2, none⟩ = some (.bool a0_2) := (blk_cell BK283.out 2).trans rfl
              have hcz18_3 : wc.cell? ⟨gb283, 3, none⟩ = some (.bool a0_3) := (blk_cell BK283.out 3).trans rfl
              have hfz18_0 := blk_frozen BK283.out 0
              have hfz18_1 := blk_frozen BK283.out 1
              have hfz18_2 := blk_frozen BK283.out 2
              have hfz18_3 := blk_frozen BK283.out 3
              go_wp2_with (first | (go_at_call 38; (with_reducible refine (filetype_link.calls _ _ l1 false _ ?side1 ?side2 A13.out).mono ?_); (case side1 => repeat (first | exact (Kd.C_below HR1.out HB.out) | (with_reducible refine Kd.C_alloc ?_ _) | (with_reducible refine Kd.C_drewN ?_ _) | (with_reducible refine Kd.C_drew ?_))); (case side2 => exact HC1.out); rintro e w' ⟨rfl, ⟨nd, rfl⟩⟩))
              go_ret2
              exact ⟨by first | rfl | (simp [errW_none, errW_some] <;> rfl) | (simp [*, errW_none, errW_some] <;> rfl), by repeat (first | (with_reducible first | exact HB.out | apply below_alloc | apply pw_below_drewN | apply below_drew1 | refine below_set ?_ GE283.out) | exact HB.out)⟩
          · rw [if_neg c12] at H
            have c12b0 : (a0_0 == 3) = false := beq_eq_false_iff_ne.mpr c12
            have c12b1 : (a0_0 != 3) = true := bne_iff_ne.mpr c12
            by_cases c19 : a0_0 = 1
            · rw [if_pos c19] at H
              have c19b0 : (a0_0 == 1) = true := beq_iff_eq.mpr c19
              have c19b1 : (a0_0 != 1) = false := bne_eq_false_iff_eq.mpr c19
              clear c19
              simp only [Option.some.injEq, Prod.mk.injEq] at H
              obtain ⟨rfl, rfl⟩ := H
              have hcz20_0 : wc.cell? ⟨gb283, 0, none⟩ = some (.int .i64 a0_0) := (blk_cell BK283.out 0).trans rfl
              have hcz20_1 : wc.cell? ⟨gb283, 1, none⟩ = some (.bool a0_1) := (blk_cell BK283.out 1).trans rfl
              have hcz20_2 : wc.cell? ⟨gb283, 2, none⟩ = some (.bool a0_2) := (blk_cell BK283.out 2).trans rfl
              have hcz20_3 : wc.cell? ⟨gb283, 3, none⟩ = some (.bool a0_3) := (blk_cell BK283.out 3).trans rfl
              have hfz20_0 := blk_frozen BK283.out 0
              have hfz20_1 := blk_frozen BK283.out 1
              have hfz20_2 := blk_frozen BK283.out 2
              have hfz20_3 := blk_frozen BK283.out 3
              go_wp2
              go_ret2
              exact ⟨by first | rfl | (simp [errW_none, errW_some] <;> rfl) | (simp [*, errW_none, errW_some] <;> rfl), by repeat (first | (with_reducible first | exact HB.out | apply below_alloc | apply pw_below_drewN | apply below_drew1 | refine below_set ?_ GE283.out) | exact HB.out)⟩
            · rw [if_neg c19] at H
              have c19b0 : (a0_0 == 1) = false := beq_eq_false_iff_ne.mpr c19
              have c19b1 : (a0_0 != 1) = true := bne_iff_ne.mpr c19
              simp only [Option.some.injEq, Prod.mk.injEq] at H
              obtain ⟨rfl, rfl⟩ := H
              have hcz21_0 : wc.cell? ⟨gb283, 0, none⟩ = some (.int .i64 a0_0) := (blk_cell BK283.out 0).trans rfl
              have hcz21_1 : wc.cell? ⟨gb283, 1, none⟩ = some (.bool a0_1) := (blk_cell BK283.out 1).trans rfl
              have hcz21_2 : wc.cell? ⟨gb283, 2, none⟩ = some (.bool a0_2) := (blk_cell BK283.out 2).trans rfl
              have hcz21_3 : wc.cell? ⟨gb283, 3, none⟩ = some (.bool a0_3) := (blk_cell BK283.out 3).trans rfl
              have hfz21_0 := blk_frozen BK283.out 0
              have hfz21_1 := blk_frozen BK283.out 1
              have hfz21_2 := blk_frozen BK283.out 2
              have hfz21_3 := blk_frozen BK283.out 3
              go_wp2
              go_ret2
              exact ⟨by first | rfl | (simp [errW_none, errW_some] <;> rfl) | (simp [*, errW_none, errW_some] <;> rfl), by repeat (first | (with_reducible first | exact HB.out | apply below_alloc | apply pw_below_drewN | apply below_drew1 | refine below_set ?_ GE283.out) | exact HB.out)⟩
  · rw [if_neg c5] at H
    have c5b0 : (t284 == 0) = false := beq_eq_false_iff_ne.mpr c5
    have c5b1 : (t284 != 0) = true := bne_iff_ne.mpr c5
    simp only [Option.some.injEq, Prod.mk.injEq] at H
    obtain ⟨rfl, rfl⟩ := H
    go_enter Tryd.func57, Tryd.ntmps57
    go_wp2_with (first | ((with_reducible refine gate_dst (N := 3) rfl ?_); refine box_event ?hg (N := 3) ?hd (cs := #[.int .i64 a0_0, .bool a0_1, .bool a0_2, .bool a0_3]) (t := 23) ?hr ?_; (case hd => rfl); (case hg => rfl); (case hr => first | (go_simp; done) | (go_simp; rfl)); intro gb283 hg w22 hbox hb; have n0_ := Aside0.mk (below_step (by repeat (first | (with_reducible first | exact HB.out | apply below_alloc | apply pw_below_drewN | apply below_drew1) | exact HB.out)) hb); have n1_ := Aside0.mk (hbox); have n2_ := Aside0.mk ((by rw [hg]; exact (below_size (by repeat (first | (with_reducible first | exact HB.out | apply below_alloc | apply pw_below_drewN | apply below_drew1) | exact HB.out))) : w.heap.size ≤ gb283)); have n3_ := Aside0.mk ((by rw [hg]; exact (below_size (by repeat (first | (with_reducible first | exact HB.out | apply below_alloc | apply pw_below_drewN | apply below_drew1) | exact HB.out))) : w.heap.size ≤ gb283)); clear HB; have HB := n0_; have BK283 := n1_; have GW283 := n2_; have GE283 := n3_; clear n0_ n1_ n2_ n3_; clear hb hbox hg; have hcz23_0 : w22.cell? ⟨gb283, 0, none⟩ = some (.int .i64 a0_0) := (blk_cell BK283.out 0).trans rfl; have hcz23_1 : w22.cell? ⟨gb283, 1, none⟩ = some (.bool a0_1) := (blk_cell BK283.out 1).trans rfl; have hcz23_2 : w22.cell? ⟨gb283, 2, none⟩ = some (.bool a0_2) := (blk_cell BK283.out 2).trans rfl; have hcz23_3 : w22.cell? ⟨gb283, 3, none⟩ = some (.bool a0_3) := (blk_cell BK283.out 3).trans rfl; have hfz23_0 := blk_frozen BK283.out 0; have hfz23_1 := blk_frozen BK283.out 1; have hfz23_2 := blk_frozen BK283.out 2; have hfz23_3 := blk_frozen BK283.out 3) | ((with_reducible refine gate_callee (f := 15) rfl ?_); refine goesL_ (some 10) rfl rfl Tryd.func15 (by kernel_rfl) rfl #[.agg #[.int .i64 a0_0, .bool a0_1, .bool a0_2, .bool a0_3]] rfl (by (try simp only [List.map_toArray, List.map_cons, List.map_nil]); first | done | rfl | (simp only [List.length_drop, List.length_take]; rfl)) ?_; (with_reducible refine (filetype_Check.calls a0_0 a0_1 a0_2 a0_3 t284 _ A4.out).mono ?_); rintro e w24 ⟨rfl, hb⟩; refine ⟨_, rfl, ?_⟩; have n0_ := Aside0.mk (blk_below (g := gb283) (o := .cells #[.int .i64 a0_0, .bool a0_1, .bool a0_2, .bool a0_3] 23 (0, 0)) (by (with_reducible repeat (first | refine blk_drewN ?_ _ | refine blk_drew ?_ | refine blk_alloc ?_ _)); exact BK283.out) hb); have n1_ := Aside0.mk (below_step (by repeat (first | (with_reducible first | exact HB.out | apply below_alloc | apply pw_below_drewN | apply below_drew1 | refine below_set ?_ GE283.out) | exact HB.out)) hb); clear BK283; clear HB; have BK283 := n0_; have HB := n1_; clear n0_ n1_; (try clear hb); (try clear hb2); (try clear hk); (try clear hi)))
    go_ret2
    exact ⟨by first | rfl | (simp [errW_none, errW_some] <;> rfl) | (simp [*, errW_none, errW_some] <;> rfl), by repeat (first | (with_reducible first | exact HB.out | apply below_alloc | apply pw_below_drewN | apply below_drew1 | refine below_set ?_ GE283.out) | exact HB.out)⟩

/-! ### bytes_Clone: function 58: an external -/
def bytes_Clone.f (l0 : List Int) : Option (List Int) := if l0.length ≤ 140737488355328 then some l0 else none
theorem bytes_Clone.calls (A0 : Option Addr) (c0 : Nat) (l0 : List Int) (r : List Int) (w : World) (hr0 : Kd.C (Kd.int .u8) w A0 l0.length l0) (hc0 : l0.length ≤ c0) (h : bytes_Clone.f l0 = some r) :
    Calls Tryd.prog 58 #[.slice A0 l0.length c0] w fun e w' => ∃ v0_ : Value, e = .returned (v0_) ∧ Kd.R (Kd.int .u8) 5 w' w.heap.size (fun _ => True) v0_ r ∧ Below w.heap.size w w' := by
  unfold bytes_Clone.f at h
  split at h
  · rename_i hN
    obtain rfl := Option.some.inj h
    cases A0 with
    | none =>
      have h0 : l0.length = 0 := by
        rcases Nat.eq_zero_or_pos l0.length with h0 | h0
        · exact h0
        · obtain ⟨ad, e, _⟩ := hr0.2.2 h0
          cases e
      obtain rfl := List.eq_nil_of_length_eq_zero h0
      refine (Tryd.bytes_Clone_nil _ c0 w).mono ?_
      rintro e w' ⟨rfl, rfl⟩
      exact ⟨_, rfl, Kd.R_nil _ _ _ _ _, Below.refl _ _⟩
    | some ad =>
      refine (Tryd.bytes_Clone_at ad l0.length c0 l0 w rfl hN (fun i hi => ?_)).mono ?_
      · obtain ⟨ea, hc⟩ := bytes_cells (by omega) hr0
        have := hc i hi
        rw [ea]
        by_cases hj0 : i = 0
        · subst hj0
          simpa [Addr.add] using this
        · simpa [Addr.add, hj0] using this
      · rintro e w' ⟨v', rfl, ho, _, hb⟩
        exact ⟨v', rfl, Kd.R_of_own (h1 := fun _ => rfl) ho (fun _ _ => trivial), hb⟩
  · cases h

-- NOT PRINTED: function 47 (filetype_exchange)

-- NOT PRINTED: function 27 (filetype_Canon)

end Go.Proofs.YtolmcdglemkchaaDoor.P

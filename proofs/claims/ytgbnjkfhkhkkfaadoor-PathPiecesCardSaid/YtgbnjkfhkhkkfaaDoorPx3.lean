-- Written by a program of this session (wip/gen.py) over the kit's print: each Go function as a plain Lean function, and the proof that the Go code comes to it. Nothing here is trusted: Lean checks it.
import Derived.Test.YtgbnjkfhkhkkfaaDoorPx0
import Derived.Test.YtgbnjkfhkhkkfaaDoorPx1
import Derived.Test.YtgbnjkfhkhkkfaaDoorPx2
namespace Go.Proofs.YtgbnjkfhkhkkfaaDoor.P
open Go.RowKit Go.Proofs.YtgbnjkfhkhkkfaaDoorW.PrintWords Go.Proofs.YtgbnjkfhkhkkfaaDoorW.PrintLast Go.Proofs.YtgbnjkfhkhkkfaaDoorW.PrintMore
attribute [local go_sem] str_gtr str_leq str_geq max2_int min2_int max_two min_two max_three min_three max_four min_four   -- for this text's walks alone
set_option linter.unusedVariables false
set_option linter.unusedSimpArgs false

/-! ### stockyardlaw02_PathOrders: function 3 -/
mutual
def stockyardlaw02_PathOrders.j0 : Nat → ByteArray → ByteArray → ByteArray → Bool → Option (Bool)
  | 0, _, _, _, _ => none
  | k + 1, x0, x1, x2, x39 => if x39 = true then ((stockyardlaw02_awake.f k).bind fun t147 => (some t147)) else ((path_Compare.f k x0 x1).bind fun bt148 => ((path_Compare.f k x1 x0).bind fun bt150 => ((path_Compare.f k x1 x2).bind fun bt152 => ((path_Compare.f k x0 x2).bind fun bt154 => (if bt148.2 = 0 then (if bt150.2 = 0 then (if bt152.2 = 0 then (if bt154.2 = 0 then (if bt148.1 = (wrap64 (-bt150.1)) then (if ((bt148.1 == 0) != (x0.toList == x1.toList)) = true then (stockyardlaw02_PathOrders.j1 k bt148.1 bt152.1 bt154.1 true) else (if bt148.1 < (-1) then (stockyardlaw02_PathOrders.j1 k bt148.1 bt152.1 bt154.1 true) else (stockyardlaw02_PathOrders.j1 k bt148.1 bt152.1 bt154.1 (decide (bt148.1 > 1))))) else (stockyardlaw02_PathOrders.j1 k bt148.1 bt152.1 bt154.1 true)) else (stockyardlaw02_PathOrders.j1 k bt148.1 bt152.1 bt154.1 true)) else (stockyardlaw02_PathOrders.j1 k bt148.1 bt152.1 bt154.1 true)) else (stockyardlaw02_PathOrders.j1 k bt148.1 bt152.1 bt154.1 true)) else (stockyardlaw02_PathOrders.j1 k bt148.1 bt152.1 bt154.1 true))))))
def stockyardlaw02_PathOrders.j1 : Nat → Int → Int → Int → Bool → Option (Bool)
  | 0, _, _, _, _ => none
  | k + 1, x7, x11, x13, x100 => if x100 = true then (some false) else (if x7 ≤ 0 then (if x11 ≤ 0 then (if x13 > 0 then (some false) else (if x13 = 0 then (if x7 = 0 then (if x11 = 0 then ((stockyardlaw02_awake.f k).bind fun t156 => (some t156)) else (some false)) else (some false)) else ((stockyardlaw02_awake.f k).bind fun t157 => (some t157)))) else ((stockyardlaw02_awake.f k).bind fun t158 => (some t158))) else ((stockyardlaw02_awake.f k).bind fun t159 => (some t159)))
end
def stockyardlaw02_PathOrders.f (k : Nat) (a0 : ByteArray) (a1 : ByteArray) (a2 : ByteArray) : Option (Bool) := (stockyardlaw02_long.f a0).bind fun t141 => (if t141 = true then (stockyardlaw02_PathOrders.j0 k a0 a1 a2 true) else ((stockyardlaw02_long.f a1).bind fun t142 => (if t142 = true then (stockyardlaw02_PathOrders.j0 k a0 a1 a2 true) else ((stockyardlaw02_long.f a2).bind fun t143 => (if t143 = true then (stockyardlaw02_PathOrders.j0 k a0 a1 a2 true) else ((path_Valid.f k a0).bind fun t144 => (if t144 = true then ((path_Valid.f k a1).bind fun t145 => (if t145 = true then ((path_Valid.f k a2).bind fun t146 => (stockyardlaw02_PathOrders.j0 k a0 a1 a2 (!t146))) else (stockyardlaw02_PathOrders.j0 k a0 a1 a2 true))) else (stockyardlaw02_PathOrders.j0 k a0 a1 a2 true))))))))
theorem stockyardlaw02_PathOrders.mono_l : ∀ k, (∀ y0 y1 y2 y3, LeO (stockyardlaw02_PathOrders.j0 k y0 y1 y2 y3) (stockyardlaw02_PathOrders.j0 (k + 1) y0 y1 y2 y3)) ∧ (∀ y0 y1 y2 y3, LeO (stockyardlaw02_PathOrders.j1 k y0 y1 y2 y3) (stockyardlaw02_PathOrders.j1 (k + 1) y0 y1 y2 y3))
  | 0 => ⟨fun _ _ _ _ r h => by simp [stockyardlaw02_PathOrders.j0] at h, fun _ _ _ _ r h => by simp [stockyardlaw02_PathOrders.j1] at h⟩
  | k + 1 => by
    obtain ⟨ih0, ih1⟩ := stockyardlaw02_PathOrders.mono_l k
    refine ⟨?_, ?_⟩
    · intro y0 y1 y2 y3
      unfold stockyardlaw02_PathOrders.j0
      repeat' first
      | (with_reducible exact ih0 _ _ _ _)
      | (with_reducible exact ih1 _ _ _ _)
      | (with_reducible exact path_Compare.mono _ _ _)
      | (with_reducible exact path_Valid.mono _ _)
      | (with_reducible exact stockyardlaw02_awake.mono _)
      | (with_reducible exact LeO.refl _)
      | (with_reducible exact LeO.none _)
      | (with_reducible refine LeO.ite ?_ ?_)
      | (with_reducible refine LeO.bind ?_ (fun _ => ?_))
      | exact ih0 _ _ _ _
      | exact ih1 _ _ _ _
      | exact path_Compare.mono _ _ _
      | exact path_Valid.mono _ _
      | exact stockyardlaw02_awake.mono _
      | exact LeO.none _
      | refine LeO.ite ?_ ?_
      | refine LeO.bind ?_ (fun _ => ?_)
    · intro y0 y1 y2 y3
      unfold stockyardlaw02_PathOrders.j1
      repeat' first
      | (with_reducible exact ih0 _ _ _ _)
      | (with_reducible exact ih1 _ _ _ _)
      | (with_reducible exact path_Compare.mono _ _ _)
      | (with_reducible exact path_Valid.mono _ _)
      | (with_reducible exact stockyardlaw02_awake.mono _)
      | (with_reducible exact LeO.refl _)
      | (with_reducible exact LeO.none _)
      | (with_reducible refine LeO.ite ?_ ?_)
      | (with_reducible refine LeO.bind ?_ (fun _ => ?_))
      | exact ih0 _ _ _ _
      | exact ih1 _ _ _ _
      | exact path_Compare.mono _ _ _
      | exact path_Valid.mono _ _
      | exact stockyardlaw02_awake.mono _
      | exact LeO.none _
      | refine LeO.ite ?_ ?_
      | refine LeO.bind ?_ (fun _ => ?_)
theorem stockyardlaw02_PathOrders.mono : ∀ a0 a1 a2 k, LeO (stockyardlaw02_PathOrders.f k a0 a1 a2) (stockyardlaw02_PathOrders.f (k + 1) a0 a1 a2) := by
  intro a0 a1 a2 k
  obtain ⟨ih0, ih1⟩ := stockyardlaw02_PathOrders.mono_l k
  unfold stockyardlaw02_PathOrders.f
  repeat' first
      | (with_reducible exact ih0 _ _ _ _)
      | (with_reducible exact ih1 _ _ _ _)
      | (with_reducible exact path_Compare.mono _ _ _)
      | (with_reducible exact path_Valid.mono _ _)
      | (with_reducible exact stockyardlaw02_awake.mono _)
      | (with_reducible exact LeO.refl _)
      | (with_reducible exact LeO.none _)
      | (with_reducible refine LeO.ite ?_ ?_)
      | (with_reducible refine LeO.bind ?_ (fun _ => ?_))
      | exact ih0 _ _ _ _
      | exact ih1 _ _ _ _
      | exact path_Compare.mono _ _ _
      | exact path_Valid.mono _ _
      | exact stockyardlaw02_awake.mono _
      | exact LeO.none _
      | refine LeO.ite ?_ ?_
      | refine LeO.bind ?_ (fun _ => ?_)
set_option maxHeartbeats 8000000 in
set_option maxRecDepth 100000 in
theorem stockyardlaw02_PathOrders.calls (k : Nat) (a0 : ByteArray) (a1 : ByteArray) (a2 : ByteArray) (r : Bool) (w : World) (h : stockyardlaw02_PathOrders.f k a0 a1 a2 = some r) :
    Calls Tryd.prog 3 #[.string a0, .string a1, .string a2] w fun e w' => e = .returned (.bool r) ∧ Below w.heap.size w w' := by
  have HB := Aside0.mk (Below.refl w.heap.size w)
  have H : ((stockyardlaw02_long.f a0).bind fun t141 => (if t141 = true then (stockyardlaw02_PathOrders.j0 k a0 a1 a2 true) else ((stockyardlaw02_long.f a1).bind fun t142 => (if t142 = true then (stockyardlaw02_PathOrders.j0 k a0 a1 a2 true) else ((stockyardlaw02_long.f a2).bind fun t143 => (if t143 = true then (stockyardlaw02_PathOrders.j0 k a0 a1 a2 true) else ((path_Valid.f k a0).bind fun t144 => (if t144 = true then ((path_Valid.f k a1).bind fun t145 => (if t145 = true then ((path_Valid.f k a2).bind fun t146 => (stockyardlaw02_PathOrders.j0 k a0 a1 a2 (!t146))) else (stockyardlaw02_PathOrders.j0 k a0 a1 a2 true))) else (stockyardlaw02_PathOrders.j0 k a0 a1 a2 true))))))))) = some r := h
  clear h
  have HC4 := Aside0.mk H
  clear H
  go_enter Tryd.func3, Tryd.ntmps3
  go_upto_region 1 with (fail)
  go_cut [39] (fun v39 wc => ∃ (kq : Nat) (x39_3 : Bool), v39 = .bool x39_3 ∧ Aside0 (stockyardlaw02_PathOrders.j0 kq a0 a1 a2 x39_3 = some r) ∧ Aside0 (kq ≤ k) ∧ Aside0 (Below w.heap.size w wc))
  case first =>
    have H := HC4.out
    clear HC4
    replace H := Option.bind_eq_some_iff.mp H
    obtain ⟨t141, A50, H⟩ := H
    replace H : (if t141 = true then (stockyardlaw02_PathOrders.j0 k a0 a1 a2 true) else ((stockyardlaw02_long.f a1).bind fun t142 => (if t142 = true then (stockyardlaw02_PathOrders.j0 k a0 a1 a2 true) else ((stockyardlaw02_long.f a2).bind fun t143 => (if t143 = true then (stockyardlaw02_PathOrders.j0 k a0 a1 a2 true) else ((path_Valid.f k a0).bind fun t144 => (if t144 = true then ((path_Valid.f k a1).bind fun t145 => (if t145 = true then ((path_Valid.f k a2).bind fun t146 => (stockyardlaw02_PathOrders.j0 k a0 a1 a2 (!t146))) else (stockyardlaw02_PathOrders.j0 k a0 a1 a2 true))) else (stockyardlaw02_PathOrders.j0 k a0 a1 a2 true)))))))) = some r := H
    have A5 := Aside0.mk A50
    clear A50
    by_cases c6 : t141 = true
    · subst c6
      have H1 : (stockyardlaw02_PathOrders.j0 k a0 a1 a2 true) = some r := by rw [if_pos rfl] at H; exact H
      clear H
      have H := H1
      clear H1
      have H' := Aside0.mk H
      clear H
      go_wp2_with (first | ((with_reducible refine gate_callee (f := 12) rfl ?_); refine goesL_ (some 16) rfl rfl Tryd.func12 (by kernel_rfl) rfl #[.string a0] rfl (by (try simp only [List.map_toArray, List.map_cons, List.map_nil]); first | done | rfl | (simp only [List.length_drop, List.length_take]; rfl)) ?_; (with_reducible refine (stockyardlaw02_long.calls a0 true _ A5.out).mono ?_); rintro e w' ⟨rfl, ⟨nd, rfl⟩⟩; refine ⟨_, rfl, ?_⟩))
      go_meet
      case rel => exact ⟨_, (true), (by first | rfl | (simp; done) | (simp [*]; done)), H', ⟨by first | omega | exact Nat.le_refl _⟩, ⟨by repeat (first | (with_reducible first | exact HB.out | apply below_alloc | apply pw_below_drewN | apply below_drew1) | exact HB.out)⟩⟩
    · replace c6 := Bool.eq_false_iff.mpr c6
      subst c6
      have H1 : ((stockyardlaw02_long.f a1).bind fun t142 => (if t142 = true then (stockyardlaw02_PathOrders.j0 k a0 a1 a2 true) else ((stockyardlaw02_long.f a2).bind fun t143 => (if t143 = true then (stockyardlaw02_PathOrders.j0 k a0 a1 a2 true) else ((path_Valid.f k a0).bind fun t144 => (if t144 = true then ((path_Valid.f k a1).bind fun t145 => (if t145 = true then ((path_Valid.f k a2).bind fun t146 => (stockyardlaw02_PathOrders.j0 k a0 a1 a2 (!t146))) else (stockyardlaw02_PathOrders.j0 k a0 a1 a2 true))) else (stockyardlaw02_PathOrders.j0 k a0 a1 a2 true))))))) = some r := by rw [if_neg (show ¬ (false = true) by decide)] at H; exact H
      clear H
      have H := H1
      clear H1
      replace H := Option.bind_eq_some_iff.mp H
      obtain ⟨t142, A70, H⟩ := H
      replace H : (if t142 = true then (stockyardlaw02_PathOrders.j0 k a0 a1 a2 true) else ((stockyardlaw02_long.f a2).bind fun t143 => (if t143 = true then (stockyardlaw02_PathOrders.j0 k a0 a1 a2 true) else ((path_Valid.f k a0).bind fun t144 => (if t144 = true then ((path_Valid.f k a1).bind fun t145 => (if t145 = true then ((path_Valid.f k a2).bind fun t146 => (stockyardlaw02_PathOrders.j0 k a0 a1 a2 (!t146))) else (stockyardlaw02_PathOrders.j0 k a0 a1 a2 true))) else (stockyardlaw02_PathOrders.j0 k a0 a1 a2 true)))))) = some r := H
      have A7 := Aside0.mk A70
      clear A70
      by_cases c8 : t142 = true
      · subst c8
        have H1 : (stockyardlaw02_PathOrders.j0 k a0 a1 a2 true) = some r := by rw [if_pos rfl] at H; exact H
        clear H
        have H := H1
        clear H1
        have H' := Aside0.mk H
        clear H
        go_wp2_with (first | ((with_reducible refine gate_callee (f := 12) rfl ?_); refine goesL_ (some 16) rfl rfl Tryd.func12 (by kernel_rfl) rfl #[.string a0] rfl (by (try simp only [List.map_toArray, List.map_cons, List.map_nil]); first | done | rfl | (simp only [List.length_drop, List.length_take]; rfl)) ?_; (with_reducible refine (stockyardlaw02_long.calls a0 false _ A5.out).mono ?_); rintro e w' ⟨rfl, ⟨nd, rfl⟩⟩; refine ⟨_, rfl, ?_⟩) | (go_at_call 12; (with_reducible refine (stockyardlaw02_long.calls a1 true _ A7.out).mono ?_); rintro e w' ⟨rfl, ⟨nd, rfl⟩⟩))
        go_meet
        case rel => exact ⟨_, (true), (by first | rfl | (simp; done) | (simp [*]; done)), H', ⟨by first | omega | exact Nat.le_refl _⟩, ⟨by repeat (first | (with_reducible first | exact HB.out | apply below_alloc | apply pw_below_drewN | apply below_drew1) | exact HB.out)⟩⟩
      · replace c8 := Bool.eq_false_iff.mpr c8
        subst c8
        have H1 : ((stockyardlaw02_long.f a2).bind fun t143 => (if t143 = true then (stockyardlaw02_PathOrders.j0 k a0 a1 a2 true) else ((path_Valid.f k a0).bind fun t144 => (if t144 = true then ((path_Valid.f k a1).bind fun t145 => (if t145 = true then ((path_Valid.f k a2).bind fun t146 => (stockyardlaw02_PathOrders.j0 k a0 a1 a2 (!t146))) else (stockyardlaw02_PathOrders.j0 k a0 a1 a2 true))) else (stockyardlaw02_PathOrders.j0 k a0 a1 a2 true))))) = some r := by rw [if_neg (show ¬ (false = true) by decide)] at H; exact H
        clear H
        have H := H1
        clear H1
        replace H := Option.bind_eq_some_iff.mp H
        obtain ⟨t143, A90, H⟩ := H
        replace H : (if t143 = true then (stockyardlaw02_PathOrders.j0 k a0 a1 a2 true) else ((path_Valid.f k a0).bind fun t144 => (if t144 = true then ((path_Valid.f k a1).bind fun t145 => (if t145 = true then ((path_Valid.f k a2).bind fun t146 => (stockyardlaw02_PathOrders.j0 k a0 a1 a2 (!t146))) else (stockyardlaw02_PathOrders.j0 k a0 a1 a2 true))) else (stockyardlaw02_PathOrders.j0 k a0 a1 a2 true)))) = some r := H
        have A9 := Aside0.mk A90
        clear A90
        by_cases c10 : t143 = true
        · subst c10
          have H1 : (stockyardlaw02_PathOrders.j0 k a0 a1 a2 true) = some r := by rw [if_pos rfl] at H; exact H
          clear H
          have H := H1
          clear H1
          have H' := Aside0.mk H
          clear H
          go_wp2_with (first | ((with_reducible refine gate_callee (f := 12) rfl ?_); refine goesL_ (some 16) rfl rfl Tryd.func12 (by kernel_rfl) rfl #[.string a0] rfl (by (try simp only [List.map_toArray, List.map_cons, List.map_nil]); first | done | rfl | (simp only [List.length_drop, List.length_take]; rfl)) ?_; (with_reducible refine (stockyardlaw02_long.calls a0 false _ A5.out).mono ?_); rintro e w' ⟨rfl, ⟨nd, rfl⟩⟩; refine ⟨_, rfl, ?_⟩) | (go_at_call 12; (with_reducible refine (stockyardlaw02_long.calls a1 false _ A7.out).mono ?_); rintro e w' ⟨rfl, ⟨nd, rfl⟩⟩) | (go_at_call 12; (with_reducible refine (stockyardlaw02_long.calls a2 true _ A9.out).mono ?_); rintro e w' ⟨rfl, ⟨nd, rfl⟩⟩))
          go_meet
          case rel => exact ⟨_, (true), (by first | rfl | (simp; done) | (simp [*]; done)), H', ⟨by first | omega | exact Nat.le_refl _⟩, ⟨by repeat (first | (with_reducible first | exact HB.out | apply below_alloc | apply pw_below_drewN | apply below_drew1) | exact HB.out)⟩⟩
        · replace c10 := Bool.eq_false_iff.mpr c10
          subst c10
          have H1 : ((path_Valid.f k a0).bind fun t144 => (if t144 = true then ((path_Valid.f k a1).bind fun t145 => (if t145 = true then ((path_Valid.f k a2).bind fun t146 => (stockyardlaw02_PathOrders.j0 k a0 a1 a2 (!t146))) else (stockyardlaw02_PathOrders.j0 k a0 a1 a2 true))) else (stockyardlaw02_PathOrders.j0 k a0 a1 a2 true))) = some r := by rw [if_neg (show ¬ (false = true) by decide)] at H; exact H
          clear H
          have H := H1
          clear H1
          replace H := Option.bind_eq_some_iff.mp H
          obtain ⟨t144, A110, H⟩ := H
          replace H : (if t144 = true then ((path_Valid.f k a1).bind fun t145 => (if t145 = true then ((path_Valid.f k a2).bind fun t146 => (stockyardlaw02_PathOrders.j0 k a0 a1 a2 (!t146))) else (stockyardlaw02_PathOrders.j0 k a0 a1 a2 true))) else (stockyardlaw02_PathOrders.j0 k a0 a1 a2 true)) = some r := H
          have A11 := Aside0.mk A110
          clear A110
          by_cases c12 : t144 = true
          · subst c12
            have H1 : ((path_Valid.f k a1).bind fun t145 => (if t145 = true then ((path_Valid.f k a2).bind fun t146 => (stockyardlaw02_PathOrders.j0 k a0 a1 a2 (!t146))) else (stockyardlaw02_PathOrders.j0 k a0 a1 a2 true))) = some r := by rw [if_pos rfl] at H; exact H
            clear H
            have H := H1
            clear H1
            replace H := Option.bind_eq_some_iff.mp H
            obtain ⟨t145, A130, H⟩ := H
            replace H : (if t145 = true then ((path_Valid.f k a2).bind fun t146 => (stockyardlaw02_PathOrders.j0 k a0 a1 a2 (!t146))) else (stockyardlaw02_PathOrders.j0 k a0 a1 a2 true)) = some r := H
            have A13 := Aside0.mk A130
            clear A130
            by_cases c14 : t145 = true
            · subst c14
              have H1 : ((path_Valid.f k a2).bind fun t146 => (stockyardlaw02_PathOrders.j0 k a0 a1 a2 (!t146))) = some r := by rw [if_pos rfl] at H; exact H
              clear H
              have H := H1
              clear H1
              replace H := Option.bind_eq_some_iff.mp H
              obtain ⟨t146, A150, H⟩ := H
              replace H : (stockyardlaw02_PathOrders.j0 k a0 a1 a2 (!t146)) = some r := H
              have A15 := Aside0.mk A150
              clear A150
              have H' := Aside0.mk H
              clear H
              go_wp2_with (first | ((with_reducible refine gate_callee (f := 12) rfl ?_); refine goesL_ (some 16) rfl rfl Tryd.func12 (by kernel_rfl) rfl #[.string a0] rfl (by (try simp only [List.map_toArray, List.map_cons, List.map_nil]); first | done | rfl | (simp only [List.length_drop, List.length_take]; rfl)) ?_; (with_reducible refine (stockyardlaw02_long.calls a0 false _ A5.out).mono ?_); rintro e w' ⟨rfl, ⟨nd, rfl⟩⟩; refine ⟨_, rfl, ?_⟩) | (go_at_call 12; (with_reducible refine (stockyardlaw02_long.calls a1 false _ A7.out).mono ?_); rintro e w' ⟨rfl, ⟨nd, rfl⟩⟩) | (go_at_call 12; (with_reducible refine (stockyardlaw02_long.calls a2 false _ A9.out).mono ?_); rintro e w' ⟨rfl, ⟨nd, rfl⟩⟩) | (go_at_call 13; (with_reducible refine (path_Valid.calls k a0 true _ A11.out).mono ?_); rintro e w16 ⟨rfl, hb⟩; have n0_ := Aside0.mk (below_step (by repeat (first | (with_reducible first | exact HB.out | apply below_alloc | apply pw_below_drewN | apply below_drew1) | exact HB.out)) hb); clear HB; have HB := n0_; clear n0_; (try clear hb); (try clear hb2); (try clear hk); (try clear hi)) | (go_at_call 13; (with_reducible refine (path_Valid.calls k a1 true _ A13.out).mono ?_); rintro e w17 ⟨rfl, hb⟩; have n0_ := Aside0.mk (below_step (by repeat (first | (with_reducible first | exact HB.out | apply below_alloc | apply pw_below_drewN | apply below_drew1) | exact HB.out)) hb); clear HB; have HB := n0_; clear n0_; (try clear hb); (try clear hb2); (try clear hk); (try clear hi)) | (go_at_call 13; (with_reducible refine (path_Valid.calls k a2 t146 _ A15.out).mono ?_); rintro e w18 ⟨rfl, hb⟩; have n0_ := Aside0.mk (below_step (by repeat (first | (with_reducible first | exact HB.out | apply below_alloc | apply pw_below_drewN | apply below_drew1) | exact HB.out)) hb); clear HB; have HB := n0_; clear n0_; (try clear hb); (try clear hb2); (try clear hk); (try clear hi)))
              go_meet
              case rel => exact ⟨_, (!t146), (by first | rfl | (simp; done) | (simp [*]; done)), H', ⟨by first | omega | exact Nat.le_refl _⟩, ⟨by repeat (first | (with_reducible first | exact HB.out | apply below_alloc | apply pw_below_drewN | apply below_drew1) | exact HB.out)⟩⟩
            · replace c14 := Bool.eq_false_iff.mpr c14
              subst c14
              have H1 : (stockyardlaw02_PathOrders.j0 k a0 a1 a2 true) = some r := by rw [if_neg (show ¬ (false = true) by decide)] at H; exact H
              clear H
              have H := H1
              clear H1
              have H' := Aside0.mk H
              clear H
              go_wp2_with (first | ((with_reducible refine gate_callee (f := 12) rfl ?_); refine goesL_ (some 16) rfl rfl Tryd.func12 (by kernel_rfl) rfl #[.string a0] rfl (by (try simp only [List.map_toArray, List.map_cons, List.map_nil]); first | done | rfl | (simp only [List.length_drop, List.length_take]; rfl)) ?_; (with_reducible refine (stockyardlaw02_long.calls a0 false _ A5.out).mono ?_); rintro e w' ⟨rfl, ⟨nd, rfl⟩⟩; refine ⟨_, rfl, ?_⟩) | (go_at_call 12; (with_reducible refine (stockyardlaw02_long.calls a1 false _ A7.out).mono ?_); rintro e w' ⟨rfl, ⟨nd, rfl⟩⟩) | (go_at_call 12; (with_reducible refine (stockyardlaw02_long.calls a2 false _ A9.out).mono ?_); rintro e w' ⟨rfl, ⟨nd, rfl⟩⟩) | (go_at_call 13; (with_reducible refine (path_Valid.calls k a0 true _ A11.out).mono ?_); rintro e w19 ⟨rfl, hb⟩; have n0_ := Aside0.mk (below_step (by repeat (first | (with_reducible first | exact HB.out | apply below_alloc | apply pw_below_drewN | apply below_drew1) | exact HB.out)) hb); clear HB; have HB := n0_; clear n0_; (try clear hb); (try clear hb2); (try clear hk); (try clear hi)) | (go_at_call 13; (with_reducible refine (path_Valid.calls k a1 false _ A13.out).mono ?_); rintro e w20 ⟨rfl, hb⟩; have n0_ := Aside0.mk (below_step (by repeat (first | (with_reducible first | exact HB.out | apply below_alloc | apply pw_below_drewN | apply below_drew1) | exact HB.out)) hb); clear HB; have HB := n0_; clear n0_; (try clear hb); (try clear hb2); (try clear hk); (try clear hi)))
              go_meet
              case rel => exact ⟨_, (true), (by first | rfl | (simp; done) | (simp [*]; done)), H', ⟨by first | omega | exact Nat.le_refl _⟩, ⟨by repeat (first | (with_reducible first | exact HB.out | apply below_alloc | apply pw_below_drewN | apply below_drew1) | exact HB.out)⟩⟩
          · replace c12 := Bool.eq_false_iff.mpr c12
            subst c12
            have H1 : (stockyardlaw02_PathOrders.j0 k a0 a1 a2 true) = some r := by rw [if_neg (show ¬ (false = true) by decide)] at H; exact H
            clear H
            have H := H1
            clear H1
            have H' := Aside0.mk H
            clear H
            go_wp2_with (first | ((with_reducible refine gate_callee (f := 12) rfl ?_); refine goesL_ (some 16) rfl rfl Tryd.func12 (by kernel_rfl) rfl #[.string a0] rfl (by (try simp only [List.map_toArray, List.map_cons, List.map_nil]); first | done | rfl | (simp only [List.length_drop, List.length_take]; rfl)) ?_; (with_reducible refine (stockyardlaw02_long.calls a0 false _ A5.out).mono ?_); rintro e w' ⟨rfl, ⟨nd, rfl⟩⟩; refine ⟨_, rfl, ?_⟩) | (go_at_call 12; (with_reducible refine (stockyardlaw02_long.calls a1 false _ A7.out).mono ?_); rintro e w' ⟨rfl, ⟨nd, rfl⟩⟩) | (go_at_call 12; (with_reducible refine (stockyardlaw02_long.calls a2 false _ A9.out).mono ?_); rintro e w' ⟨rfl, ⟨nd, rfl⟩⟩) | (go_at_call 13; (with_reducible refine (path_Valid.calls k a0 false _ A11.out).mono ?_); rintro e w21 ⟨rfl, hb⟩; have n0_ := Aside0.mk (below_step (by repeat (first | (with_reducible first | exact HB.out | apply below_alloc | apply pw_below_drewN | apply below_drew1) | exact HB.out)) hb); clear HB; have HB := n0_; clear n0_; (try clear hb); (try clear hb2); (try clear hk); (try clear hi)))
            go_meet
            case rel => exact ⟨_, (true), (by first | rfl | (simp; done) | (simp [*]; done)), H', ⟨by first | omega | exact Nat.le_refl _⟩, ⟨by repeat (first | (with_reducible first | exact HB.out | apply below_alloc | apply pw_below_drewN | apply below_drew1) | exact HB.out)⟩⟩
  case rest =>
    clear HC4
    try clear c1
    try clear p2
    try clear c3
    try clear c6
    try clear c8
    try clear c10
    try clear c12
    try clear c14
    obtain ⟨kq, x39_3, rfl, HA, HJ3, HB⟩ := hcut
    cases kq with
    | zero => exact absurd HA.out (by simp [stockyardlaw02_PathOrders.j0])
    | succ kj3 =>
      have H := HA.out
      clear HA
      simp only [stockyardlaw02_PathOrders.j0] at H
      by_cases c22 : x39_3 = true
      · subst c22
        have H1 : ((stockyardlaw02_awake.f kj3).bind fun t147 => (some t147)) = some r := by rw [if_pos rfl] at H; exact H
        clear H
        have H := H1
        clear H1
        replace H := Option.bind_eq_some_iff.mp H
        obtain ⟨t147, A230, H⟩ := H
        replace H : (some t147) = some r := H
        have A23 := Aside0.mk A230
        clear A230
        obtain rfl := Option.some.inj H
        go_wp2_with (first | ((with_reducible refine gate_callee (f := 14) rfl ?_); refine goesL_ (some 40) rfl rfl Tryd.func14 (by kernel_rfl) rfl #[] rfl (by (try simp only [List.map_toArray, List.map_cons, List.map_nil]); first | done | rfl | (simp only [List.length_drop, List.length_take]; rfl)) ?_; (with_reducible refine (stockyardlaw02_awake.calls kj3  t147 _ A23.out).mono ?_); rintro e w24 ⟨rfl, hb⟩; refine ⟨_, rfl, ?_⟩; have n0_ := Aside0.mk (below_step (by repeat (first | (with_reducible first | exact HB.out | apply below_alloc | apply pw_below_drewN | apply below_drew1) | exact HB.out)) hb); clear HB; have HB := n0_; clear n0_; (try clear hb); (try clear hb2); (try clear hk); (try clear hi)))
        go_ret
        exact ⟨by first | rfl | (simp [errW_none, errW_some] <;> rfl) | (simp [*, errW_none, errW_some] <;> rfl), by repeat (first | (with_reducible first | exact HB.out | apply below_alloc | apply pw_below_drewN | apply below_drew1) | exact HB.out)⟩
      · replace c22 := Bool.eq_false_iff.mpr c22
        subst c22
        have H1 : ((path_Compare.f kj3 a0 a1).bind fun bt148 => ((path_Compare.f kj3 a1 a0).bind fun bt150 => ((path_Compare.f kj3 a1 a2).bind fun bt152 => ((path_Compare.f kj3 a0 a2).bind fun bt154 => (if bt148.2 = 0 then (if bt150.2 = 0 then (if bt152.2 = 0 then (if bt154.2 = 0 then (if bt148.1 = (wrap64 (-bt150.1)) then (if ((bt148.1 == 0) != (a0.toList == a1.toList)) = true then (stockyardlaw02_PathOrders.j1 kj3 bt148.1 bt152.1 bt154.1 true) else (if bt148.1 < (-1) then (stockyardlaw02_PathOrders.j1 kj3 bt148.1 bt152.1 bt154.1 true) else (stockyardlaw02_PathOrders.j1 kj3 bt148.1 bt152.1 bt154.1 (decide (bt148.1 > 1))))) else (stockyardlaw02_PathOrders.j1 kj3 bt148.1 bt152.1 bt154.1 true)) else (stockyardlaw02_PathOrders.j1 kj3 bt148.1 bt152.1 bt154.1 true)) else (stockyardlaw02_PathOrders.j1 kj3 bt148.1 bt152.1 bt154.1 true)) else (stockyardlaw02_PathOrders.j1 kj3 bt148.1 bt152.1 bt154.1 true)) else (stockyardlaw02_PathOrders.j1 kj3 bt148.1 bt152.1 bt154.1 true)))))) = some r := by rw [if_neg (show ¬ (false = true) by decide)] at H; exact H
        clear H
        have H := H1
        clear H1
        replace H := Option.bind_eq_some_iff.mp H
        obtain ⟨⟨t148, t149⟩, A250, H⟩ := H
        replace H : ((path_Compare.f kj3 a1 a0).bind fun bt150 => ((path_Compare.f kj3 a1 a2).bind fun bt152 => ((path_Compare.f kj3 a0 a2).bind fun bt154 => (if t149 = 0 then (if bt150.2 = 0 then (if bt152.2 = 0 then (if bt154.2 = 0 then (if t148 = (wrap64 (-bt150.1)) then (if ((t148 == 0) != (a0.toList == a1.toList)) = true then (stockyardlaw02_PathOrders.j1 kj3 t148 bt152.1 bt154.1 true) else (if t148 < (-1) then (stockyardlaw02_PathOrders.j1 kj3 t148 bt152.1 bt154.1 true) else (stockyardlaw02_PathOrders.j1 kj3 t148 bt152.1 bt154.1 (decide (t148 > 1))))) else (stockyardlaw02_PathOrders.j1 kj3 t148 bt152.1 bt154.1 true)) else (stockyardlaw02_PathOrders.j1 kj3 t148 bt152.1 bt154.1 true)) else (stockyardlaw02_PathOrders.j1 kj3 t148 bt152.1 bt154.1 true)) else (stockyardlaw02_PathOrders.j1 kj3 t148 bt152.1 bt154.1 true)) else (stockyardlaw02_PathOrders.j1 kj3 t148 bt152.1 bt154.1 true))))) = some r := H
        have A25 := Aside0.mk A250
        clear A250
        replace H := Option.bind_eq_some_iff.mp H
        obtain ⟨⟨t150, t151⟩, A260, H⟩ := H
        replace H : ((path_Compare.f kj3 a1 a2).bind fun bt152 => ((path_Compare.f kj3 a0 a2).bind fun bt154 => (if t149 = 0 then (if t151 = 0 then (if bt152.2 = 0 then (if bt154.2 = 0 then (if t148 = (wrap64 (-t150)) then (if ((t148 == 0) != (a0.toList == a1.toList)) = true then (stockyardlaw02_PathOrders.j1 kj3 t148 bt152.1 bt154.1 true) else (if t148 < (-1) then (stockyardlaw02_PathOrders.j1 kj3 t148 bt152.1 bt154.1 true) else (stockyardlaw02_PathOrders.j1 kj3 t148 bt152.1 bt154.1 (decide (t148 > 1))))) else (stockyardlaw02_PathOrders.j1 kj3 t148 bt152.1 bt154.1 true)) else (stockyardlaw02_PathOrders.j1 kj3 t148 bt152.1 bt154.1 true)) else (stockyardlaw02_PathOrders.j1 kj3 t148 bt152.1 bt154.1 true)) else (stockyardlaw02_PathOrders.j1 kj3 t148 bt152.1 bt154.1 true)) else (stockyardlaw02_PathOrders.j1 kj3 t148 bt152.1 bt154.1 true)))) = some r := H
        have A26 := Aside0.mk A260
        clear A260
        replace H := Option.bind_eq_some_iff.mp H
        obtain ⟨⟨t152, t153⟩, A270, H⟩ := H
        replace H : ((path_Compare.f kj3 a0 a2).bind fun bt154 => (if t149 = 0 then (if t151 = 0 then (if t153 = 0 then (if bt154.2 = 0 then (if t148 = (wrap64 (-t150)) then (if ((t148 == 0) != (a0.toList == a1.toList)) = true then (stockyardlaw02_PathOrders.j1 kj3 t148 t152 bt154.1 true) else (if t148 < (-1) then (stockyardlaw02_PathOrders.j1 kj3 t148 t152 bt154.1 true) else (stockyardlaw02_PathOrders.j1 kj3 t148 t152 bt154.1 (decide (t148 > 1))))) else (stockyardlaw02_PathOrders.j1 kj3 t148 t152 bt154.1 true)) else (stockyardlaw02_PathOrders.j1 kj3 t148 t152 bt154.1 true)) else (stockyardlaw02_PathOrders.j1 kj3 t148 t152 bt154.1 true)) else (stockyardlaw02_PathOrders.j1 kj3 t148 t152 bt154.1 true)) else (stockyardlaw02_PathOrders.j1 kj3 t148 t152 bt154.1 true))) = some r := H
        have A27 := Aside0.mk A270
        clear A270
        replace H := Option.bind_eq_some_iff.mp H
        obtain ⟨⟨t154, t155⟩, A280, H⟩ := H
        replace H : (if t149 = 0 then (if t151 = 0 then (if t153 = 0 then (if t155 = 0 then (if t148 = (wrap64 (-t150)) then (if ((t148 == 0) != (a0.toList == a1.toList)) = true then (stockyardlaw02_PathOrders.j1 kj3 t148 t152 t154 true) else (if t148 < (-1) then (stockyardlaw02_PathOrders.j1 kj3 t148 t152 t154 true) else (stockyardlaw02_PathOrders.j1 kj3 t148 t152 t154 (decide (t148 > 1))))) else (stockyardlaw02_PathOrders.j1 kj3 t148 t152 t154 true)) else (stockyardlaw02_PathOrders.j1 kj3 t148 t152 t154 true)) else (stockyardlaw02_PathOrders.j1 kj3 t148 t152 t154 true)) else (stockyardlaw02_PathOrders.j1 kj3 t148 t152 t154 true)) else (stockyardlaw02_PathOrders.j1 kj3 t148 t152 t154 true)) = some r := H
        have A28 := Aside0.mk A280
        clear A280
        have HC29 := Aside0.mk H
        clear H
        go_upto_region 7 with (first | ((with_reducible refine gate_callee (f := 15) rfl ?_); refine goesL_ (some 44) rfl rfl Tryd.func15 (by kernel_rfl) rfl #[.string a0, .string a1] rfl (by (try simp only [List.map_toArray, List.map_cons, List.map_nil]); first | done | rfl | (simp only [List.length_drop, List.length_take]; rfl)) ?_; (with_reducible refine (path_Compare.calls kj3 a0 a1 t148 t149 _ A25.out).mono ?_); rintro e w30 ⟨rfl, hb⟩; refine ⟨_, rfl, ?_⟩; have n0_ := Aside0.mk (below_step (by repeat (first | (with_reducible first | exact HB.out | apply below_alloc | apply pw_below_drewN | apply below_drew1) | exact HB.out)) hb); clear HB; have HB := n0_; clear n0_; (try clear hb); (try clear hb2); (try clear hk); (try clear hi)) | ((with_reducible refine gate_callee (f := 15) rfl ?_); refine goesL_ (some 50) rfl rfl Tryd.func15 (by kernel_rfl) rfl #[.string a1, .string a0] rfl (by (try simp only [List.map_toArray, List.map_cons, List.map_nil]); first | done | rfl | (simp only [List.length_drop, List.length_take]; rfl)) ?_; (with_reducible refine (path_Compare.calls kj3 a1 a0 t150 t151 _ A26.out).mono ?_); rintro e w31 ⟨rfl, hb⟩; refine ⟨_, rfl, ?_⟩; have n0_ := Aside0.mk (below_step (by repeat (first | (with_reducible first | exact HB.out | apply below_alloc | apply pw_below_drewN | apply below_drew1) | exact HB.out)) hb); clear HB; have HB := n0_; clear n0_; (try clear hb); (try clear hb2); (try clear hk); (try clear hi)) | ((with_reducible refine gate_callee (f := 15) rfl ?_); refine goesL_ (some 56) rfl rfl Tryd.func15 (by kernel_rfl) rfl #[.string a1, .string a2] rfl (by (try simp only [List.map_toArray, List.map_cons, List.map_nil]); first | done | rfl | (simp only [List.length_drop, List.length_take]; rfl)) ?_; (with_reducible refine (path_Compare.calls kj3 a1 a2 t152 t153 _ A27.out).mono ?_); rintro e w32 ⟨rfl, hb⟩; refine ⟨_, rfl, ?_⟩; have n0_ := Aside0.mk (below_step (by repeat (first | (with_reducible first | exact HB.out | apply below_alloc | apply pw_below_drewN | apply below_drew1) | exact HB.out)) hb); clear HB; have HB := n0_; clear n0_; (try clear hb); (try clear hb2); (try clear hk); (try clear hi)) | ((with_reducible refine gate_callee (f := 15) rfl ?_); refine goesL_ (some 62) rfl rfl Tryd.func15 (by kernel_rfl) rfl #[.string a0, .string a2] rfl (by (try simp only [List.map_toArray, List.map_cons, List.map_nil]); first | done | rfl | (simp only [List.length_drop, List.length_take]; rfl)) ?_; (with_reducible refine (path_Compare.calls kj3 a0 a2 t154 t155 _ A28.out).mono ?_); rintro e w33 ⟨rfl, hb⟩; refine ⟨_, rfl, ?_⟩; have n0_ := Aside0.mk (below_step (by repeat (first | (with_reducible first | exact HB.out | apply below_alloc | apply pw_below_drewN | apply below_drew1) | exact HB.out)) hb); clear HB; have HB := n0_; clear n0_; (try clear hb); (try clear hb2); (try clear hk); (try clear hi)))
        (try simp only [Act.put, List.setIfInBounds_toArray, List.set_cons_zero, List.set_cons_succ])
        go_cut [100] (fun v100 wc => ∃ (kq : Nat) (x100_28 : Bool), v100 = .bool x100_28 ∧ Aside0 (stockyardlaw02_PathOrders.j1 kq t148 t152 t154 x100_28 = some r) ∧ Aside0 (kq ≤ kj3) ∧ Aside0 (Below w.heap.size w wc))
        case first =>
          have H := HC29.out
          clear HC29
          by_cases c34 : t149 = 0
          · rw [if_pos c34] at H
            have c34b0 : (t149 == 0) = true := beq_iff_eq.mpr c34
            have c34b1 : (t149 != 0) = false := bne_eq_false_iff_eq.mpr c34
            clear c34
            (first | rw [c34b0] | (simp only [i64_w, i32_w]; rw [c34b0]) | skip)
            by_cases c35 : t151 = 0
            · rw [if_pos c35] at H
              have c35b0 : (t151 == 0) = true := beq_iff_eq.mpr c35
              have c35b1 : (t151 != 0) = false := bne_eq_false_iff_eq.mpr c35
              clear c35
              by_cases c36 : t153 = 0
              · rw [if_pos c36] at H
                have c36b0 : (t153 == 0) = true := beq_iff_eq.mpr c36
                have c36b1 : (t153 != 0) = false := bne_eq_false_iff_eq.mpr c36
                clear c36
                by_cases c37 : t155 = 0
                · rw [if_pos c37] at H
                  have c37b0 : (t155 == 0) = true := beq_iff_eq.mpr c37
                  have c37b1 : (t155 != 0) = false := bne_eq_false_iff_eq.mpr c37
                  clear c37
                  by_cases c38 : t148 = (wrap64 (-t150))
                  · rw [if_pos c38] at H
                    have c38b0 : (t148 == (wrap64 (-t150))) = true := beq_iff_eq.mpr c38
                    have c38b1 : (t148 != (wrap64 (-t150))) = false := bne_eq_false_iff_eq.mpr c38
                    clear c38
                    by_cases c39 : ((t148 == 0) != (a0.toList == a1.toList)) = true
                    · rw [if_pos c39] at H
                      have c39b0 : ((t148 == 0) != (a0.toList == a1.toList)) = true := c39
                      (try (have c39b1 : decide ((t148 == 0) = (a0.toList == a1.toList)) = false := by simpa using c39))
                      (try (have c39b2 : ((t148 == 0) == (a0.toList == a1.toList)) = false := by simpa using c39))
                      (try (have c39b3 : ¬ ((t148 == 0) = (a0.toList == a1.toList)) := by simpa using c39))
                      clear c39
                      have H' := Aside0.mk H
                      clear H
                      go_wp2
                      go_meet
                      case rel => exact ⟨_, (true), (by first | rfl | (simp; done) | (simp [*]; done)), H', ⟨by have := HJ3.out; first | omega | exact Nat.le_refl _⟩, ⟨by repeat (first | (with_reducible first | exact HB.out | apply below_alloc | apply pw_below_drewN | apply below_drew1) | exact HB.out)⟩⟩
                    · rw [if_neg c39] at H
                      have c39b0 : ((t148 == 0) != (a0.toList == a1.toList)) = false := by simpa using c39
                      (try (have c39b1 : decide ((t148 == 0) = (a0.toList == a1.toList)) = true := by simpa using c39))
                      (try (have c39b2 : ((t148 == 0) == (a0.toList == a1.toList)) = true := by simpa using c39))
                      clear c39
                      by_cases c40 : t148 < (-1)
                      · rw [if_pos c40] at H
                        have c40b0 : decide (t148 < (-1)) = true := decide_eq_true c40
                        clear c40
                        have H' := Aside0.mk H
                        clear H
                        go_wp2
                        go_meet
                        case rel => exact ⟨_, (true), (by first | rfl | (simp; done) | (simp [*]; done)), H', ⟨by have := HJ3.out; first | omega | exact Nat.le_refl _⟩, ⟨by repeat (first | (with_reducible first | exact HB.out | apply below_alloc | apply pw_below_drewN | apply below_drew1) | exact HB.out)⟩⟩
                      · rw [if_neg c40] at H
                        have c40b0 : decide (t148 < (-1)) = false := decide_eq_false c40
                        clear c40
                        have H' := Aside0.mk H
                        clear H
                        go_wp2
                        go_meet
                        case rel => exact ⟨_, (decide (t148 > 1)), (by first | rfl | (simp; done) | (simp [*]; done)), H', ⟨by have := HJ3.out; first | omega | exact Nat.le_refl _⟩, ⟨by repeat (first | (with_reducible first | exact HB.out | apply below_alloc | apply pw_below_drewN | apply below_drew1) | exact HB.out)⟩⟩
                  · rw [if_neg c38] at H
                    have c38b0 : (t148 == (wrap64 (-t150))) = false := beq_eq_false_iff_ne.mpr c38
                    have c38b1 : (t148 != (wrap64 (-t150))) = true := bne_iff_ne.mpr c38
                    have H' := Aside0.mk H
                    clear H
                    go_wp2
                    go_meet
                    case rel => exact ⟨_, (true), (by first | rfl | (simp; done) | (simp [*]; done)), H', ⟨by have := HJ3.out; first | omega | exact Nat.le_refl _⟩, ⟨by repeat (first | (with_reducible first | exact HB.out | apply below_alloc | apply pw_below_drewN | apply below_drew1) | exact HB.out)⟩⟩
                · rw [if_neg c37] at H
                  have c37b0 : (t155 == 0) = false := beq_eq_false_iff_ne.mpr c37
                  have c37b1 : (t155 != 0) = true := bne_iff_ne.mpr c37
                  have H' := Aside0.mk H
                  clear H
                  go_wp2
                  go_meet
                  case rel => exact ⟨_, (true), (by first | rfl | (simp; done) | (simp [*]; done)), H', ⟨by have := HJ3.out; first | omega | exact Nat.le_refl _⟩, ⟨by repeat (first | (with_reducible first | exact HB.out | apply below_alloc | apply pw_below_drewN | apply below_drew1) | exact HB.out)⟩⟩
              · rw [if_neg c36] at H
                have c36b0 : (t153 == 0) = false := beq_eq_false_iff_ne.mpr c36
                have c36b1 : (t153 != 0) = true := bne_iff_ne.mpr c36
                have H' := Aside0.mk H
                clear H
                go_wp2
                go_meet
                case rel => exact ⟨_, (true), (by first | rfl | (simp; done) | (simp [*]; done)), H', ⟨by have := HJ3.out; first | omega | exact Nat.le_refl _⟩, ⟨by repeat (first | (with_reducible first | exact HB.out | apply below_alloc | apply pw_below_drewN | apply below_drew1) | exact HB.out)⟩⟩
            · rw [if_neg c35] at H
              have c35b0 : (t151 == 0) = false := beq_eq_false_iff_ne.mpr c35
              have c35b1 : (t151 != 0) = true := bne_iff_ne.mpr c35
              have H' := Aside0.mk H
              clear H
              go_wp2
              go_meet
              case rel => exact ⟨_, (true), (by first | rfl | (simp; done) | (simp [*]; done)), H', ⟨by have := HJ3.out; first | omega | exact Nat.le_refl _⟩, ⟨by repeat (first | (with_reducible first | exact HB.out | apply below_alloc | apply pw_below_drewN | apply below_drew1) | exact HB.out)⟩⟩
          · rw [if_neg c34] at H
            have c34b0 : (t149 == 0) = false := beq_eq_false_iff_ne.mpr c34
            have c34b1 : (t149 != 0) = true := bne_iff_ne.mpr c34
            (first | rw [c34b0] | (simp only [i64_w, i32_w]; rw [c34b0]) | skip)
            have H' := Aside0.mk H
            clear H
            go_wp2
            go_meet
            case rel => exact ⟨_, (true), (by first | rfl | (simp; done) | (simp [*]; done)), H', ⟨by have := HJ3.out; first | omega | exact Nat.le_refl _⟩, ⟨by repeat (first | (with_reducible first | exact HB.out | apply below_alloc | apply pw_below_drewN | apply below_drew1) | exact HB.out)⟩⟩
        case rest =>
          clear HC29
          try clear c1
          try clear c2
          try clear p2
          try clear c3
          try clear c4
          try clear c6
          try clear p6
          try clear c8
          try clear c10
          try clear c12
          try clear c14
          try clear c15
          try clear c22
          try clear c34
          try clear c34b0
          try clear c34b1
          try clear c35
          try clear c35b0
          try clear c35b1
          try clear c36
          try clear c36b0
          try clear c36b1
          try clear c37
          try clear c37b0
          try clear c37b1
          try clear c38
          try clear c38b0
          try clear c38b1
          try clear c39
          try clear c39b0
          try clear c39b1
          try clear c39b2
          try clear c40
          try clear c40b0
          try clear p2
          obtain ⟨kq, x100_28, rfl, HA, HJ28, HB⟩ := hcut
          cases kq with
          | zero => exact absurd HA.out (by simp [stockyardlaw02_PathOrders.j1])
          | succ kj28 =>
            have H := HA.out
            clear HA
            simp only [stockyardlaw02_PathOrders.j1] at H
            by_cases c41 : x100_28 = true
            · subst c41
              have H1 : (some false) = some r := by rw [if_pos rfl] at H; exact H
              clear H
              have H := H1
              clear H1
              obtain rfl := Option.some.inj H
              go_wp2
              go_ret
              exact ⟨by first | rfl | (simp [errW_none, errW_some] <;> rfl) | (simp [*, errW_none, errW_some] <;> rfl), by repeat (first | (with_reducible first | exact HB.out | apply below_alloc | apply pw_below_drewN | apply below_drew1) | exact HB.out)⟩
            · replace c41 := Bool.eq_false_iff.mpr c41
              subst c41
              have H1 : (if t148 ≤ 0 then (if t152 ≤ 0 then (if t154 > 0 then (some false) else (if t154 = 0 then (if t148 = 0 then (if t152 = 0 then ((stockyardlaw02_awake.f kj28).bind fun t156 => (some t156)) else (some false)) else (some false)) else ((stockyardlaw02_awake.f kj28).bind fun t157 => (some t157)))) else ((stockyardlaw02_awake.f kj28).bind fun t158 => (some t158))) else ((stockyardlaw02_awake.f kj28).bind fun t159 => (some t159))) = some r := by rw [if_neg (show ¬ (false = true) by decide)] at H; exact H
              clear H
              have H := H1
              clear H1
              by_cases c42 : t148 ≤ 0
              · rw [if_pos c42] at H
                have c42b0 : decide (t148 ≤ 0) = true := decide_eq_true c42
                clear c42
                by_cases c43 : t152 ≤ 0
                · rw [if_pos c43] at H
                  have c43b0 : decide (t152 ≤ 0) = true := decide_eq_true c43
                  clear c43
                  by_cases c44 : t154 > 0
                  · rw [if_pos c44] at H
                    have c44b0 : decide (0 < t154) = true := decide_eq_true c44
                    clear c44
                    obtain rfl := Option.some.inj H
                    go_wp2
                    go_ret
                    exact ⟨by first | rfl | (simp [errW_none, errW_some] <;> rfl) | (simp [*, errW_none, errW_some] <;> rfl), by repeat (first | (with_reducible first | exact HB.out | apply below_alloc | apply pw_below_drewN | apply below_drew1) | exact HB.out)⟩
                  · rw [if_neg c44] at H
                    have c44b0 : decide (0 < t154) = false := decide_eq_false c44
                    clear c44
                    by_cases c45 : t154 = 0
                    · rw [if_pos c45] at H
                      have c45b0 : (t154 == 0) = true := beq_iff_eq.mpr c45
                      have c45b1 : (t154 != 0) = false := bne_eq_false_iff_eq.mpr c45
                      clear c45
                      by_cases c46 : t148 = 0
                      · rw [if_pos c46] at H
                        have c46b0 : (t148 == 0) = true := beq_iff_eq.mpr c46
                        have c46b1 : (t148 != 0) = false := bne_eq_false_iff_eq.mpr c46
                        clear c46
                        by_cases c47 : t152 = 0
                        · rw [if_pos c47] at H
                          have c47b0 : (t152 == 0) = true := beq_iff_eq.mpr c47
                          have c47b1 : (t152 != 0) = false := bne_eq_false_iff_eq.mpr c47
                          clear c47
                          replace H := Option.bind_eq_some_iff.mp H
                          obtain ⟨t156, A480, H⟩ := H
                          replace H : (some t156) = some r := H
                          have A48 := Aside0.mk A480
                          clear A480
                          obtain rfl := Option.some.inj H
                          go_wp2_with (first | ((with_reducible refine gate_callee (f := 14) rfl ?_); refine goesL_ (some 123) rfl rfl Tryd.func14 (by kernel_rfl) rfl #[] rfl (by (try simp only [List.map_toArray, List.map_cons, List.map_nil]); first | done | rfl | (simp only [List.length_drop, List.length_take]; rfl)) ?_; (with_reducible refine (stockyardlaw02_awake.calls kj28  t156 _ A48.out).mono ?_); rintro e w49 ⟨rfl, hb⟩; refine ⟨_, rfl, ?_⟩; have n0_ := Aside0.mk (below_step (by repeat (first | (with_reducible first | exact HB.out | apply below_alloc | apply pw_below_drewN | apply below_drew1) | exact HB.out)) hb); clear HB; have HB := n0_; clear n0_; (try clear hb); (try clear hb2); (try clear hk); (try clear hi)))
                          go_ret
                          exact ⟨by first | rfl | (simp [errW_none, errW_some] <;> rfl) | (simp [*, errW_none, errW_some] <;> rfl), by repeat (first | (with_reducible first | exact HB.out | apply below_alloc | apply pw_below_drewN | apply below_drew1) | exact HB.out)⟩
                        · rw [if_neg c47] at H
                          have c47b0 : (t152 == 0) = false := beq_eq_false_iff_ne.mpr c47
                          have c47b1 : (t152 != 0) = true := bne_iff_ne.mpr c47
                          obtain rfl := Option.some.inj H
                          go_wp2
                          go_ret
                          exact ⟨by first | rfl | (simp [errW_none, errW_some] <;> rfl) | (simp [*, errW_none, errW_some] <;> rfl), by repeat (first | (with_reducible first | exact HB.out | apply below_alloc | apply pw_below_drewN | apply below_drew1) | exact HB.out)⟩
                      · rw [if_neg c46] at H
                        have c46b0 : (t148 == 0) = false := beq_eq_false_iff_ne.mpr c46
                        have c46b1 : (t148 != 0) = true := bne_iff_ne.mpr c46
                        obtain rfl := Option.some.inj H
                        go_wp2
                        go_ret
                        exact ⟨by first | rfl | (simp [errW_none, errW_some] <;> rfl) | (simp [*, errW_none, errW_some] <;> rfl), by repeat (first | (with_reducible first | exact HB.out | apply below_alloc | apply pw_below_drewN | apply below_drew1) | exact HB.out)⟩
                    · rw [if_neg c45] at H
                      have c45b0 : (t154 == 0) = false := beq_eq_false_iff_ne.mpr c45
                      have c45b1 : (t154 != 0) = true := bne_iff_ne.mpr c45
                      replace H := Option.bind_eq_some_iff.mp H
                      obtain ⟨t157, A500, H⟩ := H
                      replace H : (some t157) = some r := H
                      have A50 := Aside0.mk A500
                      clear A500
                      obtain rfl := Option.some.inj H
                      go_wp2_with (first | ((with_reducible refine gate_callee (f := 14) rfl ?_); refine goesL_ (some 123) rfl rfl Tryd.func14 (by kernel_rfl) rfl #[] rfl (by (try simp only [List.map_toArray, List.map_cons, List.map_nil]); first | done | rfl | (simp only [List.length_drop, List.length_take]; rfl)) ?_; (with_reducible refine (stockyardlaw02_awake.calls kj28  t157 _ A50.out).mono ?_); rintro e w51 ⟨rfl, hb⟩; refine ⟨_, rfl, ?_⟩; have n0_ := Aside0.mk (below_step (by repeat (first | (with_reducible first | exact HB.out | apply below_alloc | apply pw_below_drewN | apply below_drew1) | exact HB.out)) hb); clear HB; have HB := n0_; clear n0_; (try clear hb); (try clear hb2); (try clear hk); (try clear hi)))
                      go_ret
                      exact ⟨by first | rfl | (simp [errW_none, errW_some] <;> rfl) | (simp [*, errW_none, errW_some] <;> rfl), by repeat (first | (with_reducible first | exact HB.out | apply below_alloc | apply pw_below_drewN | apply below_drew1) | exact HB.out)⟩
                · rw [if_neg c43] at H
                  have c43b0 : decide (t152 ≤ 0) = false := decide_eq_false c43
                  clear c43
                  replace H := Option.bind_eq_some_iff.mp H
                  obtain ⟨t158, A520, H⟩ := H
                  replace H : (some t158) = some r := H
                  have A52 := Aside0.mk A520
                  clear A520
                  obtain rfl := Option.some.inj H
                  go_wp2_with (first | ((with_reducible refine gate_callee (f := 14) rfl ?_); refine goesL_ (some 123) rfl rfl Tryd.func14 (by kernel_rfl) rfl #[] rfl (by (try simp only [List.map_toArray, List.map_cons, List.map_nil]); first | done | rfl | (simp only [List.length_drop, List.length_take]; rfl)) ?_; (with_reducible refine (stockyardlaw02_awake.calls kj28  t158 _ A52.out).mono ?_); rintro e w53 ⟨rfl, hb⟩; refine ⟨_, rfl, ?_⟩; have n0_ := Aside0.mk (below_step (by repeat (first | (with_reducible first | exact HB.out | apply below_alloc | apply pw_below_drewN | apply below_drew1) | exact HB.out)) hb); clear HB; have HB := n0_; clear n0_; (try clear hb); (try clear hb2); (try clear hk); (try clear hi)))
                  go_ret
                  exact ⟨by first | rfl | (simp [errW_none, errW_some] <;> rfl) | (simp [*, errW_none, errW_some] <;> rfl), by repeat (first | (with_reducible first | exact HB.out | apply below_alloc | apply pw_below_drewN | apply below_drew1) | exact HB.out)⟩
              · rw [if_neg c42] at H
                have c42b0 : decide (t148 ≤ 0) = false := decide_eq_false c42
                clear c42
                replace H := Option.bind_eq_some_iff.mp H
                obtain ⟨t159, A540, H⟩ := H
                replace H : (some t159) = some r := H
                have A54 := Aside0.mk A540
                clear A540
                obtain rfl := Option.some.inj H
                go_wp2_with (first | ((with_reducible refine gate_callee (f := 14) rfl ?_); refine goesL_ (some 123) rfl rfl Tryd.func14 (by kernel_rfl) rfl #[] rfl (by (try simp only [List.map_toArray, List.map_cons, List.map_nil]); first | done | rfl | (simp only [List.length_drop, List.length_take]; rfl)) ?_; (with_reducible refine (stockyardlaw02_awake.calls kj28  t159 _ A54.out).mono ?_); rintro e w55 ⟨rfl, hb⟩; refine ⟨_, rfl, ?_⟩; have n0_ := Aside0.mk (below_step (by repeat (first | (with_reducible first | exact HB.out | apply below_alloc | apply pw_below_drewN | apply below_drew1) | exact HB.out)) hb); clear HB; have HB := n0_; clear n0_; (try clear hb); (try clear hb2); (try clear hk); (try clear hi)))
                go_ret
                exact ⟨by first | rfl | (simp [errW_none, errW_some] <;> rfl) | (simp [*, errW_none, errW_some] <;> rfl), by repeat (first | (with_reducible first | exact HB.out | apply below_alloc | apply pw_below_drewN | apply below_drew1) | exact HB.out)⟩

/-! ### strings_IndexByte: function 33: an external -/
def strings_IndexByte.f (a0 : ByteArray) (a1 : Int) : Option (Int) := some (Lib.indexByte a0.data.toList a1.toNat.toUInt8)
theorem strings_IndexByte.calls (a0 : ByteArray) (a1 : Int) (r : Int) (w : World) (h : strings_IndexByte.f a0 a1 = some r) :
    Calls Tryd.prog 33 #[.string a0, .int .u8 a1] w fun e w' => e = .returned (.int .i64 r) ∧ Drawn0 w w' := by
  obtain rfl := Option.some.inj h
  refine (Tryd.strings_IndexByte a0 a1 w).mono ?_
  rintro e w' ⟨rfl, rfl⟩
  exact ⟨rfl, Drawn0.refl _⟩

/-! ### stockyardref02_Component: function 18 -/
mutual
def stockyardref02_Component.j0 : Nat → ByteArray → Bool → Option (Bool)
  | 0, _, _ => none
  | k + 1, x0, x10 => if x10 = true then (some false) else (stockyardref02_Component.l0 k x0 0)
def stockyardref02_Component.l0 : Nat → ByteArray → Int → Option (Bool)
  | 0, _, _ => none
  | k + 1, x0, x3 => if x3 < (x0.size : Int) then (if 0 ≤ x3 then ((strings_IndexByte.f (⟨#[65, 66, 67, 68, 69, 70, 71, 72, 73, 74, 75, 76, 77, 78, 79, 80, 81, 82, 83, 84, 85, 86, 87, 88, 89, 90, 97, 98, 99, 100, 101, 102, 103, 104, 105, 106, 107, 108, 109, 110, 111, 112, 113, 114, 115, 116, 117, 118, 119, 120, 121, 122, 48, 49, 50, 51, 52, 53, 54, 55, 56, 57, 95, 46, 43, 45]⟩ : ByteArray) (bt x0 x3)).bind fun t160 => (if t160 < 0 then (some false) else (stockyardref02_Component.l0 k x0 (wrap64 (x3 + 1))))) else (none)) else (some true)
end
def stockyardref02_Component.f (k : Nat) (a0 : ByteArray) : Option (Bool) := if a0.toList = ([] : List UInt8) then (stockyardref02_Component.j0 k a0 true) else (if 0 < (a0.size : Int) then (stockyardref02_Component.j0 k a0 ((bt a0 0) == 46)) else (none))
theorem stockyardref02_Component.mono_l : ∀ k, (∀ y0 y1, LeO (stockyardref02_Component.j0 k y0 y1) (stockyardref02_Component.j0 (k + 1) y0 y1)) ∧ (∀ y0 y1, LeO (stockyardref02_Component.l0 k y0 y1) (stockyardref02_Component.l0 (k + 1) y0 y1))
  | 0 => ⟨fun _ _ r h => by simp [stockyardref02_Component.j0] at h, fun _ _ r h => by simp [stockyardref02_Component.l0] at h⟩
  | k + 1 => by
    obtain ⟨ih0, ih1⟩ := stockyardref02_Component.mono_l k
    refine ⟨?_, ?_⟩
    · intro y0 y1
      unfold stockyardref02_Component.j0
      repeat' first
      | (with_reducible exact ih0 _ _)
      | (with_reducible exact ih1 _ _)
      | (with_reducible exact LeO.refl _)
      | (with_reducible exact LeO.none _)
      | (with_reducible refine LeO.ite ?_ ?_)
      | (with_reducible refine LeO.bind ?_ (fun _ => ?_))
      | exact ih0 _ _
      | exact ih1 _ _
      | exact LeO.none _
      | refine LeO.ite ?_ ?_
      | refine LeO.bind ?_ (fun _ => ?_)
    · intro y0 y1
      unfold stockyardref02_Component.l0
      repeat' first
      | (with_reducible exact ih0 _ _)
      | (with_reducible exact ih1 _ _)
      | (with_reducible exact LeO.refl _)
      | (with_reducible exact LeO.none _)
      | (with_reducible refine LeO.ite ?_ ?_)
      | (with_reducible refine LeO.bind ?_ (fun _ => ?_))
      | exact ih0 _ _
      | exact ih1 _ _
      | exact LeO.none _
      | refine LeO.ite ?_ ?_
      | refine LeO.bind ?_ (fun _ => ?_)
theorem stockyardref02_Component.mono : ∀ a0 k, LeO (stockyardref02_Component.f k a0) (stockyardref02_Component.f (k + 1) a0) := by
  intro a0 k
  obtain ⟨ih0, ih1⟩ := stockyardref02_Component.mono_l k
  unfold stockyardref02_Component.f
  repeat' first
      | (with_reducible exact ih0 _ _)
      | (with_reducible exact ih1 _ _)
      | (with_reducible exact LeO.refl _)
      | (with_reducible exact LeO.none _)
      | (with_reducible refine LeO.ite ?_ ?_)
      | (with_reducible refine LeO.bind ?_ (fun _ => ?_))
      | exact ih0 _ _
      | exact ih1 _ _
      | exact LeO.none _
      | refine LeO.ite ?_ ?_
      | refine LeO.bind ?_ (fun _ => ?_)
set_option maxHeartbeats 8000000 in
set_option maxRecDepth 100000 in
theorem stockyardref02_Component.calls (k : Nat) (a0 : ByteArray) (r : Bool) (w : World) (h : stockyardref02_Component.f k a0 = some r) :
    Calls Tryd.prog 18 #[.string a0] w fun e w' => e = .returned (.bool r) ∧ Drawn0 w w' := by
  have H : (if a0.toList = ([] : List UInt8) then (stockyardref02_Component.j0 k a0 true) else (if 0 < (a0.size : Int) then (stockyardref02_Component.j0 k a0 ((bt a0 0) == 46)) else (none))) = some r := h
  clear h
  have HC2 := Aside0.mk H
  clear H
  go_enter Tryd.func18, Tryd.ntmps18
  go_upto_region 1 with (fail)
  go_cut [10] (fun v10 wc => ∃ (kq : Nat) (x10_1 : Bool), v10 = .bool x10_1 ∧ Aside0 (stockyardref02_Component.j0 kq a0 x10_1 = some r) ∧ Aside0 (kq ≤ k) ∧ Drawn0 w wc)
  case first =>
    have H := HC2.out
    clear HC2
    by_cases c3 : a0.toList = ([] : List UInt8)
    · rw [if_pos c3] at H
      have c3b0 : (a0.toList == ([] : List UInt8)) = true := beq_iff_eq.mpr c3
      have c3b1 : (a0.toList != ([] : List UInt8)) = false := bne_eq_false_iff_eq.mpr c3
      clear c3
      (first | rw [c3b0] | (simp only [i64_w, i32_w]; rw [c3b0]) | skip)
      have H' := Aside0.mk H
      clear H
      go_wp2
      go_meet
      case rel => exact ⟨_, (true), (by first | rfl | (simp; done) | (simp [*]; done)), H', ⟨by first | omega | exact Nat.le_refl _⟩, by repeat (first | exact Drawn0.refl _ | apply Drawn0.step)⟩
    · rw [if_neg c3] at H
      have c3b0 : (a0.toList == ([] : List UInt8)) = false := beq_eq_false_iff_ne.mpr c3
      have c3b1 : (a0.toList != ([] : List UInt8)) = true := bne_iff_ne.mpr c3
      (first | rw [c3b0] | (simp only [i64_w, i32_w]; rw [c3b0]) | skip)
      by_cases c4 : 0 < (a0.size : Int)
      · rw [if_pos c4] at H
        have c4b0 : decide (0 < (a0.size : Int)) = true := decide_eq_true c4
        have c4b1 : decide (0 < a0.size) = true := decide_eq_true (by omega)
        clear c4
        have H' := Aside0.mk H
        clear H
        have p5 : 0 ≤ (0 : Int) := (by omega)
        have q5 : 0 < a0.size := (by have : (0 : Int) < (a0.size : Int) := of_decide_eq_true (by first | (with_reducible assumption) | assumption); omega)
        have hx5 : ∀ h : 0 < a0.size, ((a0[0]'h).toNat : Int) = bt a0 0 := bt_at a0 0
        clear p5
        have qi5 : (0 < (a0.size : Int)) = True := eq_true (of_decide_eq_true (by first | (with_reducible assumption) | assumption))
        replace q5 := eq_true q5
        go_wp2
        go_meet
        case rel => exact ⟨_, (((bt a0 0) == 46)), (by first | rfl | (simp; done) | (simp [*]; done)), H', ⟨by first | omega | exact Nat.le_refl _⟩, by repeat (first | exact Drawn0.refl _ | apply Drawn0.step)⟩
      · rw [if_neg c4] at H
        exact absurd H (by simp)
  case rest =>
    clear HC2
    try clear c1
    try clear p2
    try clear c3
    try clear c3b0
    try clear c3b1
    try clear c4
    try clear c4b0
    try clear c4b1
    try clear p5
    try clear q5
    try clear hx5
    try clear qi5
    try clear p5
    try clear q5
    obtain ⟨kq, x10_1, rfl, HA, HJ1, ⟨mc1, rfl⟩⟩ := hcut
    cases kq with
    | zero => exact absurd HA.out (by simp [stockyardref02_Component.j0])
    | succ kj1 =>
      have H := HA.out
      clear HA
      simp only [stockyardref02_Component.j0] at H
      by_cases c6 : x10_1 = true
      · subst c6
        have H1 : (some false) = some r := by rw [if_pos rfl] at H; exact H
        clear H
        have H := H1
        clear H1
        obtain rfl := Option.some.inj H
        go_wp2
        go_ret
        exact ⟨by first | rfl | (simp; done) | (simp [*]; done), by repeat (first | exact Drawn0.refl _ | apply Drawn0.step)⟩
      · replace c6 := Bool.eq_false_iff.mpr c6
        subst c6
        have H1 : (stockyardref02_Component.l0 kj1 a0 0) = some r := by rw [if_neg (show ¬ (false = true) by decide)] at H; exact H
        clear H
        have H := H1
        clear H1
        have H' := Aside0.mk H
        clear H
        go_wp2
        go_loopg [3] kj1 (fun kq v3 w' => ∃ (x3_2 : Int), v3 = .int .i64 x3_2 ∧ Aside0 (stockyardref02_Component.l0 kq a0 x3_2 = some r) ∧ Aside0 (kq ≤ kj1) ∧ Drawn0 w w')
        case atStart => exact ⟨(0), (by first | rfl | (simp; done) | (simp [*]; done)), H', ⟨Nat.le_refl _⟩, by repeat (first | exact Drawn0.refl _ | apply Drawn0.step)⟩
        case round =>
          clear H'
          try clear c1
          try clear p2
          try clear c3
          try clear c3b0
          try clear c3b1
          try clear c4
          try clear c4b0
          try clear c4b1
          try clear p5
          try clear q5
          try clear hx5
          try clear qi5
          try clear c6
          try clear p2
          try clear p5
          try clear q5
          obtain ⟨x3_2, rfl, HA, HK2, ⟨m2, rfl⟩⟩ := hrel
          cases gk with
          | zero => exact absurd HA.out (by simp [stockyardref02_Component.l0])
          | succ k2 =>
            have H := HA.out
            clear HA
            simp only [stockyardref02_Component.l0] at H
            by_cases c7 : x3_2 < (a0.size : Int)
            · rw [if_pos c7] at H
              have c7b0 : decide (x3_2 < (a0.size : Int)) = true := decide_eq_true c7
              clear c7
              by_cases c8 : 0 ≤ x3_2
              · rw [if_pos c8] at H
                have c8b0 : decide (0 ≤ x3_2) = true := decide_eq_true c8
                clear c8
                replace H := Option.bind_eq_some_iff.mp H
                obtain ⟨t160, A100, H⟩ := H
                replace H : (if t160 < 0 then (some false) else (stockyardref02_Component.l0 k2 a0 (wrap64 (x3_2 + 1)))) = some r := H
                have A10 := Aside0.mk A100
                clear A100
                by_cases c11 : t160 < 0
                · rw [if_pos c11] at H
                  have c11b0 : decide (t160 < 0) = true := decide_eq_true c11
                  clear c11
                  obtain rfl := Option.some.inj H
                  have p9 : 0 ≤ (x3_2 : Int) := of_decide_eq_true (by first | (with_reducible assumption) | assumption)
                  have q9 : x3_2 < (a0.size : Int) := of_decide_eq_true (by first | (with_reducible assumption) | assumption)
                  have hx9 := bt_at a0 x3_2
                  replace p9 := eq_true p9
                  replace q9 := eq_true q9
                  go_wp2_with (first | ((with_reducible refine gate_callee (f := 33) rfl ?_); refine goesL_ (some 20) rfl rfl Tryd.func33 (by kernel_rfl) rfl #[.string (⟨#[65, 66, 67, 68, 69, 70, 71, 72, 73, 74, 75, 76, 77, 78, 79, 80, 81, 82, 83, 84, 85, 86, 87, 88, 89, 90, 97, 98, 99, 100, 101, 102, 103, 104, 105, 106, 107, 108, 109, 110, 111, 112, 113, 114, 115, 116, 117, 118, 119, 120, 121, 122, 48, 49, 50, 51, 52, 53, 54, 55, 56, 57, 95, 46, 43, 45]⟩ : ByteArray), .int .u8 (bt a0 x3_2)] rfl (by (try simp only [List.map_toArray, List.map_cons, List.map_nil]); first | done | rfl | (simp only [List.length_drop, List.length_take]; rfl)) ?_; (with_reducible refine (strings_IndexByte.calls (⟨#[65, 66, 67, 68, 69, 70, 71, 72, 73, 74, 75, 76, 77, 78, 79, 80, 81, 82, 83, 84, 85, 86, 87, 88, 89, 90, 97, 98, 99, 100, 101, 102, 103, 104, 105, 106, 107, 108, 109, 110, 111, 112, 113, 114, 115, 116, 117, 118, 119, 120, 121, 122, 48, 49, 50, 51, 52, 53, 54, 55, 56, 57, 95, 46, 43, 45]⟩ : ByteArray) (bt a0 x3_2) t160 _ A10.out).mono ?_); rintro e w' ⟨rfl, ⟨nd, rfl⟩⟩; refine ⟨_, rfl, ?_⟩))
                  go_ret
                  exact ⟨by first | rfl | (simp; done) | (simp [*]; done), by repeat (first | exact Drawn0.refl _ | apply Drawn0.step)⟩
                · rw [if_neg c11] at H
                  have c11b0 : decide (t160 < 0) = false := decide_eq_false c11
                  clear c11
                  have H' := Aside0.mk H
                  clear H
                  have p9 : 0 ≤ (x3_2 : Int) := of_decide_eq_true (by first | (with_reducible assumption) | assumption)
                  have q9 : x3_2 < (a0.size : Int) := of_decide_eq_true (by first | (with_reducible assumption) | assumption)
                  have hx9 := bt_at a0 x3_2
                  replace p9 := eq_true p9
                  replace q9 := eq_true q9
                  go_wp2_with (first | ((with_reducible refine gate_callee (f := 33) rfl ?_); refine goesL_ (some 20) rfl rfl Tryd.func33 (by kernel_rfl) rfl #[.string (⟨#[65, 66, 67, 68, 69, 70, 71, 72, 73, 74, 75, 76, 77, 78, 79, 80, 81, 82, 83, 84, 85, 86, 87, 88, 89, 90, 97, 98, 99, 100, 101, 102, 103, 104, 105, 106, 107, 108, 109, 110, 111, 112, 113, 114, 115, 116, 117, 118, 119, 120, 121, 122, 48, 49, 50, 51, 52, 53, 54, 55, 56, 57, 95, 46, 43, 45]⟩ : ByteArray), .int .u8 (bt a0 x3_2)] rfl (by (try simp only [List.map_toArray, List.map_cons, List.map_nil]); first | done | rfl | (simp only [List.length_drop, List.length_take]; rfl)) ?_; (with_reducible refine (strings_IndexByte.calls (⟨#[65, 66, 67, 68, 69, 70, 71, 72, 73, 74, 75, 76, 77, 78, 79, 80, 81, 82, 83, 84, 85, 86, 87, 88, 89, 90, 97, 98, 99, 100, 101, 102, 103, 104, 105, 106, 107, 108, 109, 110, 111, 112, 113, 114, 115, 116, 117, 118, 119, 120, 121, 122, 48, 49, 50, 51, 52, 53, 54, 55, 56, 57, 95, 46, 43, 45]⟩ : ByteArray) (bt a0 x3_2) t160 _ A10.out).mono ?_); rintro e w' ⟨rfl, ⟨nd, rfl⟩⟩; refine ⟨_, rfl, ?_⟩))
                  go_roundg k2
                  case measure => have := HJ1.out; have := HK2.out; omega
                  case rel => exact ⟨(wrap64 (x3_2 + 1)), (by first | rfl | (simp; done) | (simp [*]; done)), H', ⟨by have := HJ1.out; have := HK2.out; omega⟩, by repeat (first | exact Drawn0.refl _ | apply Drawn0.step)⟩
              · rw [if_neg c8] at H
                exact absurd H (by simp)
            · rw [if_neg c7] at H
              have c7b0 : decide (x3_2 < (a0.size : Int)) = false := decide_eq_false c7
              clear c7
              obtain rfl := Option.some.inj H
              go_wp2
              go_ret
              exact ⟨by first | rfl | (simp; done) | (simp [*]; done), by repeat (first | exact Drawn0.refl _ | apply Drawn0.step)⟩

/-! ### strings_HasPrefix: function 37 -/
def strings_HasPrefix.f (a0 : ByteArray) (a1 : ByteArray) : Option (Bool) := (stringslite_HasPrefix.f a0 a1).bind fun t161 => (some t161)
set_option maxHeartbeats 8000000 in
set_option maxRecDepth 100000 in
theorem strings_HasPrefix.calls (a0 : ByteArray) (a1 : ByteArray) (r : Bool) (w : World) (h : strings_HasPrefix.f a0 a1 = some r) :
    Calls Tryd.prog 37 #[.string a0, .string a1] w fun e w' => e = .returned (.bool r) ∧ Drawn0 w w' := by
  have H : ((stringslite_HasPrefix.f a0 a1).bind fun t161 => (some t161)) = some r := h
  clear h
  replace H := Option.bind_eq_some_iff.mp H
  obtain ⟨t161, A30, H⟩ := H
  replace H : (some t161) = some r := H
  have A3 := Aside0.mk A30
  clear A30
  obtain rfl := Option.some.inj H
  go_enter Tryd.func37, Tryd.ntmps37
  go_wp2_with (first | ((with_reducible refine gate_callee (f := 45) rfl ?_); refine goesL_ (some 7) rfl rfl Tryd.func45 (by kernel_rfl) rfl #[.string a0, .string a1] rfl (by (try simp only [List.map_toArray, List.map_cons, List.map_nil]); first | done | rfl | (simp only [List.length_drop, List.length_take]; rfl)) ?_; (with_reducible refine (stringslite_HasPrefix.calls a0 a1 t161 _ A3.out).mono ?_); rintro e w' ⟨rfl, ⟨nd, rfl⟩⟩; refine ⟨_, rfl, ?_⟩))
  go_ret
  exact ⟨by first | rfl | (simp; done) | (simp [*]; done), by repeat (first | exact Drawn0.refl _ | apply Drawn0.step)⟩

end Go.Proofs.YtgbnjkfhkhkkfaaDoor.P

-- Written by a program of this session (wip/gen.py) over the kit's print: each Go function as a plain Lean function, and the proof that the Go code comes to it. Nothing here is trusted: Lean checks it.
import Derived.Test.YtgbnjkfhkhkkfaaDoorPx0
import Derived.Test.YtgbnjkfhkhkkfaaDoorPx1
import Derived.Test.YtgbnjkfhkhkkfaaDoorPx2
import Derived.Test.YtgbnjkfhkhkkfaaDoorPx4
import Derived.Test.YtgbnjkfhkhkkfaaDoorPx5
namespace Go.Proofs.YtgbnjkfhkhkkfaaDoor.P
open Go.RowKit Go.Proofs.YtgbnjkfhkhkkfaaDoorW.PrintWords Go.Proofs.YtgbnjkfhkhkkfaaDoorW.PrintLast Go.Proofs.YtgbnjkfhkhkkfaaDoorW.PrintMore
attribute [local go_sem] str_gtr str_leq str_geq max2_int min2_int max_two min_two max_three min_three max_four min_four   -- for this text's walks alone
set_option linter.unusedVariables false
set_option linter.unusedSimpArgs false

/-! ### stockyardlaw02_PathNeighbours: function 7 -/
mutual
def stockyardlaw02_PathNeighbours.j0 : Nat → ByteArray → ByteArray → ByteArray → ByteArray → Bool → Option (Bool)
  | 0, _, _, _, _, _ => none
  | k + 1, x0, x1, x2, x3, x31 => if x31 = true then ((stockyardlaw02_awake.f k).bind fun t236 => (some t236)) else ((path_Under.f k x0 x1).bind fun bt237 => ((path_Under.f k x0 x3).bind fun bt239 => ((path_Compare.f k x1 x2).bind fun bt241 => ((path_Compare.f k x2 x3).bind fun bt243 => (if bt237.2 = 0 then (if bt239.2 = 0 then (if bt241.2 = 0 then (if bt243.2 = 0 then (if bt237.1 = true then (if bt239.1 = true then (if bt241.1 > 0 then (stockyardlaw02_PathNeighbours.j1 k x0 x2 true) else (stockyardlaw02_PathNeighbours.j1 k x0 x2 (decide (bt243.1 > 0)))) else (stockyardlaw02_PathNeighbours.j1 k x0 x2 true)) else (stockyardlaw02_PathNeighbours.j1 k x0 x2 true)) else (stockyardlaw02_PathNeighbours.j1 k x0 x2 true)) else (stockyardlaw02_PathNeighbours.j1 k x0 x2 true)) else (stockyardlaw02_PathNeighbours.j1 k x0 x2 true)) else (stockyardlaw02_PathNeighbours.j1 k x0 x2 true))))))
def stockyardlaw02_PathNeighbours.j1 : Nat → ByteArray → ByteArray → Bool → Option (Bool)
  | 0, _, _, _ => none
  | k + 1, x0, x2, x86 => if x86 = true then ((stockyardlaw02_awake.f k).bind fun t245 => (some t245)) else ((path_Under.f k x0 x2).bind fun bt246 => (if bt246.1 = true then (if bt246.2 = 0 then ((stockyardlaw02_awake.f k).bind fun t248 => (some t248)) else (some false)) else (some false)))
end
def stockyardlaw02_PathNeighbours.f (k : Nat) (a0 : ByteArray) (a1 : ByteArray) (a2 : ByteArray) (a3 : ByteArray) : Option (Bool) := (stockyardlaw02_long.f a0).bind fun t232 => (if t232 = true then (stockyardlaw02_PathNeighbours.j0 k a0 a1 a2 a3 true) else ((stockyardlaw02_long.f a1).bind fun t233 => (if t233 = true then (stockyardlaw02_PathNeighbours.j0 k a0 a1 a2 a3 true) else ((stockyardlaw02_long.f a2).bind fun t234 => (if t234 = true then (stockyardlaw02_PathNeighbours.j0 k a0 a1 a2 a3 true) else ((stockyardlaw02_long.f a3).bind fun t235 => (stockyardlaw02_PathNeighbours.j0 k a0 a1 a2 a3 t235)))))))
theorem stockyardlaw02_PathNeighbours.mono_l : ∀ k, (∀ y0 y1 y2 y3 y4, LeO (stockyardlaw02_PathNeighbours.j0 k y0 y1 y2 y3 y4) (stockyardlaw02_PathNeighbours.j0 (k + 1) y0 y1 y2 y3 y4)) ∧ (∀ y0 y1 y2, LeO (stockyardlaw02_PathNeighbours.j1 k y0 y1 y2) (stockyardlaw02_PathNeighbours.j1 (k + 1) y0 y1 y2))
  | 0 => ⟨fun _ _ _ _ _ r h => by simp [stockyardlaw02_PathNeighbours.j0] at h, fun _ _ _ r h => by simp [stockyardlaw02_PathNeighbours.j1] at h⟩
  | k + 1 => by
    obtain ⟨ih0, ih1⟩ := stockyardlaw02_PathNeighbours.mono_l k
    refine ⟨?_, ?_⟩
    · intro y0 y1 y2 y3 y4
      unfold stockyardlaw02_PathNeighbours.j0
      repeat' first
      | (with_reducible exact ih0 _ _ _ _ _)
      | (with_reducible exact ih1 _ _ _)
      | (with_reducible exact path_Compare.mono _ _ _)
      | (with_reducible exact path_Under.mono _ _ _)
      | (with_reducible exact stockyardlaw02_awake.mono _)
      | (with_reducible exact LeO.refl _)
      | (with_reducible exact LeO.none _)
      | (with_reducible refine LeO.ite ?_ ?_)
      | (with_reducible refine LeO.bind ?_ (fun _ => ?_))
      | exact ih0 _ _ _ _ _
      | exact ih1 _ _ _
      | exact path_Compare.mono _ _ _
      | exact path_Under.mono _ _ _
      | exact stockyardlaw02_awake.mono _
      | exact LeO.none _
      | refine LeO.ite ?_ ?_
      | refine LeO.bind ?_ (fun _ => ?_)
    · intro y0 y1 y2
      unfold stockyardlaw02_PathNeighbours.j1
      repeat' first
      | (with_reducible exact ih0 _ _ _ _ _)
      | (with_reducible exact ih1 _ _ _)
      | (with_reducible exact path_Compare.mono _ _ _)
      | (with_reducible exact path_Under.mono _ _ _)
      | (with_reducible exact stockyardlaw02_awake.mono _)
      | (with_reducible exact LeO.refl _)
      | (with_reducible exact LeO.none _)
      | (with_reducible refine LeO.ite ?_ ?_)
      | (with_reducible refine LeO.bind ?_ (fun _ => ?_))
      | exact ih0 _ _ _ _ _
      | exact ih1 _ _ _
      | exact path_Compare.mono _ _ _
      | exact path_Under.mono _ _ _
      | exact stockyardlaw02_awake.mono _
      | exact LeO.none _
      | refine LeO.ite ?_ ?_
      | refine LeO.bind ?_ (fun _ => ?_)
theorem stockyardlaw02_PathNeighbours.mono : ∀ a0 a1 a2 a3 k, LeO (stockyardlaw02_PathNeighbours.f k a0 a1 a2 a3) (stockyardlaw02_PathNeighbours.f (k + 1) a0 a1 a2 a3) := by
  intro a0 a1 a2 a3 k
  obtain ⟨ih0, ih1⟩ := stockyardlaw02_PathNeighbours.mono_l k
  unfold stockyardlaw02_PathNeighbours.f
  repeat' first
      | (with_reducible exact ih0 _ _ _ _ _)
      | (with_reducible exact ih1 _ _ _)
      | (with_reducible exact path_Compare.mono _ _ _)
      | (with_reducible exact path_Under.mono _ _ _)
      | (with_reducible exact stockyardlaw02_awake.mono _)
      | (with_reducible exact LeO.refl _)
      | (with_reducible exact LeO.none _)
      | (with_reducible refine LeO.ite ?_ ?_)
      | (with_reducible refine LeO.bind ?_ (fun _ => ?_))
      | exact ih0 _ _ _ _ _
      | exact ih1 _ _ _
      | exact path_Compare.mono _ _ _
      | exact path_Under.mono _ _ _
      | exact stockyardlaw02_awake.mono _
      | exact LeO.none _
      | refine LeO.ite ?_ ?_
      | refine LeO.bind ?_ (fun _ => ?_)
set_option maxHeartbeats 8000000 in
set_option maxRecDepth 100000 in
theorem stockyardlaw02_PathNeighbours.calls (k : Nat) (a0 : ByteArray) (a1 : ByteArray) (a2 : ByteArray) (a3 : ByteArray) (r : Bool) (w : World) (h : stockyardlaw02_PathNeighbours.f k a0 a1 a2 a3 = some r) :
    Calls Tryd.prog 7 #[.string a0, .string a1, .string a2, .string a3] w fun e w' => e = .returned (.bool r) ∧ Below w.heap.size w w' := by
  have HB := Aside0.mk (Below.refl w.heap.size w)
  have H : ((stockyardlaw02_long.f a0).bind fun t232 => (if t232 = true then (stockyardlaw02_PathNeighbours.j0 k a0 a1 a2 a3 true) else ((stockyardlaw02_long.f a1).bind fun t233 => (if t233 = true then (stockyardlaw02_PathNeighbours.j0 k a0 a1 a2 a3 true) else ((stockyardlaw02_long.f a2).bind fun t234 => (if t234 = true then (stockyardlaw02_PathNeighbours.j0 k a0 a1 a2 a3 true) else ((stockyardlaw02_long.f a3).bind fun t235 => (stockyardlaw02_PathNeighbours.j0 k a0 a1 a2 a3 t235)))))))) = some r := h
  clear h
  have HC5 := Aside0.mk H
  clear H
  go_enter Tryd.func7, Tryd.ntmps7
  go_upto_region 1 with (fail)
  go_cut [31] (fun v31 wc => ∃ (kq : Nat) (x31_4 : Bool), v31 = .bool x31_4 ∧ Aside0 (stockyardlaw02_PathNeighbours.j0 kq a0 a1 a2 a3 x31_4 = some r) ∧ Aside0 (kq ≤ k) ∧ Aside0 (Below w.heap.size w wc))
  case first =>
    have H := HC5.out
    clear HC5
    replace H := Option.bind_eq_some_iff.mp H
    obtain ⟨t232, A60, H⟩ := H
    replace H : (if t232 = true then (stockyardlaw02_PathNeighbours.j0 k a0 a1 a2 a3 true) else ((stockyardlaw02_long.f a1).bind fun t233 => (if t233 = true then (stockyardlaw02_PathNeighbours.j0 k a0 a1 a2 a3 true) else ((stockyardlaw02_long.f a2).bind fun t234 => (if t234 = true then (stockyardlaw02_PathNeighbours.j0 k a0 a1 a2 a3 true) else ((stockyardlaw02_long.f a3).bind fun t235 => (stockyardlaw02_PathNeighbours.j0 k a0 a1 a2 a3 t235))))))) = some r := H
    have A6 := Aside0.mk A60
    clear A60
    by_cases c7 : t232 = true
    · subst c7
      have H1 : (stockyardlaw02_PathNeighbours.j0 k a0 a1 a2 a3 true) = some r := by rw [if_pos rfl] at H; exact H
      clear H
      have H := H1
      clear H1
      have H' := Aside0.mk H
      clear H
      go_wp2_with (first | ((with_reducible refine gate_callee (f := 12) rfl ?_); refine goesL_ (some 19) rfl rfl Tryd.func12 (by kernel_rfl) rfl #[.string a0] rfl (by (try simp only [List.map_toArray, List.map_cons, List.map_nil]); first | done | rfl | (simp only [List.length_drop, List.length_take]; rfl)) ?_; (with_reducible refine (stockyardlaw02_long.calls a0 true _ A6.out).mono ?_); rintro e w' ⟨rfl, ⟨nd, rfl⟩⟩; refine ⟨_, rfl, ?_⟩))
      go_meet
      case rel => exact ⟨_, (true), (by first | rfl | (simp; done) | (simp [*]; done)), H', ⟨by first | omega | exact Nat.le_refl _⟩, ⟨by repeat (first | (with_reducible first | exact HB.out | apply below_alloc | apply pw_below_drewN | apply below_drew1) | exact HB.out)⟩⟩
    · replace c7 := Bool.eq_false_iff.mpr c7
      subst c7
      have H1 : ((stockyardlaw02_long.f a1).bind fun t233 => (if t233 = true then (stockyardlaw02_PathNeighbours.j0 k a0 a1 a2 a3 true) else ((stockyardlaw02_long.f a2).bind fun t234 => (if t234 = true then (stockyardlaw02_PathNeighbours.j0 k a0 a1 a2 a3 true) else ((stockyardlaw02_long.f a3).bind fun t235 => (stockyardlaw02_PathNeighbours.j0 k a0 a1 a2 a3 t235)))))) = some r := by rw [if_neg (show ¬ (false = true) by decide)] at H; exact H
      clear H
      have H := H1
      clear H1
      replace H := Option.bind_eq_some_iff.mp H
      obtain ⟨t233, A80, H⟩ := H
      replace H : (if t233 = true then (stockyardlaw02_PathNeighbours.j0 k a0 a1 a2 a3 true) else ((stockyardlaw02_long.f a2).bind fun t234 => (if t234 = true then (stockyardlaw02_PathNeighbours.j0 k a0 a1 a2 a3 true) else ((stockyardlaw02_long.f a3).bind fun t235 => (stockyardlaw02_PathNeighbours.j0 k a0 a1 a2 a3 t235))))) = some r := H
      have A8 := Aside0.mk A80
      clear A80
      by_cases c9 : t233 = true
      · subst c9
        have H1 : (stockyardlaw02_PathNeighbours.j0 k a0 a1 a2 a3 true) = some r := by rw [if_pos rfl] at H; exact H
        clear H
        have H := H1
        clear H1
        have H' := Aside0.mk H
        clear H
        go_wp2_with (first | ((with_reducible refine gate_callee (f := 12) rfl ?_); refine goesL_ (some 19) rfl rfl Tryd.func12 (by kernel_rfl) rfl #[.string a0] rfl (by (try simp only [List.map_toArray, List.map_cons, List.map_nil]); first | done | rfl | (simp only [List.length_drop, List.length_take]; rfl)) ?_; (with_reducible refine (stockyardlaw02_long.calls a0 false _ A6.out).mono ?_); rintro e w' ⟨rfl, ⟨nd, rfl⟩⟩; refine ⟨_, rfl, ?_⟩) | (go_at_call 12; (with_reducible refine (stockyardlaw02_long.calls a1 true _ A8.out).mono ?_); rintro e w' ⟨rfl, ⟨nd, rfl⟩⟩))
        go_meet
        case rel => exact ⟨_, (true), (by first | rfl | (simp; done) | (simp [*]; done)), H', ⟨by first | omega | exact Nat.le_refl _⟩, ⟨by repeat (first | (with_reducible first | exact HB.out | apply below_alloc | apply pw_below_drewN | apply below_drew1) | exact HB.out)⟩⟩
      · replace c9 := Bool.eq_false_iff.mpr c9
        subst c9
        have H1 : ((stockyardlaw02_long.f a2).bind fun t234 => (if t234 = true then (stockyardlaw02_PathNeighbours.j0 k a0 a1 a2 a3 true) else ((stockyardlaw02_long.f a3).bind fun t235 => (stockyardlaw02_PathNeighbours.j0 k a0 a1 a2 a3 t235)))) = some r := by rw [if_neg (show ¬ (false = true) by decide)] at H; exact H
        clear H
        have H := H1
        clear H1
        replace H := Option.bind_eq_some_iff.mp H
        obtain ⟨t234, A100, H⟩ := H
        replace H : (if t234 = true then (stockyardlaw02_PathNeighbours.j0 k a0 a1 a2 a3 true) else ((stockyardlaw02_long.f a3).bind fun t235 => (stockyardlaw02_PathNeighbours.j0 k a0 a1 a2 a3 t235))) = some r := H
        have A10 := Aside0.mk A100
        clear A100
        by_cases c11 : t234 = true
        · subst c11
          have H1 : (stockyardlaw02_PathNeighbours.j0 k a0 a1 a2 a3 true) = some r := by rw [if_pos rfl] at H; exact H
          clear H
          have H := H1
          clear H1
          have H' := Aside0.mk H
          clear H
          go_wp2_with (first | ((with_reducible refine gate_callee (f := 12) rfl ?_); refine goesL_ (some 19) rfl rfl Tryd.func12 (by kernel_rfl) rfl #[.string a0] rfl (by (try simp only [List.map_toArray, List.map_cons, List.map_nil]); first | done | rfl | (simp only [List.length_drop, List.length_take]; rfl)) ?_; (with_reducible refine (stockyardlaw02_long.calls a0 false _ A6.out).mono ?_); rintro e w' ⟨rfl, ⟨nd, rfl⟩⟩; refine ⟨_, rfl, ?_⟩) | (go_at_call 12; (with_reducible refine (stockyardlaw02_long.calls a1 false _ A8.out).mono ?_); rintro e w' ⟨rfl, ⟨nd, rfl⟩⟩) | (go_at_call 12; (with_reducible refine (stockyardlaw02_long.calls a2 true _ A10.out).mono ?_); rintro e w' ⟨rfl, ⟨nd, rfl⟩⟩))
          go_meet
          case rel => exact ⟨_, (true), (by first | rfl | (simp; done) | (simp [*]; done)), H', ⟨by first | omega | exact Nat.le_refl _⟩, ⟨by repeat (first | (with_reducible first | exact HB.out | apply below_alloc | apply pw_below_drewN | apply below_drew1) | exact HB.out)⟩⟩
        · replace c11 := Bool.eq_false_iff.mpr c11
          subst c11
          have H1 : ((stockyardlaw02_long.f a3).bind fun t235 => (stockyardlaw02_PathNeighbours.j0 k a0 a1 a2 a3 t235)) = some r := by rw [if_neg (show ¬ (false = true) by decide)] at H; exact H
          clear H
          have H := H1
          clear H1
          replace H := Option.bind_eq_some_iff.mp H
          obtain ⟨t235, A120, H⟩ := H
          replace H : (stockyardlaw02_PathNeighbours.j0 k a0 a1 a2 a3 t235) = some r := H
          have A12 := Aside0.mk A120
          clear A120
          have H' := Aside0.mk H
          clear H
          go_wp2_with (first | ((with_reducible refine gate_callee (f := 12) rfl ?_); refine goesL_ (some 19) rfl rfl Tryd.func12 (by kernel_rfl) rfl #[.string a0] rfl (by (try simp only [List.map_toArray, List.map_cons, List.map_nil]); first | done | rfl | (simp only [List.length_drop, List.length_take]; rfl)) ?_; (with_reducible refine (stockyardlaw02_long.calls a0 false _ A6.out).mono ?_); rintro e w' ⟨rfl, ⟨nd, rfl⟩⟩; refine ⟨_, rfl, ?_⟩) | (go_at_call 12; (with_reducible refine (stockyardlaw02_long.calls a1 false _ A8.out).mono ?_); rintro e w' ⟨rfl, ⟨nd, rfl⟩⟩) | (go_at_call 12; (with_reducible refine (stockyardlaw02_long.calls a2 false _ A10.out).mono ?_); rintro e w' ⟨rfl, ⟨nd, rfl⟩⟩) | (go_at_call 12; (with_reducible refine (stockyardlaw02_long.calls a3 t235 _ A12.out).mono ?_); rintro e w' ⟨rfl, ⟨nd, rfl⟩⟩))
          go_meet
          case rel => exact ⟨_, (t235), (by first | rfl | (simp; done) | (simp [*]; done)), H', ⟨by first | omega | exact Nat.le_refl _⟩, ⟨by repeat (first | (with_reducible first | exact HB.out | apply below_alloc | apply pw_below_drewN | apply below_drew1) | exact HB.out)⟩⟩
  case rest =>
    clear HC5
    try clear c1
    try clear p2
    try clear c7
    try clear c9
    try clear c11
    try clear c12
    obtain ⟨kq, x31_4, rfl, HA, HJ4, HB⟩ := hcut
    cases kq with
    | zero => exact absurd HA.out (by simp [stockyardlaw02_PathNeighbours.j0])
    | succ kj4 =>
      have H := HA.out
      clear HA
      simp only [stockyardlaw02_PathNeighbours.j0] at H
      by_cases c13 : x31_4 = true
      · subst c13
        have H1 : ((stockyardlaw02_awake.f kj4).bind fun t236 => (some t236)) = some r := by rw [if_pos rfl] at H; exact H
        clear H
        have H := H1
        clear H1
        replace H := Option.bind_eq_some_iff.mp H
        obtain ⟨t236, A140, H⟩ := H
        replace H : (some t236) = some r := H
        have A14 := Aside0.mk A140
        clear A140
        obtain rfl := Option.some.inj H
        go_wp2_with (first | ((with_reducible refine gate_callee (f := 14) rfl ?_); refine goesL_ (some 32) rfl rfl Tryd.func14 (by kernel_rfl) rfl #[] rfl (by (try simp only [List.map_toArray, List.map_cons, List.map_nil]); first | done | rfl | (simp only [List.length_drop, List.length_take]; rfl)) ?_; (with_reducible refine (stockyardlaw02_awake.calls kj4  t236 _ A14.out).mono ?_); rintro e w15 ⟨rfl, hb⟩; refine ⟨_, rfl, ?_⟩; have n0_ := Aside0.mk (below_step (by repeat (first | (with_reducible first | exact HB.out | apply below_alloc | apply pw_below_drewN | apply below_drew1) | exact HB.out)) hb); clear HB; have HB := n0_; clear n0_; (try clear hb); (try clear hb2); (try clear hk); (try clear hi)))
        go_ret
        exact ⟨by first | rfl | (simp [errW_none, errW_some] <;> rfl) | (simp [*, errW_none, errW_some] <;> rfl), by repeat (first | (with_reducible first | exact HB.out | apply below_alloc | apply pw_below_drewN | apply below_drew1) | exact HB.out)⟩
      · replace c13 := Bool.eq_false_iff.mpr c13
        subst c13
        have H1 : ((path_Under.f kj4 a0 a1).bind fun bt237 => ((path_Under.f kj4 a0 a3).bind fun bt239 => ((path_Compare.f kj4 a1 a2).bind fun bt241 => ((path_Compare.f kj4 a2 a3).bind fun bt243 => (if bt237.2 = 0 then (if bt239.2 = 0 then (if bt241.2 = 0 then (if bt243.2 = 0 then (if bt237.1 = true then (if bt239.1 = true then (if bt241.1 > 0 then (stockyardlaw02_PathNeighbours.j1 kj4 a0 a2 true) else (stockyardlaw02_PathNeighbours.j1 kj4 a0 a2 (decide (bt243.1 > 0)))) else (stockyardlaw02_PathNeighbours.j1 kj4 a0 a2 true)) else (stockyardlaw02_PathNeighbours.j1 kj4 a0 a2 true)) else (stockyardlaw02_PathNeighbours.j1 kj4 a0 a2 true)) else (stockyardlaw02_PathNeighbours.j1 kj4 a0 a2 true)) else (stockyardlaw02_PathNeighbours.j1 kj4 a0 a2 true)) else (stockyardlaw02_PathNeighbours.j1 kj4 a0 a2 true)))))) = some r := by rw [if_neg (show ¬ (false = true) by decide)] at H; exact H
        clear H
        have H := H1
        clear H1
        replace H := Option.bind_eq_some_iff.mp H
        obtain ⟨⟨t237, t238⟩, A160, H⟩ := H
        replace H : ((path_Under.f kj4 a0 a3).bind fun bt239 => ((path_Compare.f kj4 a1 a2).bind fun bt241 => ((path_Compare.f kj4 a2 a3).bind fun bt243 => (if t238 = 0 then (if bt239.2 = 0 then (if bt241.2 = 0 then (if bt243.2 = 0 then (if t237 = true then (if bt239.1 = true then (if bt241.1 > 0 then (stockyardlaw02_PathNeighbours.j1 kj4 a0 a2 true) else (stockyardlaw02_PathNeighbours.j1 kj4 a0 a2 (decide (bt243.1 > 0)))) else (stockyardlaw02_PathNeighbours.j1 kj4 a0 a2 true)) else (stockyardlaw02_PathNeighbours.j1 kj4 a0 a2 true)) else (stockyardlaw02_PathNeighbours.j1 kj4 a0 a2 true)) else (stockyardlaw02_PathNeighbours.j1 kj4 a0 a2 true)) else (stockyardlaw02_PathNeighbours.j1 kj4 a0 a2 true)) else (stockyardlaw02_PathNeighbours.j1 kj4 a0 a2 true))))) = some r := H
        have A16 := Aside0.mk A160
        clear A160
        replace H := Option.bind_eq_some_iff.mp H
        obtain ⟨⟨t239, t240⟩, A170, H⟩ := H
        replace H : ((path_Compare.f kj4 a1 a2).bind fun bt241 => ((path_Compare.f kj4 a2 a3).bind fun bt243 => (if t238 = 0 then (if t240 = 0 then (if bt241.2 = 0 then (if bt243.2 = 0 then (if t237 = true then (if t239 = true then (if bt241.1 > 0 then (stockyardlaw02_PathNeighbours.j1 kj4 a0 a2 true) else (stockyardlaw02_PathNeighbours.j1 kj4 a0 a2 (decide (bt243.1 > 0)))) else (stockyardlaw02_PathNeighbours.j1 kj4 a0 a2 true)) else (stockyardlaw02_PathNeighbours.j1 kj4 a0 a2 true)) else (stockyardlaw02_PathNeighbours.j1 kj4 a0 a2 true)) else (stockyardlaw02_PathNeighbours.j1 kj4 a0 a2 true)) else (stockyardlaw02_PathNeighbours.j1 kj4 a0 a2 true)) else (stockyardlaw02_PathNeighbours.j1 kj4 a0 a2 true)))) = some r := H
        have A17 := Aside0.mk A170
        clear A170
        replace H := Option.bind_eq_some_iff.mp H
        obtain ⟨⟨t241, t242⟩, A180, H⟩ := H
        replace H : ((path_Compare.f kj4 a2 a3).bind fun bt243 => (if t238 = 0 then (if t240 = 0 then (if t242 = 0 then (if bt243.2 = 0 then (if t237 = true then (if t239 = true then (if t241 > 0 then (stockyardlaw02_PathNeighbours.j1 kj4 a0 a2 true) else (stockyardlaw02_PathNeighbours.j1 kj4 a0 a2 (decide (bt243.1 > 0)))) else (stockyardlaw02_PathNeighbours.j1 kj4 a0 a2 true)) else (stockyardlaw02_PathNeighbours.j1 kj4 a0 a2 true)) else (stockyardlaw02_PathNeighbours.j1 kj4 a0 a2 true)) else (stockyardlaw02_PathNeighbours.j1 kj4 a0 a2 true)) else (stockyardlaw02_PathNeighbours.j1 kj4 a0 a2 true)) else (stockyardlaw02_PathNeighbours.j1 kj4 a0 a2 true))) = some r := H
        have A18 := Aside0.mk A180
        clear A180
        replace H := Option.bind_eq_some_iff.mp H
        obtain ⟨⟨t243, t244⟩, A190, H⟩ := H
        replace H : (if t238 = 0 then (if t240 = 0 then (if t242 = 0 then (if t244 = 0 then (if t237 = true then (if t239 = true then (if t241 > 0 then (stockyardlaw02_PathNeighbours.j1 kj4 a0 a2 true) else (stockyardlaw02_PathNeighbours.j1 kj4 a0 a2 (decide (t243 > 0)))) else (stockyardlaw02_PathNeighbours.j1 kj4 a0 a2 true)) else (stockyardlaw02_PathNeighbours.j1 kj4 a0 a2 true)) else (stockyardlaw02_PathNeighbours.j1 kj4 a0 a2 true)) else (stockyardlaw02_PathNeighbours.j1 kj4 a0 a2 true)) else (stockyardlaw02_PathNeighbours.j1 kj4 a0 a2 true)) else (stockyardlaw02_PathNeighbours.j1 kj4 a0 a2 true)) = some r := H
        have A19 := Aside0.mk A190
        clear A190
        have HC20 := Aside0.mk H
        clear H
        go_upto_region 7 with (first | ((with_reducible refine gate_callee (f := 22) rfl ?_); refine goesL_ (some 36) rfl rfl Tryd.func22 (by kernel_rfl) rfl #[.string a0, .string a1] rfl (by (try simp only [List.map_toArray, List.map_cons, List.map_nil]); first | done | rfl | (simp only [List.length_drop, List.length_take]; rfl)) ?_; (with_reducible refine (path_Under.calls kj4 a0 a1 t237 t238 _ A16.out).mono ?_); rintro e w21 ⟨rfl, hb⟩; refine ⟨_, rfl, ?_⟩; have n0_ := Aside0.mk (below_step (by repeat (first | (with_reducible first | exact HB.out | apply below_alloc | apply pw_below_drewN | apply below_drew1) | exact HB.out)) hb); clear HB; have HB := n0_; clear n0_; (try clear hb); (try clear hb2); (try clear hk); (try clear hi)) | ((with_reducible refine gate_callee (f := 22) rfl ?_); refine goesL_ (some 42) rfl rfl Tryd.func22 (by kernel_rfl) rfl #[.string a0, .string a3] rfl (by (try simp only [List.map_toArray, List.map_cons, List.map_nil]); first | done | rfl | (simp only [List.length_drop, List.length_take]; rfl)) ?_; (with_reducible refine (path_Under.calls kj4 a0 a3 t239 t240 _ A17.out).mono ?_); rintro e w22 ⟨rfl, hb⟩; refine ⟨_, rfl, ?_⟩; have n0_ := Aside0.mk (below_step (by repeat (first | (with_reducible first | exact HB.out | apply below_alloc | apply pw_below_drewN | apply below_drew1) | exact HB.out)) hb); clear HB; have HB := n0_; clear n0_; (try clear hb); (try clear hb2); (try clear hk); (try clear hi)) | ((with_reducible refine gate_callee (f := 15) rfl ?_); refine goesL_ (some 48) rfl rfl Tryd.func15 (by kernel_rfl) rfl #[.string a1, .string a2] rfl (by (try simp only [List.map_toArray, List.map_cons, List.map_nil]); first | done | rfl | (simp only [List.length_drop, List.length_take]; rfl)) ?_; (with_reducible refine (path_Compare.calls kj4 a1 a2 t241 t242 _ A18.out).mono ?_); rintro e w23 ⟨rfl, hb⟩; refine ⟨_, rfl, ?_⟩; have n0_ := Aside0.mk (below_step (by repeat (first | (with_reducible first | exact HB.out | apply below_alloc | apply pw_below_drewN | apply below_drew1) | exact HB.out)) hb); clear HB; have HB := n0_; clear n0_; (try clear hb); (try clear hb2); (try clear hk); (try clear hi)) | ((with_reducible refine gate_callee (f := 15) rfl ?_); refine goesL_ (some 54) rfl rfl Tryd.func15 (by kernel_rfl) rfl #[.string a2, .string a3] rfl (by (try simp only [List.map_toArray, List.map_cons, List.map_nil]); first | done | rfl | (simp only [List.length_drop, List.length_take]; rfl)) ?_; (with_reducible refine (path_Compare.calls kj4 a2 a3 t243 t244 _ A19.out).mono ?_); rintro e w24 ⟨rfl, hb⟩; refine ⟨_, rfl, ?_⟩; have n0_ := Aside0.mk (below_step (by repeat (first | (with_reducible first | exact HB.out | apply below_alloc | apply pw_below_drewN | apply below_drew1) | exact HB.out)) hb); clear HB; have HB := n0_; clear n0_; (try clear hb); (try clear hb2); (try clear hk); (try clear hi)))
        (try simp only [Act.put, List.setIfInBounds_toArray, List.set_cons_zero, List.set_cons_succ])
        go_cut [86] (fun v86 wc => ∃ (kq : Nat) (x86_19 : Bool), v86 = .bool x86_19 ∧ Aside0 (stockyardlaw02_PathNeighbours.j1 kq a0 a2 x86_19 = some r) ∧ Aside0 (kq ≤ kj4) ∧ Aside0 (Below w.heap.size w wc))
        case first =>
          have H := HC20.out
          clear HC20
          by_cases c25 : t238 = 0
          · rw [if_pos c25] at H
            have c25b0 : (t238 == 0) = true := beq_iff_eq.mpr c25
            have c25b1 : (t238 != 0) = false := bne_eq_false_iff_eq.mpr c25
            clear c25
            (first | rw [c25b0] | (simp only [i64_w, i32_w]; rw [c25b0]) | skip)
            by_cases c26 : t240 = 0
            · rw [if_pos c26] at H
              have c26b0 : (t240 == 0) = true := beq_iff_eq.mpr c26
              have c26b1 : (t240 != 0) = false := bne_eq_false_iff_eq.mpr c26
              clear c26
              by_cases c27 : t242 = 0
              · rw [if_pos c27] at H
                have c27b0 : (t242 == 0) = true := beq_iff_eq.mpr c27
                have c27b1 : (t242 != 0) = false := bne_eq_false_iff_eq.mpr c27
                clear c27
                by_cases c28 : t244 = 0
                · rw [if_pos c28] at H
                  have c28b0 : (t244 == 0) = true := beq_iff_eq.mpr c28
                  have c28b1 : (t244 != 0) = false := bne_eq_false_iff_eq.mpr c28
                  clear c28
                  by_cases c29 : t237 = true
                  · subst c29
                    have H1 : (if t239 = true then (if t241 > 0 then (stockyardlaw02_PathNeighbours.j1 kj4 a0 a2 true) else (stockyardlaw02_PathNeighbours.j1 kj4 a0 a2 (decide (t243 > 0)))) else (stockyardlaw02_PathNeighbours.j1 kj4 a0 a2 true)) = some r := by rw [if_pos rfl] at H; exact H
                    clear H
                    have H := H1
                    clear H1
                    by_cases c30 : t239 = true
                    · subst c30
                      have H1 : (if t241 > 0 then (stockyardlaw02_PathNeighbours.j1 kj4 a0 a2 true) else (stockyardlaw02_PathNeighbours.j1 kj4 a0 a2 (decide (t243 > 0)))) = some r := by rw [if_pos rfl] at H; exact H
                      clear H
                      have H := H1
                      clear H1
                      by_cases c31 : t241 > 0
                      · rw [if_pos c31] at H
                        have c31b0 : decide (0 < t241) = true := decide_eq_true c31
                        clear c31
                        have H' := Aside0.mk H
                        clear H
                        go_wp2
                        go_meet
                        case rel => exact ⟨_, (true), (by first | rfl | (simp; done) | (simp [*]; done)), H', ⟨by have := HJ4.out; first | omega | exact Nat.le_refl _⟩, ⟨by repeat (first | (with_reducible first | exact HB.out | apply below_alloc | apply pw_below_drewN | apply below_drew1) | exact HB.out)⟩⟩
                      · rw [if_neg c31] at H
                        have c31b0 : decide (0 < t241) = false := decide_eq_false c31
                        clear c31
                        have H' := Aside0.mk H
                        clear H
                        go_wp2
                        go_meet
                        case rel => exact ⟨_, (decide (t243 > 0)), (by first | rfl | (simp; done) | (simp [*]; done)), H', ⟨by have := HJ4.out; first | omega | exact Nat.le_refl _⟩, ⟨by repeat (first | (with_reducible first | exact HB.out | apply below_alloc | apply pw_below_drewN | apply below_drew1) | exact HB.out)⟩⟩
                    · replace c30 := Bool.eq_false_iff.mpr c30
                      subst c30
                      have H1 : (stockyardlaw02_PathNeighbours.j1 kj4 a0 a2 true) = some r := by rw [if_neg (show ¬ (false = true) by decide)] at H; exact H
                      clear H
                      have H := H1
                      clear H1
                      have H' := Aside0.mk H
                      clear H
                      go_wp2
                      go_meet
                      case rel => exact ⟨_, (true), (by first | rfl | (simp; done) | (simp [*]; done)), H', ⟨by have := HJ4.out; first | omega | exact Nat.le_refl _⟩, ⟨by repeat (first | (with_reducible first | exact HB.out | apply below_alloc | apply pw_below_drewN | apply below_drew1) | exact HB.out)⟩⟩
                  · replace c29 := Bool.eq_false_iff.mpr c29
                    subst c29
                    have H1 : (stockyardlaw02_PathNeighbours.j1 kj4 a0 a2 true) = some r := by rw [if_neg (show ¬ (false = true) by decide)] at H; exact H
                    clear H
                    have H := H1
                    clear H1
                    have H' := Aside0.mk H
                    clear H
                    go_wp2
                    go_meet
                    case rel => exact ⟨_, (true), (by first | rfl | (simp; done) | (simp [*]; done)), H', ⟨by have := HJ4.out; first | omega | exact Nat.le_refl _⟩, ⟨by repeat (first | (with_reducible first | exact HB.out | apply below_alloc | apply pw_below_drewN | apply below_drew1) | exact HB.out)⟩⟩
                · rw [if_neg c28] at H
                  have c28b0 : (t244 == 0) = false := beq_eq_false_iff_ne.mpr c28
                  have c28b1 : (t244 != 0) = true := bne_iff_ne.mpr c28
                  have H' := Aside0.mk H
                  clear H
                  go_wp2
                  go_meet
                  case rel => exact ⟨_, (true), (by first | rfl | (simp; done) | (simp [*]; done)), H', ⟨by have := HJ4.out; first | omega | exact Nat.le_refl _⟩, ⟨by repeat (first | (with_reducible first | exact HB.out | apply below_alloc | apply pw_below_drewN | apply below_drew1) | exact HB.out)⟩⟩
              · rw [if_neg c27] at H
                have c27b0 : (t242 == 0) = false := beq_eq_false_iff_ne.mpr c27
                have c27b1 : (t242 != 0) = true := bne_iff_ne.mpr c27
                have H' := Aside0.mk H
                clear H
                go_wp2
                go_meet
                case rel => exact ⟨_, (true), (by first | rfl | (simp; done) | (simp [*]; done)), H', ⟨by have := HJ4.out; first | omega | exact Nat.le_refl _⟩, ⟨by repeat (first | (with_reducible first | exact HB.out | apply below_alloc | apply pw_below_drewN | apply below_drew1) | exact HB.out)⟩⟩
            · rw [if_neg c26] at H
              have c26b0 : (t240 == 0) = false := beq_eq_false_iff_ne.mpr c26
              have c26b1 : (t240 != 0) = true := bne_iff_ne.mpr c26
              have H' := Aside0.mk H
              clear H
              go_wp2
              go_meet
              case rel => exact ⟨_, (true), (by first | rfl | (simp; done) | (simp [*]; done)), H', ⟨by have := HJ4.out; first | omega | exact Nat.le_refl _⟩, ⟨by repeat (first | (with_reducible first | exact HB.out | apply below_alloc | apply pw_below_drewN | apply below_drew1) | exact HB.out)⟩⟩
          · rw [if_neg c25] at H
            have c25b0 : (t238 == 0) = false := beq_eq_false_iff_ne.mpr c25
            have c25b1 : (t238 != 0) = true := bne_iff_ne.mpr c25
            (first | rw [c25b0] | (simp only [i64_w, i32_w]; rw [c25b0]) | skip)
            have H' := Aside0.mk H
            clear H
            go_wp2
            go_meet
            case rel => exact ⟨_, (true), (by first | rfl | (simp; done) | (simp [*]; done)), H', ⟨by have := HJ4.out; first | omega | exact Nat.le_refl _⟩, ⟨by repeat (first | (with_reducible first | exact HB.out | apply below_alloc | apply pw_below_drewN | apply below_drew1) | exact HB.out)⟩⟩
        case rest =>
          clear HC20
          try clear c1
          try clear c2
          try clear p2
          try clear c3
          try clear c7
          try clear c9
          try clear c11
          try clear c12
          try clear c13
          try clear c14
          try clear c15
          try clear c22
          try clear c25
          try clear c25b0
          try clear c25b1
          try clear c26
          try clear c26b0
          try clear c26b1
          try clear c27
          try clear c27b0
          try clear c27b1
          try clear c28
          try clear c28b0
          try clear c28b1
          try clear c29
          try clear c30
          try clear c31
          try clear c31b0
          try clear p2
          obtain ⟨kq, x86_19, rfl, HA, HJ19, HB⟩ := hcut
          cases kq with
          | zero => exact absurd HA.out (by simp [stockyardlaw02_PathNeighbours.j1])
          | succ kj19 =>
            have H := HA.out
            clear HA
            simp only [stockyardlaw02_PathNeighbours.j1] at H
            by_cases c32 : x86_19 = true
            · subst c32
              have H1 : ((stockyardlaw02_awake.f kj19).bind fun t245 => (some t245)) = some r := by rw [if_pos rfl] at H; exact H
              clear H
              have H := H1
              clear H1
              replace H := Option.bind_eq_some_iff.mp H
              obtain ⟨t245, A330, H⟩ := H
              replace H : (some t245) = some r := H
              have A33 := Aside0.mk A330
              clear A330
              obtain rfl := Option.some.inj H
              go_wp2_with (first | ((with_reducible refine gate_callee (f := 14) rfl ?_); refine goesL_ (some 87) rfl rfl Tryd.func14 (by kernel_rfl) rfl #[] rfl (by (try simp only [List.map_toArray, List.map_cons, List.map_nil]); first | done | rfl | (simp only [List.length_drop, List.length_take]; rfl)) ?_; (with_reducible refine (stockyardlaw02_awake.calls kj19  t245 _ A33.out).mono ?_); rintro e w34 ⟨rfl, hb⟩; refine ⟨_, rfl, ?_⟩; have n0_ := Aside0.mk (below_step (by repeat (first | (with_reducible first | exact HB.out | apply below_alloc | apply pw_below_drewN | apply below_drew1) | exact HB.out)) hb); clear HB; have HB := n0_; clear n0_; (try clear hb); (try clear hb2); (try clear hk); (try clear hi)))
              go_ret
              exact ⟨by first | rfl | (simp [errW_none, errW_some] <;> rfl) | (simp [*, errW_none, errW_some] <;> rfl), by repeat (first | (with_reducible first | exact HB.out | apply below_alloc | apply pw_below_drewN | apply below_drew1) | exact HB.out)⟩
            · replace c32 := Bool.eq_false_iff.mpr c32
              subst c32
              have H1 : ((path_Under.f kj19 a0 a2).bind fun bt246 => (if bt246.1 = true then (if bt246.2 = 0 then ((stockyardlaw02_awake.f kj19).bind fun t248 => (some t248)) else (some false)) else (some false))) = some r := by rw [if_neg (show ¬ (false = true) by decide)] at H; exact H
              clear H
              have H := H1
              clear H1
              replace H := Option.bind_eq_some_iff.mp H
              obtain ⟨⟨t246, t247⟩, A350, H⟩ := H
              replace H : (if t246 = true then (if t247 = 0 then ((stockyardlaw02_awake.f kj19).bind fun t248 => (some t248)) else (some false)) else (some false)) = some r := H
              have A35 := Aside0.mk A350
              clear A350
              by_cases c36 : t246 = true
              · subst c36
                have H1 : (if t247 = 0 then ((stockyardlaw02_awake.f kj19).bind fun t248 => (some t248)) else (some false)) = some r := by rw [if_pos rfl] at H; exact H
                clear H
                have H := H1
                clear H1
                by_cases c37 : t247 = 0
                · rw [if_pos c37] at H
                  have c37b0 : (t247 == 0) = true := beq_iff_eq.mpr c37
                  have c37b1 : (t247 != 0) = false := bne_eq_false_iff_eq.mpr c37
                  clear c37
                  replace H := Option.bind_eq_some_iff.mp H
                  obtain ⟨t248, A380, H⟩ := H
                  replace H : (some t248) = some r := H
                  have A38 := Aside0.mk A380
                  clear A380
                  obtain rfl := Option.some.inj H
                  go_wp2_with (first | ((with_reducible refine gate_callee (f := 22) rfl ?_); refine goesL_ (some 91) rfl rfl Tryd.func22 (by kernel_rfl) rfl #[.string a0, .string a2] rfl (by (try simp only [List.map_toArray, List.map_cons, List.map_nil]); first | done | rfl | (simp only [List.length_drop, List.length_take]; rfl)) ?_; (with_reducible refine (path_Under.calls kj19 a0 a2 true t247 _ A35.out).mono ?_); rintro e w39 ⟨rfl, hb⟩; refine ⟨_, rfl, ?_⟩; have n0_ := Aside0.mk (below_step (by repeat (first | (with_reducible first | exact HB.out | apply below_alloc | apply pw_below_drewN | apply below_drew1) | exact HB.out)) hb); clear HB; have HB := n0_; clear n0_; (try clear hb); (try clear hb2); (try clear hk); (try clear hi)) | (go_at_call 14; (with_reducible refine (stockyardlaw02_awake.calls kj19  t248 _ A38.out).mono ?_); rintro e w40 ⟨rfl, hb⟩; have n0_ := Aside0.mk (below_step (by repeat (first | (with_reducible first | exact HB.out | apply below_alloc | apply pw_below_drewN | apply below_drew1) | exact HB.out)) hb); clear HB; have HB := n0_; clear n0_; (try clear hb); (try clear hb2); (try clear hk); (try clear hi)))
                  go_ret
                  exact ⟨by first | rfl | (simp [errW_none, errW_some] <;> rfl) | (simp [*, errW_none, errW_some] <;> rfl), by repeat (first | (with_reducible first | exact HB.out | apply below_alloc | apply pw_below_drewN | apply below_drew1) | exact HB.out)⟩
                · rw [if_neg c37] at H
                  have c37b0 : (t247 == 0) = false := beq_eq_false_iff_ne.mpr c37
                  have c37b1 : (t247 != 0) = true := bne_iff_ne.mpr c37
                  obtain rfl := Option.some.inj H
                  go_wp2_with (first | ((with_reducible refine gate_callee (f := 22) rfl ?_); refine goesL_ (some 91) rfl rfl Tryd.func22 (by kernel_rfl) rfl #[.string a0, .string a2] rfl (by (try simp only [List.map_toArray, List.map_cons, List.map_nil]); first | done | rfl | (simp only [List.length_drop, List.length_take]; rfl)) ?_; (with_reducible refine (path_Under.calls kj19 a0 a2 true t247 _ A35.out).mono ?_); rintro e w41 ⟨rfl, hb⟩; refine ⟨_, rfl, ?_⟩; have n0_ := Aside0.mk (below_step (by repeat (first | (with_reducible first | exact HB.out | apply below_alloc | apply pw_below_drewN | apply below_drew1) | exact HB.out)) hb); clear HB; have HB := n0_; clear n0_; (try clear hb); (try clear hb2); (try clear hk); (try clear hi)))
                  go_ret
                  exact ⟨by first | rfl | (simp [errW_none, errW_some] <;> rfl) | (simp [*, errW_none, errW_some] <;> rfl), by repeat (first | (with_reducible first | exact HB.out | apply below_alloc | apply pw_below_drewN | apply below_drew1) | exact HB.out)⟩
              · replace c36 := Bool.eq_false_iff.mpr c36
                subst c36
                have H1 : (some false) = some r := by rw [if_neg (show ¬ (false = true) by decide)] at H; exact H
                clear H
                have H := H1
                clear H1
                obtain rfl := Option.some.inj H
                go_wp2_with (first | ((with_reducible refine gate_callee (f := 22) rfl ?_); refine goesL_ (some 91) rfl rfl Tryd.func22 (by kernel_rfl) rfl #[.string a0, .string a2] rfl (by (try simp only [List.map_toArray, List.map_cons, List.map_nil]); first | done | rfl | (simp only [List.length_drop, List.length_take]; rfl)) ?_; (with_reducible refine (path_Under.calls kj19 a0 a2 false t247 _ A35.out).mono ?_); rintro e w42 ⟨rfl, hb⟩; refine ⟨_, rfl, ?_⟩; have n0_ := Aside0.mk (below_step (by repeat (first | (with_reducible first | exact HB.out | apply below_alloc | apply pw_below_drewN | apply below_drew1) | exact HB.out)) hb); clear HB; have HB := n0_; clear n0_; (try clear hb); (try clear hb2); (try clear hk); (try clear hi)))
                go_ret
                exact ⟨by first | rfl | (simp [errW_none, errW_some] <;> rfl) | (simp [*, errW_none, errW_some] <;> rfl), by repeat (first | (with_reducible first | exact HB.out | apply below_alloc | apply pw_below_drewN | apply below_drew1) | exact HB.out)⟩

/-! ### stockyardref02_Under: function 24 -/
def stockyardref02_Under.f (k : Nat) (l0 : List ByteArray) (l1 : List ByteArray) : Option (Bool) := if (l1.length : Int) > (l0.length : Int) then (if 0 ≤ (l0.length : Int) then (if (l0.length : Int) ≤ (l1.length : Int) then ((stockyardref02_Compare.f k l0 (l1.take ((l0.length : Int) : Int).toNat)).bind fun t250 => (some (t250 == 0))) else (none)) else (none)) else (some false)
theorem stockyardref02_Under.mono : ∀ a0 a1 k, LeO (stockyardref02_Under.f k a0 a1) (stockyardref02_Under.f (k + 1) a0 a1) := by
  intro a0 a1 k
  unfold stockyardref02_Under.f
  repeat' first
      | (with_reducible exact stockyardref02_Compare.mono _ _ _)
      | (with_reducible exact LeO.refl _)
      | (with_reducible exact LeO.none _)
      | (with_reducible refine LeO.ite ?_ ?_)
      | (with_reducible refine LeO.bind ?_ (fun _ => ?_))
      | exact stockyardref02_Compare.mono _ _ _
      | exact LeO.none _
      | refine LeO.ite ?_ ?_
      | refine LeO.bind ?_ (fun _ => ?_)
set_option maxHeartbeats 8000000 in
set_option maxRecDepth 100000 in
theorem stockyardref02_Under.calls (k : Nat) (A0 : Option Addr) (c0 : Nat) (l0 : List ByteArray) (A1 : Option Addr) (c1 : Nat) (l1 : List ByteArray) (r : Bool) (w : World) (hr0 : Kd.C Kd.string w A0 l0.length l0) (hc0 : l0.length ≤ c0) (hr1 : Kd.C Kd.string w A1 l1.length l1) (hc1 : l1.length ≤ c1) (h : stockyardref02_Under.f k l0 l1 = some r) :
    Calls Tryd.prog 24 #[.slice A0 l0.length c0, .slice A1 l1.length c1] w fun e w' => e = .returned (.bool r) ∧ Drawn0 w w' := by
  have HR0 := Aside0.mk hr0
  have HC0 := Aside0.mk hc0
  clear hr0 hc0
  have HR1 := Aside0.mk hr1
  have HC1 := Aside0.mk hc1
  clear hr1 hc1
  have H : (if (l1.length : Int) > (l0.length : Int) then (if 0 ≤ (l0.length : Int) then (if (l0.length : Int) ≤ (l1.length : Int) then ((stockyardref02_Compare.f k l0 (l1.take ((l0.length : Int) : Int).toNat)).bind fun t250 => (some (t250 == 0))) else (none)) else (none)) else (some false)) = some r := h
  clear h
  by_cases c3 : (l1.length : Int) > (l0.length : Int)
  · rw [if_pos c3] at H
    have c3b0 : decide ((l0.length : Int) < (l1.length : Int)) = true := decide_eq_true c3
    have c3b1 : decide (l0.length < l1.length) = true := decide_eq_true (Int.ofNat_lt.mp c3)
    clear c3
    by_cases c4 : 0 ≤ (l0.length : Int)
    · rw [if_pos c4] at H
      have c4b0 := eq_true c4
      have c4b1 : decide (0 ≤ (l0.length : Int)) = true := decide_eq_true c4
      clear c4
      by_cases c5 : (l0.length : Int) ≤ (l1.length : Int)
      · rw [if_pos c5] at H
        have c5b0 := eq_true c5
        have c5b1 : decide ((l0.length : Int) ≤ (l1.length : Int)) = true := decide_eq_true c5
        clear c5
        replace H := Option.bind_eq_some_iff.mp H
        obtain ⟨t250, A60, H⟩ := H
        replace H : (some (t250 == 0)) = some r := H
        have A6 := Aside0.mk A60
        clear A60
        obtain rfl := Option.some.inj H
        obtain ⟨i07, hi07, _, hsz7, _⟩ := info_parts info9
        obtain ⟨hcut7, hA7, hC7⟩ := print_take_of (P := Tryd.prog) Value.string (⟨#[]⟩ : ByteArray) 28 9 .i64 Tryd.underlying28 hi07 hsz7 A1 c1 l1 (l0.length : Int) (of_decide_eq_true (by first | (with_reducible assumption) | assumption)) (of_decide_eq_true (by first | (with_reducible assumption) | assumption)) HC1.out
        have HR249 := Aside0.mk (Kd.C_of_reads (h1 := fun _ => rfl) (hA7 _ (Kd.reads_of_C HR1.out)))
        have HC249 := Aside0.mk hC7
        clear hA7 hC7 hi07 hsz7
        go_enter Tryd.func24, Tryd.ntmps24
        go_wp2_with (first | (go_at_call 21; (try rw [show min l0.length l1.length = (l1.take ((l0.length : Int) : Int).toNat).length from by simp]); (with_reducible refine (stockyardref02_Compare.calls k _ _ l0 _ _ (l1.take ((l0.length : Int) : Int).toNat) t250 _ ?side1 ?side2 ?side3 ?side4 A6.out).mono ?_); (case side1 => repeat (first | exact HR0.out | (with_reducible refine Kd.C_alloc ?_ _) | (with_reducible refine Kd.C_drewN ?_ _) | (with_reducible refine Kd.C_drew ?_))); (case side2 => exact HC0.out); (case side3 => repeat (first | exact HR249.out | (with_reducible refine Kd.C_alloc ?_ _) | (with_reducible refine Kd.C_drewN ?_ _) | (with_reducible refine Kd.C_drew ?_))); (case side4 => exact HC249.out); rintro e w' ⟨rfl, ⟨nd, rfl⟩⟩))
        go_ret
        exact ⟨by first | rfl | (simp; done) | (simp [*]; done), by repeat (first | exact Drawn0.refl _ | apply Drawn0.step)⟩
      · rw [if_neg c5] at H
        exact absurd H (by simp)
    · rw [if_neg c4] at H
      exact absurd H (by simp)
  · rw [if_neg c3] at H
    have c3b0 : decide ((l0.length : Int) < (l1.length : Int)) = false := decide_eq_false c3
    have c3b1 : decide (l0.length < l1.length) = false := decide_eq_false (fun h => c3 (Int.ofNat_lt.mpr h))
    clear c3
    obtain rfl := Option.some.inj H
    go_enter Tryd.func24, Tryd.ntmps24
    go_wp2
    go_ret
    exact ⟨by first | rfl | (simp; done) | (simp [*]; done), by repeat (first | exact Drawn0.refl _ | apply Drawn0.step)⟩

/-! ### stockyardlaw02_PathUnders: function 8 -/
mutual
def stockyardlaw02_PathUnders.j0 : Nat → ByteArray → ByteArray → Bool → Option (Bool)
  | 0, _, _, _ => none
  | k + 1, x0, x1, x16 => if x16 = true then ((stockyardlaw02_awake.f k).bind fun t253 => (some t253)) else ((path_Under.f k x0 x1).bind fun bt254 => ((stockyardref02_Parts.f k x0).bind fun bt256 => ((stockyardref02_Path.f k x1).bind fun bt260 => (if bt256.2 = true then (stockyardlaw02_PathUnders.j1 k bt254.1 bt254.2 bt256.1 bt260.1 (!bt260.2)) else (stockyardlaw02_PathUnders.j1 k bt254.1 bt254.2 bt256.1 bt260.1 true)))))
def stockyardlaw02_PathUnders.j1 : Nat → Bool → Int → List ByteArray → List ByteArray → Bool → Option (Bool)
  | 0, _, _, _, _, _ => none
  | k + 1, x5, x6, x7, x9, x39 => if x39 = true then (if x5 = true then (some false) else (if x6 = 20 then ((stockyardlaw02_awake.f k).bind fun t264 => (some t264)) else (some false))) else (if x6 = 0 then ((stockyardref02_Under.f k x7 x9).bind fun t265 => (if (x5 == t265) = true then ((stockyardlaw02_awake.f k).bind fun t266 => (some t266)) else (some false))) else (some false))
end
def stockyardlaw02_PathUnders.f (k : Nat) (a0 : ByteArray) (a1 : ByteArray) : Option (Bool) := (stockyardlaw02_long.f a0).bind fun t251 => (if t251 = true then (stockyardlaw02_PathUnders.j0 k a0 a1 true) else ((stockyardlaw02_long.f a1).bind fun t252 => (stockyardlaw02_PathUnders.j0 k a0 a1 t252)))
theorem stockyardlaw02_PathUnders.mono_l : ∀ k, (∀ y0 y1 y2, LeO (stockyardlaw02_PathUnders.j0 k y0 y1 y2) (stockyardlaw02_PathUnders.j0 (k + 1) y0 y1 y2)) ∧ (∀ y0 y1 y2 y3 y4, LeO (stockyardlaw02_PathUnders.j1 k y0 y1 y2 y3 y4) (stockyardlaw02_PathUnders.j1 (k + 1) y0 y1 y2 y3 y4))
  | 0 => ⟨fun _ _ _ r h => by simp [stockyardlaw02_PathUnders.j0] at h, fun _ _ _ _ _ r h => by simp [stockyardlaw02_PathUnders.j1] at h⟩
  | k + 1 => by
    obtain ⟨ih0, ih1⟩ := stockyardlaw02_PathUnders.mono_l k
    refine ⟨?_, ?_⟩
    · intro y0 y1 y2
      unfold stockyardlaw02_PathUnders.j0
      repeat' first
      | (with_reducible exact ih0 _ _ _)
      | (with_reducible exact ih1 _ _ _ _ _)
      | (with_reducible exact path_Under.mono _ _ _)
      | (with_reducible exact stockyardlaw02_awake.mono _)
      | (with_reducible exact stockyardref02_Parts.mono _ _)
      | (with_reducible exact stockyardref02_Path.mono _ _)
      | (with_reducible exact stockyardref02_Under.mono _ _ _)
      | (with_reducible exact LeO.refl _)
      | (with_reducible exact LeO.none _)
      | (with_reducible refine LeO.ite ?_ ?_)
      | (with_reducible refine LeO.bind ?_ (fun _ => ?_))
      | exact ih0 _ _ _
      | exact ih1 _ _ _ _ _
      | exact path_Under.mono _ _ _
      | exact stockyardlaw02_awake.mono _
      | exact stockyardref02_Parts.mono _ _
      | exact stockyardref02_Path.mono _ _
      | exact stockyardref02_Under.mono _ _ _
      | exact LeO.none _
      | refine LeO.ite ?_ ?_
      | refine LeO.bind ?_ (fun _ => ?_)
    · intro y0 y1 y2 y3 y4
      unfold stockyardlaw02_PathUnders.j1
      repeat' first
      | (with_reducible exact ih0 _ _ _)
      | (with_reducible exact ih1 _ _ _ _ _)
      | (with_reducible exact path_Under.mono _ _ _)
      | (with_reducible exact stockyardlaw02_awake.mono _)
      | (with_reducible exact stockyardref02_Parts.mono _ _)
      | (with_reducible exact stockyardref02_Path.mono _ _)
      | (with_reducible exact stockyardref02_Under.mono _ _ _)
      | (with_reducible exact LeO.refl _)
      | (with_reducible exact LeO.none _)
      | (with_reducible refine LeO.ite ?_ ?_)
      | (with_reducible refine LeO.bind ?_ (fun _ => ?_))
      | exact ih0 _ _ _
      | exact ih1 _ _ _ _ _
      | exact path_Under.mono _ _ _
      | exact stockyardlaw02_awake.mono _
      | exact stockyardref02_Parts.mono _ _
      | exact stockyardref02_Path.mono _ _
      | exact stockyardref02_Under.mono _ _ _
      | exact LeO.none _
      | refine LeO.ite ?_ ?_
      | refine LeO.bind ?_ (fun _ => ?_)
theorem stockyardlaw02_PathUnders.mono : ∀ a0 a1 k, LeO (stockyardlaw02_PathUnders.f k a0 a1) (stockyardlaw02_PathUnders.f (k + 1) a0 a1) := by
  intro a0 a1 k
  obtain ⟨ih0, ih1⟩ := stockyardlaw02_PathUnders.mono_l k
  unfold stockyardlaw02_PathUnders.f
  repeat' first
      | (with_reducible exact ih0 _ _ _)
      | (with_reducible exact ih1 _ _ _ _ _)
      | (with_reducible exact path_Under.mono _ _ _)
      | (with_reducible exact stockyardlaw02_awake.mono _)
      | (with_reducible exact stockyardref02_Parts.mono _ _)
      | (with_reducible exact stockyardref02_Path.mono _ _)
      | (with_reducible exact stockyardref02_Under.mono _ _ _)
      | (with_reducible exact LeO.refl _)
      | (with_reducible exact LeO.none _)
      | (with_reducible refine LeO.ite ?_ ?_)
      | (with_reducible refine LeO.bind ?_ (fun _ => ?_))
      | exact ih0 _ _ _
      | exact ih1 _ _ _ _ _
      | exact path_Under.mono _ _ _
      | exact stockyardlaw02_awake.mono _
      | exact stockyardref02_Parts.mono _ _
      | exact stockyardref02_Path.mono _ _
      | exact stockyardref02_Under.mono _ _ _
      | exact LeO.none _
      | refine LeO.ite ?_ ?_
      | refine LeO.bind ?_ (fun _ => ?_)
set_option maxHeartbeats 8000000 in
set_option maxRecDepth 100000 in
theorem stockyardlaw02_PathUnders.calls (k : Nat) (a0 : ByteArray) (a1 : ByteArray) (r : Bool) (w : World) (h : stockyardlaw02_PathUnders.f k a0 a1 = some r) :
    Calls Tryd.prog 8 #[.string a0, .string a1] w fun e w' => e = .returned (.bool r) ∧ Below w.heap.size w w' := by
  have HB := Aside0.mk (Below.refl w.heap.size w)
  have H : ((stockyardlaw02_long.f a0).bind fun t251 => (if t251 = true then (stockyardlaw02_PathUnders.j0 k a0 a1 true) else ((stockyardlaw02_long.f a1).bind fun t252 => (stockyardlaw02_PathUnders.j0 k a0 a1 t252)))) = some r := h
  clear h
  have HC3 := Aside0.mk H
  clear H
  go_enter Tryd.func8, Tryd.ntmps8
  go_upto_region 1 with (fail)
  go_cut [16] (fun v16 wc => ∃ (kq : Nat) (x16_2 : Bool), v16 = .bool x16_2 ∧ Aside0 (stockyardlaw02_PathUnders.j0 kq a0 a1 x16_2 = some r) ∧ Aside0 (kq ≤ k) ∧ Aside0 (Below w.heap.size w wc))
  case first =>
    have H := HC3.out
    clear HC3
    replace H := Option.bind_eq_some_iff.mp H
    obtain ⟨t251, A40, H⟩ := H
    replace H : (if t251 = true then (stockyardlaw02_PathUnders.j0 k a0 a1 true) else ((stockyardlaw02_long.f a1).bind fun t252 => (stockyardlaw02_PathUnders.j0 k a0 a1 t252))) = some r := H
    have A4 := Aside0.mk A40
    clear A40
    by_cases c5 : t251 = true
    · subst c5
      have H1 : (stockyardlaw02_PathUnders.j0 k a0 a1 true) = some r := by rw [if_pos rfl] at H; exact H
      clear H
      have H := H1
      clear H1
      have H' := Aside0.mk H
      clear H
      go_wp2_with (first | ((with_reducible refine gate_callee (f := 12) rfl ?_); refine goesL_ (some 12) rfl rfl Tryd.func12 (by kernel_rfl) rfl #[.string a0] rfl (by (try simp only [List.map_toArray, List.map_cons, List.map_nil]); first | done | rfl | (simp only [List.length_drop, List.length_take]; rfl)) ?_; (with_reducible refine (stockyardlaw02_long.calls a0 true _ A4.out).mono ?_); rintro e w' ⟨rfl, ⟨nd, rfl⟩⟩; refine ⟨_, rfl, ?_⟩))
      go_meet
      case rel => exact ⟨_, (true), (by first | rfl | (simp; done) | (simp [*]; done)), H', ⟨by first | omega | exact Nat.le_refl _⟩, ⟨by repeat (first | (with_reducible first | exact HB.out | apply below_alloc | apply pw_below_drewN | apply below_drew1) | exact HB.out)⟩⟩
    · replace c5 := Bool.eq_false_iff.mpr c5
      subst c5
      have H1 : ((stockyardlaw02_long.f a1).bind fun t252 => (stockyardlaw02_PathUnders.j0 k a0 a1 t252)) = some r := by rw [if_neg (show ¬ (false = true) by decide)] at H; exact H
      clear H
      have H := H1
      clear H1
      replace H := Option.bind_eq_some_iff.mp H
      obtain ⟨t252, A60, H⟩ := H
      replace H : (stockyardlaw02_PathUnders.j0 k a0 a1 t252) = some r := H
      have A6 := Aside0.mk A60
      clear A60
      have H' := Aside0.mk H
      clear H
      go_wp2_with (first | ((with_reducible refine gate_callee (f := 12) rfl ?_); refine goesL_ (some 12) rfl rfl Tryd.func12 (by kernel_rfl) rfl #[.string a0] rfl (by (try simp only [List.map_toArray, List.map_cons, List.map_nil]); first | done | rfl | (simp only [List.length_drop, List.length_take]; rfl)) ?_; (with_reducible refine (stockyardlaw02_long.calls a0 false _ A4.out).mono ?_); rintro e w' ⟨rfl, ⟨nd, rfl⟩⟩; refine ⟨_, rfl, ?_⟩) | (go_at_call 12; (with_reducible refine (stockyardlaw02_long.calls a1 t252 _ A6.out).mono ?_); rintro e w' ⟨rfl, ⟨nd, rfl⟩⟩))
      go_meet
      case rel => exact ⟨_, (t252), (by first | rfl | (simp; done) | (simp [*]; done)), H', ⟨by first | omega | exact Nat.le_refl _⟩, ⟨by repeat (first | (with_reducible first | exact HB.out | apply below_alloc | apply pw_below_drewN | apply below_drew1) | exact HB.out)⟩⟩
  case rest =>
    clear HC3
    try clear c1
    try clear p2
    try clear c5
    obtain ⟨kq, x16_2, rfl, HA, HJ2, HB⟩ := hcut
    cases kq with
    | zero => exact absurd HA.out (by simp [stockyardlaw02_PathUnders.j0])
    | succ kj2 =>
      have H := HA.out
      clear HA
      simp only [stockyardlaw02_PathUnders.j0] at H
      by_cases c7 : x16_2 = true
      · subst c7
        have H1 : ((stockyardlaw02_awake.f kj2).bind fun t253 => (some t253)) = some r := by rw [if_pos rfl] at H; exact H
        clear H
        have H := H1
        clear H1
        replace H := Option.bind_eq_some_iff.mp H
        obtain ⟨t253, A80, H⟩ := H
        replace H : (some t253) = some r := H
        have A8 := Aside0.mk A80
        clear A80
        obtain rfl := Option.some.inj H
        go_wp2_with (first | ((with_reducible refine gate_callee (f := 14) rfl ?_); refine goesL_ (some 17) rfl rfl Tryd.func14 (by kernel_rfl) rfl #[] rfl (by (try simp only [List.map_toArray, List.map_cons, List.map_nil]); first | done | rfl | (simp only [List.length_drop, List.length_take]; rfl)) ?_; (with_reducible refine (stockyardlaw02_awake.calls kj2  t253 _ A8.out).mono ?_); rintro e w9 ⟨rfl, hb⟩; refine ⟨_, rfl, ?_⟩; have n0_ := Aside0.mk (below_step (by repeat (first | (with_reducible first | exact HB.out | apply below_alloc | apply pw_below_drewN | apply below_drew1) | exact HB.out)) hb); clear HB; have HB := n0_; clear n0_; (try clear hb); (try clear hb2); (try clear hk); (try clear hi)))
        go_ret
        exact ⟨by first | rfl | (simp [errW_none, errW_some] <;> rfl) | (simp [*, errW_none, errW_some] <;> rfl), by repeat (first | (with_reducible first | exact HB.out | apply below_alloc | apply pw_below_drewN | apply below_drew1) | exact HB.out)⟩
      · replace c7 := Bool.eq_false_iff.mpr c7
        subst c7
        have H1 : ((path_Under.f kj2 a0 a1).bind fun bt254 => ((stockyardref02_Parts.f kj2 a0).bind fun bt256 => ((stockyardref02_Path.f kj2 a1).bind fun bt260 => (if bt256.2 = true then (stockyardlaw02_PathUnders.j1 kj2 bt254.1 bt254.2 bt256.1 bt260.1 (!bt260.2)) else (stockyardlaw02_PathUnders.j1 kj2 bt254.1 bt254.2 bt256.1 bt260.1 true))))) = some r := by rw [if_neg (show ¬ (false = true) by decide)] at H; exact H
        clear H
        have H := H1
        clear H1
        replace H := Option.bind_eq_some_iff.mp H
        obtain ⟨⟨t254, t255⟩, A100, H⟩ := H
        replace H : ((stockyardref02_Parts.f kj2 a0).bind fun bt256 => ((stockyardref02_Path.f kj2 a1).bind fun bt260 => (if bt256.2 = true then (stockyardlaw02_PathUnders.j1 kj2 t254 t255 bt256.1 bt260.1 (!bt260.2)) else (stockyardlaw02_PathUnders.j1 kj2 t254 t255 bt256.1 bt260.1 true)))) = some r := H
        have A10 := Aside0.mk A100
        clear A100
        replace H := Option.bind_eq_some_iff.mp H
        obtain ⟨⟨t256, t257⟩, A110, H⟩ := H
        replace H : ((stockyardref02_Path.f kj2 a1).bind fun bt260 => (if t257 = true then (stockyardlaw02_PathUnders.j1 kj2 t254 t255 t256 bt260.1 (!bt260.2)) else (stockyardlaw02_PathUnders.j1 kj2 t254 t255 t256 bt260.1 true))) = some r := H
        have A11 := Aside0.mk A110
        clear A110
        replace H := Option.bind_eq_some_iff.mp H
        obtain ⟨⟨t260, t261⟩, A120, H⟩ := H
        replace H : (if t257 = true then (stockyardlaw02_PathUnders.j1 kj2 t254 t255 t256 t260 (!t261)) else (stockyardlaw02_PathUnders.j1 kj2 t254 t255 t256 t260 true)) = some r := H
        have A12 := Aside0.mk A120
        clear A120
        have HC13 := Aside0.mk H
        clear H
        go_upto_region 6 with (first | ((with_reducible refine gate_callee (f := 22) rfl ?_); refine goesL_ (some 21) rfl rfl Tryd.func22 (by kernel_rfl) rfl #[.string a0, .string a1] rfl (by (try simp only [List.map_toArray, List.map_cons, List.map_nil]); first | done | rfl | (simp only [List.length_drop, List.length_take]; rfl)) ?_; (with_reducible refine (path_Under.calls kj2 a0 a1 t254 t255 _ A10.out).mono ?_); rintro e w14 ⟨rfl, hb⟩; refine ⟨_, rfl, ?_⟩; have n0_ := Aside0.mk (below_step (by repeat (first | (with_reducible first | exact HB.out | apply below_alloc | apply pw_below_drewN | apply below_drew1) | exact HB.out)) hb); clear HB; have HB := n0_; clear n0_; (try clear hb); (try clear hb2); (try clear hk); (try clear hi)) | ((with_reducible refine gate_callee (f := 23) rfl ?_); refine goesL_ (some 26) rfl rfl Tryd.func23 (by kernel_rfl) rfl #[.string a0] rfl (by (try simp only [List.map_toArray, List.map_cons, List.map_nil]); first | done | rfl | (simp only [List.length_drop, List.length_take]; rfl)) ?_; (with_reducible refine (stockyardref02_Parts.calls kj2 a0 t256 t257 _ A11.out).mono ?_); rintro e w15 ⟨v258, rfl, ho0, hb⟩; refine ⟨_, rfl, ?_⟩; have n0_ := Aside0.mk (Kd.R_lower ho0 (below_size (by repeat (first | (with_reducible first | exact HB.out | apply below_alloc | apply pw_below_drewN | apply below_drew1) | exact HB.out)))); have n1_ := Aside0.mk (below_step (by repeat (first | (with_reducible first | exact HB.out | apply below_alloc | apply pw_below_drewN | apply below_drew1) | exact HB.out)) hb); clear HB; have HO259 := n0_; have HB := n1_; clear n0_ n1_; (try clear hb); (try clear hb2); (try clear hk); (try clear hi); (try clear ho0)) | ((with_reducible refine gate_callee (f := 16) rfl ?_); refine goesL_ (some 31) rfl rfl Tryd.func16 (by kernel_rfl) rfl #[.string a1] rfl (by (try simp only [List.map_toArray, List.map_cons, List.map_nil]); first | done | rfl | (simp only [List.length_drop, List.length_take]; rfl)) ?_; (with_reducible refine (stockyardref02_Path.calls kj2 a1 t260 t261 _ A12.out).mono ?_); rintro e w16 ⟨v262, rfl, ho0, hb⟩; refine ⟨_, rfl, ?_⟩; have n0_ := Aside0.mk (Kd.R_elder' (by (with_reducible repeat (first | apply Kd.R_alloc | apply Kd.R_drewN | apply Kd.R_drew)); exact HO259.out) (Kd.R_base ho0) hb); have n1_ := Aside0.mk (Kd.R_lower (Kd.R_new' ho0 (Kd.R_lt (by (with_reducible repeat (first | apply Kd.R_alloc | apply Kd.R_drewN | apply Kd.R_drew)); exact HO259.out))) (below_size (by repeat (first | (with_reducible first | exact HB.out | apply below_alloc | apply pw_below_drewN | apply below_drew1) | exact HB.out)))); have n2_ := Aside0.mk (below_step (by repeat (first | (with_reducible first | exact HB.out | apply below_alloc | apply pw_below_drewN | apply below_drew1) | exact HB.out)) hb); clear HO259; clear HB; have HO259 := n0_; have HO263 := n1_; have HB := n2_; clear n0_ n1_ n2_; (try clear hb); (try clear hb2); (try clear hk); (try clear hi); (try clear ho0)))
        (try simp only [Act.put, List.setIfInBounds_toArray, List.set_cons_zero, List.set_cons_succ])
        go_cut [39] (fun v39 wc => ∃ (kq : Nat) (x39_12 : Bool), v39 = .bool x39_12 ∧ Aside0 (stockyardlaw02_PathUnders.j1 kq t254 t255 t256 t260 x39_12 = some r) ∧ Aside0 (kq ≤ kj2) ∧ Aside0 (Kd.R Kd.string 9 wc w.heap.size (fun k_ => some k_ ≠ (v262 : Value).ownBlock) v258 t256) ∧ Aside0 (Kd.R Kd.string 9 wc w.heap.size (fun k_ => some k_ ≠ (v258 : Value).ownBlock) v262 t260) ∧ Aside0 (Below w.heap.size w wc))
        case first =>
          have H := HC13.out
          clear HC13
          by_cases c17 : t257 = true
          · subst c17
            have H1 : (stockyardlaw02_PathUnders.j1 kj2 t254 t255 t256 t260 (!t261)) = some r := by rw [if_pos rfl] at H; exact H
            clear H
            have H := H1
            clear H1
            have H' := Aside0.mk H
            clear H
            go_wp2
            go_meet
            case rel => exact ⟨_, (!t261), (by first | rfl | (simp; done) | (simp [*]; done)), H', ⟨by have := HJ2.out; first | omega | exact Nat.le_refl _⟩, ⟨by (with_reducible repeat (first | apply Kd.R_alloc | apply Kd.R_drewN | apply Kd.R_drew)); exact Kd.R_mono HO259.out (fun _ hk => hk.2)⟩, ⟨by (with_reducible repeat (first | apply Kd.R_alloc | apply Kd.R_drewN | apply Kd.R_drew)); exact Kd.R_mono HO263.out (fun _ hk => hk.2)⟩, ⟨by repeat (first | (with_reducible first | exact HB.out | apply below_alloc | apply pw_below_drewN | apply below_drew1) | exact HB.out)⟩⟩
          · replace c17 := Bool.eq_false_iff.mpr c17
            subst c17
            have H1 : (stockyardlaw02_PathUnders.j1 kj2 t254 t255 t256 t260 true) = some r := by rw [if_neg (show ¬ (false = true) by decide)] at H; exact H
            clear H
            have H := H1
            clear H1
            have H' := Aside0.mk H
            clear H
            go_wp2
            go_meet
            case rel => exact ⟨_, (true), (by first | rfl | (simp; done) | (simp [*]; done)), H', ⟨by have := HJ2.out; first | omega | exact Nat.le_refl _⟩, ⟨by (with_reducible repeat (first | apply Kd.R_alloc | apply Kd.R_drewN | apply Kd.R_drew)); exact Kd.R_mono HO259.out (fun _ hk => hk.2)⟩, ⟨by (with_reducible repeat (first | apply Kd.R_alloc | apply Kd.R_drewN | apply Kd.R_drew)); exact Kd.R_mono HO263.out (fun _ hk => hk.2)⟩, ⟨by repeat (first | (with_reducible first | exact HB.out | apply below_alloc | apply pw_below_drewN | apply below_drew1) | exact HB.out)⟩⟩
        case rest =>
          clear HC13
          try clear c1
          try clear c2
          try clear p2
          try clear c5
          try clear c7
          try clear c8
          try clear c12
          try clear c14
          try clear c16
          try clear c17
          try clear p2
          obtain ⟨kq, x39_12, rfl, HA, HJ12, HO_7, HO_9, HB⟩ := hcut
          cases kq with
          | zero => exact absurd HA.out (by simp [stockyardlaw02_PathUnders.j1])
          | succ kj12 =>
            have H := HA.out
            clear HA
            simp only [stockyardlaw02_PathUnders.j1] at H
            by_cases c18 : x39_12 = true
            · subst c18
              have H1 : (if t254 = true then (some false) else (if t255 = 20 then ((stockyardlaw02_awake.f kj12).bind fun t264 => (some t264)) else (some false))) = some r := by rw [if_pos rfl] at H; exact H
              clear H
              have H := H1
              clear H1
              by_cases c19 : t254 = true
              · subst c19
                have H1 : (some false) = some r := by rw [if_pos rfl] at H; exact H
                clear H
                have H := H1
                clear H1
                obtain rfl := Option.some.inj H
                go_wp2
                go_ret
                exact ⟨by first | rfl | (simp [errW_none, errW_some] <;> rfl) | (simp [*, errW_none, errW_some] <;> rfl), by repeat (first | (with_reducible first | exact HB.out | apply below_alloc | apply pw_below_drewN | apply below_drew1) | exact HB.out)⟩
              · replace c19 := Bool.eq_false_iff.mpr c19
                subst c19
                have H1 : (if t255 = 20 then ((stockyardlaw02_awake.f kj12).bind fun t264 => (some t264)) else (some false)) = some r := by rw [if_neg (show ¬ (false = true) by decide)] at H; exact H
                clear H
                have H := H1
                clear H1
                by_cases c20 : t255 = 20
                · rw [if_pos c20] at H
                  have c20b0 : (t255 == 20) = true := beq_iff_eq.mpr c20
                  have c20b1 : (t255 != 20) = false := bne_eq_false_iff_eq.mpr c20
                  clear c20
                  replace H := Option.bind_eq_some_iff.mp H
                  obtain ⟨t264, A210, H⟩ := H
                  replace H : (some t264) = some r := H
                  have A21 := Aside0.mk A210
                  clear A210
                  obtain rfl := Option.some.inj H
                  go_wp2_with (first | (go_at_call 14; (with_reducible refine (stockyardlaw02_awake.calls kj12  t264 _ A21.out).mono ?_); rintro e w22 ⟨rfl, hb⟩; have n0_ := Aside0.mk (Kd.R_below (by (with_reducible repeat (first | apply Kd.R_alloc | apply Kd.R_drewN | apply Kd.R_drew)); exact HO_7.out) hb); have n1_ := Aside0.mk (Kd.R_below (by (with_reducible repeat (first | apply Kd.R_alloc | apply Kd.R_drewN | apply Kd.R_drew)); exact HO_9.out) hb); have n2_ := Aside0.mk (below_step (by repeat (first | (with_reducible first | exact HB.out | apply below_alloc | apply pw_below_drewN | apply below_drew1) | exact HB.out)) hb); clear HO_7; clear HO_9; clear HB; have HO_7 := n0_; have HO_9 := n1_; have HB := n2_; clear n0_ n1_ n2_; (try clear hb); (try clear hb2); (try clear hk); (try clear hi)))
                  go_ret
                  exact ⟨by first | rfl | (simp [errW_none, errW_some] <;> rfl) | (simp [*, errW_none, errW_some] <;> rfl), by repeat (first | (with_reducible first | exact HB.out | apply below_alloc | apply pw_below_drewN | apply below_drew1) | exact HB.out)⟩
                · rw [if_neg c20] at H
                  have c20b0 : (t255 == 20) = false := beq_eq_false_iff_ne.mpr c20
                  have c20b1 : (t255 != 20) = true := bne_iff_ne.mpr c20
                  obtain rfl := Option.some.inj H
                  go_wp2
                  go_ret
                  exact ⟨by first | rfl | (simp [errW_none, errW_some] <;> rfl) | (simp [*, errW_none, errW_some] <;> rfl), by repeat (first | (with_reducible first | exact HB.out | apply below_alloc | apply pw_below_drewN | apply below_drew1) | exact HB.out)⟩
            · replace c18 := Bool.eq_false_iff.mpr c18
              subst c18
              have H1 : (if t255 = 0 then ((stockyardref02_Under.f kj12 t256 t260).bind fun t265 => (if (t254 == t265) = true then ((stockyardlaw02_awake.f kj12).bind fun t266 => (some t266)) else (some false))) else (some false)) = some r := by rw [if_neg (show ¬ (false = true) by decide)] at H; exact H
              clear H
              have H := H1
              clear H1
              by_cases c23 : t255 = 0
              · rw [if_pos c23] at H
                have c23b0 : (t255 == 0) = true := beq_iff_eq.mpr c23
                have c23b1 : (t255 != 0) = false := bne_eq_false_iff_eq.mpr c23
                clear c23
                replace H := Option.bind_eq_some_iff.mp H
                obtain ⟨t265, A240, H⟩ := H
                replace H : (if (t254 == t265) = true then ((stockyardlaw02_awake.f kj12).bind fun t266 => (some t266)) else (some false)) = some r := H
                have A24 := Aside0.mk A240
                clear A240
                by_cases c25 : (t254 == t265) = true
                · rw [if_pos c25] at H
                  have c25b0 : (t254 == t265) = true := c25
                  (try (have c25b1 : decide (t254 = t265) = true := by simpa using c25))
                  (try (have c25b2 : (t254 == t265) = true := by simpa using c25))
                  clear c25
                  replace H := Option.bind_eq_some_iff.mp H
                  obtain ⟨t266, A260, H⟩ := H
                  replace H : (some t266) = some r := H
                  have A26 := Aside0.mk A260
                  clear A260
                  obtain rfl := Option.some.inj H
                  obtain ⟨Ao27, co27, eo27⟩ := Kd.R_slice HO_7.out
                  subst eo27
                  obtain ⟨Ao28, co28, eo28⟩ := Kd.R_slice HO_9.out
                  subst eo28
                  go_wp2_with (first | (go_at_call 24; (with_reducible refine (stockyardref02_Under.calls kj12 _ _ t256 _ _ t260 t265 _ ?side1 ?side2 ?side3 ?side4 A24.out).mono ?_); (case side1 => repeat (first | exact (Kd.R_reads' HO_7.out).2.2 | (with_reducible refine Kd.C_alloc ?_ _) | (with_reducible refine Kd.C_drewN ?_ _) | (with_reducible refine Kd.C_drew ?_))); (case side2 => exact (Kd.R_reads' HO_7.out).2.1); (case side3 => repeat (first | exact (Kd.R_reads' HO_9.out).2.2 | (with_reducible refine Kd.C_alloc ?_ _) | (with_reducible refine Kd.C_drewN ?_ _) | (with_reducible refine Kd.C_drew ?_))); (case side4 => exact (Kd.R_reads' HO_9.out).2.1); rintro e w' ⟨rfl, ⟨nd, rfl⟩⟩) | (go_at_call 14; (with_reducible refine (stockyardlaw02_awake.calls kj12  t266 _ A26.out).mono ?_); rintro e w29 ⟨rfl, hb⟩; have n0_ := Aside0.mk (Kd.R_below (by (with_reducible repeat (first | apply Kd.R_alloc | apply Kd.R_drewN | apply Kd.R_drew)); exact HO_7.out) hb); have n1_ := Aside0.mk (Kd.R_below (by (with_reducible repeat (first | apply Kd.R_alloc | apply Kd.R_drewN | apply Kd.R_drew)); exact HO_9.out) hb); have n2_ := Aside0.mk (below_step (by repeat (first | (with_reducible first | exact HB.out | apply below_alloc | apply pw_below_drewN | apply below_drew1) | exact HB.out)) hb); clear HO_7; clear HO_9; clear HB; have HO_7 := n0_; have HO_9 := n1_; have HB := n2_; clear n0_ n1_ n2_; (try clear hb); (try clear hb2); (try clear hk); (try clear hi)))
                  go_ret
                  exact ⟨by first | rfl | (simp [errW_none, errW_some] <;> rfl) | (simp [*, errW_none, errW_some] <;> rfl), by repeat (first | (with_reducible first | exact HB.out | apply below_alloc | apply pw_below_drewN | apply below_drew1) | exact HB.out)⟩
                · rw [if_neg c25] at H
                  have c25b0 : (t254 == t265) = false := by simpa using c25
                  (try (have c25b1 : decide (t254 = t265) = false := by simpa using c25))
                  (try (have c25b2 : (t254 == t265) = false := by simpa using c25))
                  (try (have c25b3 : ¬ (t254 = t265) := by simpa using c25))
                  clear c25
                  obtain rfl := Option.some.inj H
                  obtain ⟨Ao30, co30, eo30⟩ := Kd.R_slice HO_7.out
                  subst eo30
                  obtain ⟨Ao31, co31, eo31⟩ := Kd.R_slice HO_9.out
                  subst eo31
                  go_wp2_with (first | (go_at_call 24; (with_reducible refine (stockyardref02_Under.calls kj12 _ _ t256 _ _ t260 t265 _ ?side1 ?side2 ?side3 ?side4 A24.out).mono ?_); (case side1 => repeat (first | exact (Kd.R_reads' HO_7.out).2.2 | (with_reducible refine Kd.C_alloc ?_ _) | (with_reducible refine Kd.C_drewN ?_ _) | (with_reducible refine Kd.C_drew ?_))); (case side2 => exact (Kd.R_reads' HO_7.out).2.1); (case side3 => repeat (first | exact (Kd.R_reads' HO_9.out).2.2 | (with_reducible refine Kd.C_alloc ?_ _) | (with_reducible refine Kd.C_drewN ?_ _) | (with_reducible refine Kd.C_drew ?_))); (case side4 => exact (Kd.R_reads' HO_9.out).2.1); rintro e w' ⟨rfl, ⟨nd, rfl⟩⟩))
                  go_ret
                  exact ⟨by first | rfl | (simp [errW_none, errW_some] <;> rfl) | (simp [*, errW_none, errW_some] <;> rfl), by repeat (first | (with_reducible first | exact HB.out | apply below_alloc | apply pw_below_drewN | apply below_drew1) | exact HB.out)⟩
              · rw [if_neg c23] at H
                have c23b0 : (t255 == 0) = false := beq_eq_false_iff_ne.mpr c23
                have c23b1 : (t255 != 0) = true := bne_iff_ne.mpr c23
                obtain rfl := Option.some.inj H
                go_wp2
                go_ret
                exact ⟨by first | rfl | (simp [errW_none, errW_some] <;> rfl) | (simp [*, errW_none, errW_some] <;> rfl), by repeat (first | (with_reducible first | exact HB.out | apply below_alloc | apply pw_below_drewN | apply below_drew1) | exact HB.out)⟩

/-! ### strings_Join: function 39: an external -/
theorem join_addr {w : World} {ad : Addr} {v : Value} (h : w.cell? ad = some v) : ad = ⟨ad.block, ad.off, none⟩ := by
  obtain ⟨b, o, s⟩ := ad
  cases s with
  | none => rfl
  | some s =>
    unfold World.cell? at h
    split at h <;> simp at h
def strings_Join.f (l0 : List ByteArray) (a1 : ByteArray) : Option (ByteArray) := if l0.length ≤ 140737488355328 ∧ (Lib.join (l0.map (·.data.toList)) a1.data.toList).length ≤ 140737488355328 then some ⟨(Lib.join (l0.map (·.data.toList)) a1.data.toList).toArray⟩ else none
theorem strings_Join.calls (A0 : Option Addr) (c0 : Nat) (l0 : List ByteArray) (a1 : ByteArray) (r : ByteArray) (w : World) (hr0 : Kd.C Kd.string w A0 l0.length l0) (hc0 : l0.length ≤ c0) (h : strings_Join.f l0 a1 = some r) :
    Calls Tryd.prog 39 #[.slice A0 l0.length c0, .string a1] w fun e w' => e = .returned (.string r) ∧ Below w.heap.size w w' := by
  unfold strings_Join.f at h
  split at h
  · rename_i hh
    obtain ⟨hN, hlen⟩ := hh
    obtain rfl := Option.some.inj h
    rcases Nat.eq_zero_or_pos l0.length with h0 | h0
    · obtain rfl := List.eq_nil_of_length_eq_zero h0
      refine (Tryd.strings_Join_none A0 c0 a1 w).mono ?_
      rintro e w' ⟨rfl, rfl⟩
      exact ⟨rfl, Below.refl _ _⟩
    · obtain ⟨ad, rfl, hcs⟩ := hr0.2.2 h0
      have hcell : ∀ (j : Nat) x, l0[j]? = some x → w.cell? (ad.add j) = some (.string x) := by
        intro j x hx
        obtain ⟨c, _, hK, hc⟩ := hcs j x hx
        have e : c = [Value.string x] := hK
        subst e
        have := hc 0 (.string x) rfl
        rwa [show j * Kd.string.sz + 0 = j from by show j * 1 + 0 = j; omega] at this
      obtain ⟨x, xs, rfl⟩ : ∃ x xs, l0 = x :: xs := by
        cases l0 with
        | nil => simp at h0
        | cons x xs => exact ⟨x, xs, rfl⟩
      have h1 := hcell 0 x rfl
      have h1' : w.cell? ad = some (.string x) := by simpa [Addr.add] using h1
      have ea := join_addr h1'
      have hbk := World.block_lt_of_cell? w ad h1'
      rw [ea]
      refine (Tryd.strings_Join ad.block ad.off c0 (x :: xs) a1 w (fun j y hy => ?_) hbk hN hc0 hlen).mono ?_
      · have := hcell j y hy
        rw [ea] at this
        by_cases hj : j = 0
        · subst hj
          simpa [Addr.add] using this
        · simpa [Addr.add, hj] using this
      · rintro e w' ⟨rfl, hb⟩
        exact ⟨rfl, hb⟩
  · cases h

end Go.Proofs.YtgbnjkfhkhkkfaaDoor.P

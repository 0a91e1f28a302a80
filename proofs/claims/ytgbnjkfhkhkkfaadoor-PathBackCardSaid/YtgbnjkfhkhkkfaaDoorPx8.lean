-- Written by a program of this session (wip/gen.py) over the kit's print: each Go function as a plain Lean function, and the proof that the Go code comes to it. Nothing here is trusted: Lean checks it.
import Derived.Test.YtgbnjkfhkhkkfaaDoorPx0
import Derived.Test.YtgbnjkfhkhkkfaaDoorPx1
import Derived.Test.YtgbnjkfhkhkkfaaDoorPx2
import Derived.Test.YtgbnjkfhkhkkfaaDoorPx4
import Derived.Test.YtgbnjkfhkhkkfaaDoorPx5
import Derived.Test.YtgbnjkfhkhkkfaaDoorPx7
namespace Go.Proofs.YtgbnjkfhkhkkfaaDoor.P
open Go.RowKit Go.Proofs.YtgbnjkfhkhkkfaaDoorW.PrintWords Go.Proofs.YtgbnjkfhkhkkfaaDoorW.PrintLast Go.Proofs.YtgbnjkfhkhkkfaaDoorW.PrintMore
attribute [local go_sem] str_gtr str_leq str_geq max2_int min2_int max_two min_two max_three min_three max_four min_four   -- for this text's walks alone
set_option linter.unusedVariables false
set_option linter.unusedSimpArgs false

/-! ### stockyardref02_Extension: function 30 -/
def stockyardref02_Extension.f (k : Nat) (a0 : ByteArray) : Option (ByteArray) := (strings_LastIndexByte.f k a0 46).bind fun t299 => (if t299 < 0 then (some (⟨#[]⟩ : ByteArray)) else (if 0 ≤ t299 then (if t299 ≤ (a0.size : Int) then (some (a0.extract (t299 : Int).toNat a0.size)) else (none)) else (none)))
theorem stockyardref02_Extension.mono : ∀ a0 k, LeO (stockyardref02_Extension.f k a0) (stockyardref02_Extension.f (k + 1) a0) := by
  intro a0 k
  unfold stockyardref02_Extension.f
  repeat' first
      | (with_reducible exact strings_LastIndexByte.mono _ _ _)
      | (with_reducible exact LeO.refl _)
      | (with_reducible exact LeO.none _)
      | (with_reducible refine LeO.ite ?_ ?_)
      | (with_reducible refine LeO.bind ?_ (fun _ => ?_))
      | exact strings_LastIndexByte.mono _ _ _
      | exact LeO.none _
      | refine LeO.ite ?_ ?_
      | refine LeO.bind ?_ (fun _ => ?_)
set_option maxHeartbeats 8000000 in
set_option maxRecDepth 100000 in
theorem stockyardref02_Extension.calls (k : Nat) (a0 : ByteArray) (r : ByteArray) (w : World) (h : stockyardref02_Extension.f k a0 = some r) :
    Calls Tryd.prog 30 #[.string a0] w fun e w' => e = .returned (.string r) ∧ Drawn0 w w' := by
  have H : ((strings_LastIndexByte.f k a0 46).bind fun t299 => (if t299 < 0 then (some (⟨#[]⟩ : ByteArray)) else (if 0 ≤ t299 then (if t299 ≤ (a0.size : Int) then (some (a0.extract (t299 : Int).toNat a0.size)) else (none)) else (none)))) = some r := h
  clear h
  replace H := Option.bind_eq_some_iff.mp H
  obtain ⟨t299, A20, H⟩ := H
  replace H : (if t299 < 0 then (some (⟨#[]⟩ : ByteArray)) else (if 0 ≤ t299 then (if t299 ≤ (a0.size : Int) then (some (a0.extract (t299 : Int).toNat a0.size)) else (none)) else (none))) = some r := H
  have A2 := Aside0.mk A20
  clear A20
  by_cases c3 : t299 < 0
  · rw [if_pos c3] at H
    have c3b0 : decide (t299 < 0) = true := decide_eq_true c3
    clear c3
    obtain rfl := Option.some.inj H
    go_enter Tryd.func30, Tryd.ntmps30
    go_wp2_with (first | ((with_reducible refine gate_callee (f := 40) rfl ?_); refine goesL_ (some 5) rfl rfl Tryd.func40 (by kernel_rfl) rfl #[.string a0, .int .u8 46] rfl (by (try simp only [List.map_toArray, List.map_cons, List.map_nil]); first | done | rfl | (simp only [List.length_drop, List.length_take]; rfl)) ?_; (with_reducible refine (strings_LastIndexByte.calls k a0 46 t299 _ A2.out).mono ?_); rintro e w' ⟨rfl, ⟨nd, rfl⟩⟩; refine ⟨_, rfl, ?_⟩))
    go_ret
    exact ⟨by first | rfl | (simp; done) | (simp [*]; done), by repeat (first | exact Drawn0.refl _ | apply Drawn0.step)⟩
  · rw [if_neg c3] at H
    have c3b0 : decide (t299 < 0) = false := decide_eq_false c3
    clear c3
    by_cases c4 : 0 ≤ t299
    · rw [if_pos c4] at H
      have c4b0 := eq_true c4
      have c4b1 : decide (0 ≤ t299) = true := decide_eq_true c4
      clear c4
      by_cases c5 : t299 ≤ (a0.size : Int)
      · rw [if_pos c5] at H
        have c5b0 := eq_true c5
        have c5b1 : decide (t299 ≤ (a0.size : Int)) = true := decide_eq_true c5
        clear c5
        obtain rfl := Option.some.inj H
        go_enter Tryd.func30, Tryd.ntmps30
        go_wp2_with (first | ((with_reducible refine gate_callee (f := 40) rfl ?_); refine goesL_ (some 5) rfl rfl Tryd.func40 (by kernel_rfl) rfl #[.string a0, .int .u8 46] rfl (by (try simp only [List.map_toArray, List.map_cons, List.map_nil]); first | done | rfl | (simp only [List.length_drop, List.length_take]; rfl)) ?_; (with_reducible refine (strings_LastIndexByte.calls k a0 46 t299 _ A2.out).mono ?_); rintro e w' ⟨rfl, ⟨nd, rfl⟩⟩; refine ⟨_, rfl, ?_⟩))
        go_ret
        exact ⟨by first | rfl | (simp; done) | (simp [*]; done), by repeat (first | exact Drawn0.refl _ | apply Drawn0.step)⟩
      · rw [if_neg c5] at H
        exact absurd H (by simp)
    · rw [if_neg c4] at H
      exact absurd H (by simp)

/-! ### stockyardlaw02_PathPieces: function 10 -/
def stockyardlaw02_PathPieces.f (k : Nat) (a0 : ByteArray) : Option (Bool) := (stockyardlaw02_long.f a0).bind fun t300 => (if t300 = true then ((stockyardlaw02_awake.f k).bind fun t301 => (some t301)) else ((path_Parent.f k a0).bind fun bt302 => ((path_Name.f k a0).bind fun bt304 => ((path_Extension.f k a0).bind fun bt306 => ((stockyardref02_Path.f k a0).bind fun bt308 => (if bt308.2 = true then (if 0 ≤ (wrap64 ((bt308.1.length : Int) - 1)) then (if (wrap64 ((bt308.1.length : Int) - 1)) < (bt308.1.length : Int) then (if bt302.2 = 0 then (if bt304.2 = 0 then (if bt306.2 = 0 then (if (wrap64 ((bt308.1.length : Int) - 1)) ≤ (bt308.1.length : Int) then ((stockyardref02_Join.f (bt308.1.take ((wrap64 ((bt308.1.length : Int) - 1)) : Int).toNat)).bind fun t317 => (if bt302.1.toList = t317.toList then (if bt304.1.toList = (rdOf ByteArray.empty bt308.1 (wrap64 ((bt308.1.length : Int) - 1))).toList then ((stockyardref02_Extension.f k (rdOf ByteArray.empty bt308.1 (wrap64 ((bt308.1.length : Int) - 1)))).bind fun t318 => (if bt306.1.toList = t318.toList then ((stockyardlaw02_awake.f k).bind fun t319 => (some t319)) else (some false))) else (some false)) else (some false))) else (none)) else (some false)) else (some false)) else (some false)) else (none)) else (none)) else (if bt302.1.toList = ([] : List UInt8) then (if bt304.1.toList = ([] : List UInt8) then (if bt306.1.toList = ([] : List UInt8) then (if bt302.2 = 20 then (if bt304.2 = bt302.2 then (if bt306.2 = bt302.2 then ((stockyardlaw02_awake.f k).bind fun t320 => (some t320)) else (some false)) else (some false)) else (some false)) else (some false)) else (some false)) else (some false))))))))
theorem stockyardlaw02_PathPieces.mono : ∀ a0 k, LeO (stockyardlaw02_PathPieces.f k a0) (stockyardlaw02_PathPieces.f (k + 1) a0) := by
  intro a0 k
  unfold stockyardlaw02_PathPieces.f
  repeat' first
      | (with_reducible exact path_Extension.mono _ _)
      | (with_reducible exact path_Name.mono _ _)
      | (with_reducible exact path_Parent.mono _ _)
      | (with_reducible exact stockyardlaw02_awake.mono _)
      | (with_reducible exact stockyardref02_Extension.mono _ _)
      | (with_reducible exact stockyardref02_Path.mono _ _)
      | (with_reducible exact LeO.refl _)
      | (with_reducible exact LeO.none _)
      | (with_reducible refine LeO.ite ?_ ?_)
      | (with_reducible refine LeO.bind ?_ (fun _ => ?_))
      | exact path_Extension.mono _ _
      | exact path_Name.mono _ _
      | exact path_Parent.mono _ _
      | exact stockyardlaw02_awake.mono _
      | exact stockyardref02_Extension.mono _ _
      | exact stockyardref02_Path.mono _ _
      | exact LeO.none _
      | refine LeO.ite ?_ ?_
      | refine LeO.bind ?_ (fun _ => ?_)
set_option maxHeartbeats 8000000 in
set_option maxRecDepth 100000 in
theorem stockyardlaw02_PathPieces.calls (k : Nat) (a0 : ByteArray) (r : Bool) (w : World) (h : stockyardlaw02_PathPieces.f k a0 = some r) :
    Calls Tryd.prog 10 #[.string a0] w fun e w' => e = .returned (.bool r) ∧ Below w.heap.size w w' := by
  have HB := Aside0.mk (Below.refl w.heap.size w)
  have H : ((stockyardlaw02_long.f a0).bind fun t300 => (if t300 = true then ((stockyardlaw02_awake.f k).bind fun t301 => (some t301)) else ((path_Parent.f k a0).bind fun bt302 => ((path_Name.f k a0).bind fun bt304 => ((path_Extension.f k a0).bind fun bt306 => ((stockyardref02_Path.f k a0).bind fun bt308 => (if bt308.2 = true then (if 0 ≤ (wrap64 ((bt308.1.length : Int) - 1)) then (if (wrap64 ((bt308.1.length : Int) - 1)) < (bt308.1.length : Int) then (if bt302.2 = 0 then (if bt304.2 = 0 then (if bt306.2 = 0 then (if (wrap64 ((bt308.1.length : Int) - 1)) ≤ (bt308.1.length : Int) then ((stockyardref02_Join.f (bt308.1.take ((wrap64 ((bt308.1.length : Int) - 1)) : Int).toNat)).bind fun t317 => (if bt302.1.toList = t317.toList then (if bt304.1.toList = (rdOf ByteArray.empty bt308.1 (wrap64 ((bt308.1.length : Int) - 1))).toList then ((stockyardref02_Extension.f k (rdOf ByteArray.empty bt308.1 (wrap64 ((bt308.1.length : Int) - 1)))).bind fun t318 => (if bt306.1.toList = t318.toList then ((stockyardlaw02_awake.f k).bind fun t319 => (some t319)) else (some false))) else (some false)) else (some false))) else (none)) else (some false)) else (some false)) else (some false)) else (none)) else (none)) else (if bt302.1.toList = ([] : List UInt8) then (if bt304.1.toList = ([] : List UInt8) then (if bt306.1.toList = ([] : List UInt8) then (if bt302.2 = 20 then (if bt304.2 = bt302.2 then (if bt306.2 = bt302.2 then ((stockyardlaw02_awake.f k).bind fun t320 => (some t320)) else (some false)) else (some false)) else (some false)) else (some false)) else (some false)) else (some false))))))))) = some r := h
  clear h
  replace H := Option.bind_eq_some_iff.mp H
  obtain ⟨t300, A20, H⟩ := H
  replace H : (if t300 = true then ((stockyardlaw02_awake.f k).bind fun t301 => (some t301)) else ((path_Parent.f k a0).bind fun bt302 => ((path_Name.f k a0).bind fun bt304 => ((path_Extension.f k a0).bind fun bt306 => ((stockyardref02_Path.f k a0).bind fun bt308 => (if bt308.2 = true then (if 0 ≤ (wrap64 ((bt308.1.length : Int) - 1)) then (if (wrap64 ((bt308.1.length : Int) - 1)) < (bt308.1.length : Int) then (if bt302.2 = 0 then (if bt304.2 = 0 then (if bt306.2 = 0 then (if (wrap64 ((bt308.1.length : Int) - 1)) ≤ (bt308.1.length : Int) then ((stockyardref02_Join.f (bt308.1.take ((wrap64 ((bt308.1.length : Int) - 1)) : Int).toNat)).bind fun t317 => (if bt302.1.toList = t317.toList then (if bt304.1.toList = (rdOf ByteArray.empty bt308.1 (wrap64 ((bt308.1.length : Int) - 1))).toList then ((stockyardref02_Extension.f k (rdOf ByteArray.empty bt308.1 (wrap64 ((bt308.1.length : Int) - 1)))).bind fun t318 => (if bt306.1.toList = t318.toList then ((stockyardlaw02_awake.f k).bind fun t319 => (some t319)) else (some false))) else (some false)) else (some false))) else (none)) else (some false)) else (some false)) else (some false)) else (none)) else (none)) else (if bt302.1.toList = ([] : List UInt8) then (if bt304.1.toList = ([] : List UInt8) then (if bt306.1.toList = ([] : List UInt8) then (if bt302.2 = 20 then (if bt304.2 = bt302.2 then (if bt306.2 = bt302.2 then ((stockyardlaw02_awake.f k).bind fun t320 => (some t320)) else (some false)) else (some false)) else (some false)) else (some false)) else (some false)) else (some false)))))))) = some r := H
  have A2 := Aside0.mk A20
  clear A20
  by_cases c3 : t300 = true
  · subst c3
    have H1 : ((stockyardlaw02_awake.f k).bind fun t301 => (some t301)) = some r := by rw [if_pos rfl] at H; exact H
    clear H
    have H := H1
    clear H1
    replace H := Option.bind_eq_some_iff.mp H
    obtain ⟨t301, A40, H⟩ := H
    replace H : (some t301) = some r := H
    have A4 := Aside0.mk A40
    clear A40
    obtain rfl := Option.some.inj H
    go_enter Tryd.func10, Tryd.ntmps10
    go_wp2_with (first | ((with_reducible refine gate_callee (f := 12) rfl ?_); refine goesL_ (some 13) rfl rfl Tryd.func12 (by kernel_rfl) rfl #[.string a0] rfl (by (try simp only [List.map_toArray, List.map_cons, List.map_nil]); first | done | rfl | (simp only [List.length_drop, List.length_take]; rfl)) ?_; (with_reducible refine (stockyardlaw02_long.calls a0 true _ A2.out).mono ?_); rintro e w' ⟨rfl, ⟨nd, rfl⟩⟩; refine ⟨_, rfl, ?_⟩) | ((with_reducible refine gate_callee (f := 14) rfl ?_); refine goesL_ (some 14) rfl rfl Tryd.func14 (by kernel_rfl) rfl #[] rfl (by (try simp only [List.map_toArray, List.map_cons, List.map_nil]); first | done | rfl | (simp only [List.length_drop, List.length_take]; rfl)) ?_; (with_reducible refine (stockyardlaw02_awake.calls k  t301 _ A4.out).mono ?_); rintro e w5 ⟨rfl, hb⟩; refine ⟨_, rfl, ?_⟩; have n0_ := Aside0.mk (below_step (by repeat (first | (with_reducible first | exact HB.out | apply below_alloc | apply pw_below_drewN | apply below_drew1) | exact HB.out)) hb); clear HB; have HB := n0_; clear n0_; (try clear hb); (try clear hb2); (try clear hk); (try clear hi)))
    go_ret
    exact ⟨by first | rfl | (simp [errW_none, errW_some] <;> rfl) | (simp [*, errW_none, errW_some] <;> rfl), by repeat (first | (with_reducible first | exact HB.out | apply below_alloc | apply pw_below_drewN | apply below_drew1) | exact HB.out)⟩
  · replace c3 := Bool.eq_false_iff.mpr c3
    subst c3
    have H1 : ((path_Parent.f k a0).bind fun bt302 => ((path_Name.f k a0).bind fun bt304 => ((path_Extension.f k a0).bind fun bt306 => ((stockyardref02_Path.f k a0).bind fun bt308 => (if bt308.2 = true then (if 0 ≤ (wrap64 ((bt308.1.length : Int) - 1)) then (if (wrap64 ((bt308.1.length : Int) - 1)) < (bt308.1.length : Int) then (if bt302.2 = 0 then (if bt304.2 = 0 then (if bt306.2 = 0 then (if (wrap64 ((bt308.1.length : Int) - 1)) ≤ (bt308.1.length : Int) then ((stockyardref02_Join.f (bt308.1.take ((wrap64 ((bt308.1.length : Int) - 1)) : Int).toNat)).bind fun t317 => (if bt302.1.toList = t317.toList then (if bt304.1.toList = (rdOf ByteArray.empty bt308.1 (wrap64 ((bt308.1.length : Int) - 1))).toList then ((stockyardref02_Extension.f k (rdOf ByteArray.empty bt308.1 (wrap64 ((bt308.1.length : Int) - 1)))).bind fun t318 => (if bt306.1.toList = t318.toList then ((stockyardlaw02_awake.f k).bind fun t319 => (some t319)) else (some false))) else (some false)) else (some false))) else (none)) else (some false)) else (some false)) else (some false)) else (none)) else (none)) else (if bt302.1.toList = ([] : List UInt8) then (if bt304.1.toList = ([] : List UInt8) then (if bt306.1.toList = ([] : List UInt8) then (if bt302.2 = 20 then (if bt304.2 = bt302.2 then (if bt306.2 = bt302.2 then ((stockyardlaw02_awake.f k).bind fun t320 => (some t320)) else (some false)) else (some false)) else (some false)) else (some false)) else (some false)) else (some false))))))) = some r := by rw [if_neg (show ¬ (false = true) by decide)] at H; exact H
    clear H
    have H := H1
    clear H1
    replace H := Option.bind_eq_some_iff.mp H
    obtain ⟨⟨t302, t303⟩, A60, H⟩ := H
    replace H : ((path_Name.f k a0).bind fun bt304 => ((path_Extension.f k a0).bind fun bt306 => ((stockyardref02_Path.f k a0).bind fun bt308 => (if bt308.2 = true then (if 0 ≤ (wrap64 ((bt308.1.length : Int) - 1)) then (if (wrap64 ((bt308.1.length : Int) - 1)) < (bt308.1.length : Int) then (if t303 = 0 then (if bt304.2 = 0 then (if bt306.2 = 0 then (if (wrap64 ((bt308.1.length : Int) - 1)) ≤ (bt308.1.length : Int) then ((stockyardref02_Join.f (bt308.1.take ((wrap64 ((bt308.1.length : Int) - 1)) : Int).toNat)).bind fun t317 => (if t302.toList = t317.toList then (if bt304.1.toList = (rdOf ByteArray.empty bt308.1 (wrap64 ((bt308.1.length : Int) - 1))).toList then ((stockyardref02_Extension.f k (rdOf ByteArray.empty bt308.1 (wrap64 ((bt308.1.length : Int) - 1)))).bind fun t318 => (if bt306.1.toList = t318.toList then ((stockyardlaw02_awake.f k).bind fun t319 => (some t319)) else (some false))) else (some false)) else (some false))) else (none)) else (some false)) else (some false)) else (some false)) else (none)) else (none)) else (if t302.toList = ([] : List UInt8) then (if bt304.1.toList = ([] : List UInt8) then (if bt306.1.toList = ([] : List UInt8) then (if t303 = 20 then (if bt304.2 = t303 then (if bt306.2 = t303 then ((stockyardlaw02_awake.f k).bind fun t320 => (some t320)) else (some false)) else (some false)) else (some false)) else (some false)) else (some false)) else (some false)))))) = some r := H
    have A6 := Aside0.mk A60
    clear A60
    replace H := Option.bind_eq_some_iff.mp H
    obtain ⟨⟨t304, t305⟩, A70, H⟩ := H
    replace H : ((path_Extension.f k a0).bind fun bt306 => ((stockyardref02_Path.f k a0).bind fun bt308 => (if bt308.2 = true then (if 0 ≤ (wrap64 ((bt308.1.length : Int) - 1)) then (if (wrap64 ((bt308.1.length : Int) - 1)) < (bt308.1.length : Int) then (if t303 = 0 then (if t305 = 0 then (if bt306.2 = 0 then (if (wrap64 ((bt308.1.length : Int) - 1)) ≤ (bt308.1.length : Int) then ((stockyardref02_Join.f (bt308.1.take ((wrap64 ((bt308.1.length : Int) - 1)) : Int).toNat)).bind fun t317 => (if t302.toList = t317.toList then (if t304.toList = (rdOf ByteArray.empty bt308.1 (wrap64 ((bt308.1.length : Int) - 1))).toList then ((stockyardref02_Extension.f k (rdOf ByteArray.empty bt308.1 (wrap64 ((bt308.1.length : Int) - 1)))).bind fun t318 => (if bt306.1.toList = t318.toList then ((stockyardlaw02_awake.f k).bind fun t319 => (some t319)) else (some false))) else (some false)) else (some false))) else (none)) else (some false)) else (some false)) else (some false)) else (none)) else (none)) else (if t302.toList = ([] : List UInt8) then (if t304.toList = ([] : List UInt8) then (if bt306.1.toList = ([] : List UInt8) then (if t303 = 20 then (if t305 = t303 then (if bt306.2 = t303 then ((stockyardlaw02_awake.f k).bind fun t320 => (some t320)) else (some false)) else (some false)) else (some false)) else (some false)) else (some false)) else (some false))))) = some r := H
    have A7 := Aside0.mk A70
    clear A70
    replace H := Option.bind_eq_some_iff.mp H
    obtain ⟨⟨t306, t307⟩, A80, H⟩ := H
    replace H : ((stockyardref02_Path.f k a0).bind fun bt308 => (if bt308.2 = true then (if 0 ≤ (wrap64 ((bt308.1.length : Int) - 1)) then (if (wrap64 ((bt308.1.length : Int) - 1)) < (bt308.1.length : Int) then (if t303 = 0 then (if t305 = 0 then (if t307 = 0 then (if (wrap64 ((bt308.1.length : Int) - 1)) ≤ (bt308.1.length : Int) then ((stockyardref02_Join.f (bt308.1.take ((wrap64 ((bt308.1.length : Int) - 1)) : Int).toNat)).bind fun t317 => (if t302.toList = t317.toList then (if t304.toList = (rdOf ByteArray.empty bt308.1 (wrap64 ((bt308.1.length : Int) - 1))).toList then ((stockyardref02_Extension.f k (rdOf ByteArray.empty bt308.1 (wrap64 ((bt308.1.length : Int) - 1)))).bind fun t318 => (if t306.toList = t318.toList then ((stockyardlaw02_awake.f k).bind fun t319 => (some t319)) else (some false))) else (some false)) else (some false))) else (none)) else (some false)) else (some false)) else (some false)) else (none)) else (none)) else (if t302.toList = ([] : List UInt8) then (if t304.toList = ([] : List UInt8) then (if t306.toList = ([] : List UInt8) then (if t303 = 20 then (if t305 = t303 then (if t307 = t303 then ((stockyardlaw02_awake.f k).bind fun t320 => (some t320)) else (some false)) else (some false)) else (some false)) else (some false)) else (some false)) else (some false)))) = some r := H
    have A8 := Aside0.mk A80
    clear A80
    replace H := Option.bind_eq_some_iff.mp H
    obtain ⟨⟨t308, t309⟩, A90, H⟩ := H
    replace H : (if t309 = true then (if 0 ≤ (wrap64 ((t308.length : Int) - 1)) then (if (wrap64 ((t308.length : Int) - 1)) < (t308.length : Int) then (if t303 = 0 then (if t305 = 0 then (if t307 = 0 then (if (wrap64 ((t308.length : Int) - 1)) ≤ (t308.length : Int) then ((stockyardref02_Join.f (t308.take ((wrap64 ((t308.length : Int) - 1)) : Int).toNat)).bind fun t317 => (if t302.toList = t317.toList then (if t304.toList = (rdOf ByteArray.empty t308 (wrap64 ((t308.length : Int) - 1))).toList then ((stockyardref02_Extension.f k (rdOf ByteArray.empty t308 (wrap64 ((t308.length : Int) - 1)))).bind fun t318 => (if t306.toList = t318.toList then ((stockyardlaw02_awake.f k).bind fun t319 => (some t319)) else (some false))) else (some false)) else (some false))) else (none)) else (some false)) else (some false)) else (some false)) else (none)) else (none)) else (if t302.toList = ([] : List UInt8) then (if t304.toList = ([] : List UInt8) then (if t306.toList = ([] : List UInt8) then (if t303 = 20 then (if t305 = t303 then (if t307 = t303 then ((stockyardlaw02_awake.f k).bind fun t320 => (some t320)) else (some false)) else (some false)) else (some false)) else (some false)) else (some false)) else (some false))) = some r := H
    have A9 := Aside0.mk A90
    clear A90
    by_cases c10 : t309 = true
    · subst c10
      have H1 : (if 0 ≤ (wrap64 ((t308.length : Int) - 1)) then (if (wrap64 ((t308.length : Int) - 1)) < (t308.length : Int) then (if t303 = 0 then (if t305 = 0 then (if t307 = 0 then (if (wrap64 ((t308.length : Int) - 1)) ≤ (t308.length : Int) then ((stockyardref02_Join.f (t308.take ((wrap64 ((t308.length : Int) - 1)) : Int).toNat)).bind fun t317 => (if t302.toList = t317.toList then (if t304.toList = (rdOf ByteArray.empty t308 (wrap64 ((t308.length : Int) - 1))).toList then ((stockyardref02_Extension.f k (rdOf ByteArray.empty t308 (wrap64 ((t308.length : Int) - 1)))).bind fun t318 => (if t306.toList = t318.toList then ((stockyardlaw02_awake.f k).bind fun t319 => (some t319)) else (some false))) else (some false)) else (some false))) else (none)) else (some false)) else (some false)) else (some false)) else (none)) else (none)) = some r := by rw [if_pos rfl] at H; exact H
      clear H
      have H := H1
      clear H1
      obtain ⟨ji11, hji11⟩ : ∃ j_ : Int, (wrap64 ((t308.length : Int) - 1)) = j_ := ⟨_, rfl⟩
      replace H : (if 0 ≤ (ji11) then (if (ji11) < (t308.length : Int) then (if t303 = 0 then (if t305 = 0 then (if t307 = 0 then (if (ji11) ≤ (t308.length : Int) then ((stockyardref02_Join.f (t308.take ((ji11) : Int).toNat)).bind fun t317 => (if t302.toList = t317.toList then (if t304.toList = (rdOf ByteArray.empty t308 (ji11)).toList then ((stockyardref02_Extension.f k (rdOf ByteArray.empty t308 (ji11))).bind fun t318 => (if t306.toList = t318.toList then ((stockyardlaw02_awake.f k).bind fun t319 => (some t319)) else (some false))) else (some false)) else (some false))) else (none)) else (some false)) else (some false)) else (some false)) else (none)) else (none)) = some r := by first | (rw [hji11] at H; exact H) | (simp only [hji11] at H ⊢; exact H)
      (try rw [hji11] at A2)
      (try rw [hji11] at A6)
      (try rw [hji11] at A7)
      (try rw [hji11] at A8)
      (try rw [hji11] at A9)
      have hji11w : (IntKind.i64.wrap ((t308.length : Int) - 1)) = ji11 := (i64_w _).trans hji11
      by_cases c12 : 0 ≤ (ji11)
      · rw [if_pos c12] at H
        have c12b0 : decide (0 ≤ (ji11)) = true := decide_eq_true c12
        clear c12
        by_cases c13 : (ji11) < (t308.length : Int)
        · rw [if_pos c13] at H
          have c13b0 : decide ((ji11) < (t308.length : Int)) = true := decide_eq_true c13
          clear c13
          by_cases c14 : t303 = 0
          · rw [if_pos c14] at H
            have c14b0 : (t303 == 0) = true := beq_iff_eq.mpr c14
            have c14b1 : (t303 != 0) = false := bne_eq_false_iff_eq.mpr c14
            clear c14
            by_cases c15 : t305 = 0
            · rw [if_pos c15] at H
              have c15b0 : (t305 == 0) = true := beq_iff_eq.mpr c15
              have c15b1 : (t305 != 0) = false := bne_eq_false_iff_eq.mpr c15
              clear c15
              by_cases c16 : t307 = 0
              · rw [if_pos c16] at H
                have c16b0 : (t307 == 0) = true := beq_iff_eq.mpr c16
                have c16b1 : (t307 != 0) = false := bne_eq_false_iff_eq.mpr c16
                clear c16
                have c17b0 := eq_true (of_decide_eq_true (by first | (with_reducible assumption) | assumption) : 0 ≤ (ji11))
                by_cases c18 : (ji11) ≤ (t308.length : Int)
                · rw [if_pos c18] at H
                  have c18b0 := eq_true c18
                  have c18b1 : decide ((ji11) ≤ (t308.length : Int)) = true := decide_eq_true c18
                  clear c18
                  obtain ⟨y313, hy313⟩ : ∃ y_ : List ByteArray, y_ = (t308.take ((ji11) : Int).toNat) := ⟨_, rfl⟩
                  replace H : ((stockyardref02_Join.f y313).bind fun t317 => (if t302.toList = t317.toList then (if t304.toList = (rdOf ByteArray.empty t308 (ji11)).toList then ((stockyardref02_Extension.f k (rdOf ByteArray.empty t308 (ji11))).bind fun t318 => (if t306.toList = t318.toList then ((stockyardlaw02_awake.f k).bind fun t319 => (some t319)) else (some false))) else (some false)) else (some false))) = some r := by first | (rw [hy313]; with_reducible exact H) | (have H2_ := (Option.bind_some _ _).symm.trans H; rw [hy313]; with_reducible exact H2_) | (have H2_ := (Option.bind_some _ _).symm.trans H; with_reducible exact H2_) | with_reducible exact H | (rw [hy313]; exact H) | exact H
                  have Ny313 := Aside0.mk hy313
                  clear hy313
                  replace H := Option.bind_eq_some_iff.mp H
                  obtain ⟨t317, A190, H⟩ := H
                  replace H : (if t302.toList = t317.toList then (if t304.toList = (rdOf ByteArray.empty t308 (ji11)).toList then ((stockyardref02_Extension.f k (rdOf ByteArray.empty t308 (ji11))).bind fun t318 => (if t306.toList = t318.toList then ((stockyardlaw02_awake.f k).bind fun t319 => (some t319)) else (some false))) else (some false)) else (some false)) = some r := H
                  have A19 := Aside0.mk A190
                  clear A190
                  by_cases c20 : t302.toList = t317.toList
                  · rw [if_pos c20] at H
                    have c20b0 : (t302.toList == t317.toList) = true := beq_iff_eq.mpr c20
                    have c20b1 : (t302.toList != t317.toList) = false := bne_eq_false_iff_eq.mpr c20
                    clear c20
                    by_cases c21 : t304.toList = (rdOf ByteArray.empty t308 (ji11)).toList
                    · rw [if_pos c21] at H
                      have c21b0 : (t304.toList == (rdOf ByteArray.empty t308 (ji11)).toList) = true := beq_iff_eq.mpr c21
                      have c21b1 : (t304.toList != (rdOf ByteArray.empty t308 (ji11)).toList) = false := bne_eq_false_iff_eq.mpr c21
                      clear c21
                      replace H := Option.bind_eq_some_iff.mp H
                      obtain ⟨t318, A220, H⟩ := H
                      replace H : (if t306.toList = t318.toList then ((stockyardlaw02_awake.f k).bind fun t319 => (some t319)) else (some false)) = some r := H
                      have A22 := Aside0.mk A220
                      clear A220
                      by_cases c23 : t306.toList = t318.toList
                      · rw [if_pos c23] at H
                        have c23b0 : (t306.toList == t318.toList) = true := beq_iff_eq.mpr c23
                        have c23b1 : (t306.toList != t318.toList) = false := bne_eq_false_iff_eq.mpr c23
                        clear c23
                        replace H := Option.bind_eq_some_iff.mp H
                        obtain ⟨t319, A240, H⟩ := H
                        replace H : (some t319) = some r := H
                        have A24 := Aside0.mk A240
                        clear A240
                        obtain rfl := Option.some.inj H
                        go_enter Tryd.func10, Tryd.ntmps10
                        go_wp2_with (first | ((with_reducible refine gate_callee (f := 12) rfl ?_); refine goesL_ (some 13) rfl rfl Tryd.func12 (by kernel_rfl) rfl #[.string a0] rfl (by (try simp only [List.map_toArray, List.map_cons, List.map_nil]); first | done | rfl | (simp only [List.length_drop, List.length_take]; rfl)) ?_; (with_reducible refine (stockyardlaw02_long.calls a0 false _ A2.out).mono ?_); rintro e w' ⟨rfl, ⟨nd, rfl⟩⟩; refine ⟨_, rfl, ?_⟩) | ((with_reducible refine gate_callee (f := 27) rfl ?_); refine goesL_ (some 17) rfl rfl Tryd.func27 (by kernel_rfl) rfl #[.string a0] rfl (by (try simp only [List.map_toArray, List.map_cons, List.map_nil]); first | done | rfl | (simp only [List.length_drop, List.length_take]; rfl)) ?_; (with_reducible refine (path_Parent.calls k a0 t302 t303 _ A6.out).mono ?_); rintro e w25 ⟨rfl, hb⟩; refine ⟨_, rfl, ?_⟩; have n0_ := Aside0.mk (below_step (by repeat (first | (with_reducible first | exact HB.out | apply below_alloc | apply pw_below_drewN | apply below_drew1) | exact HB.out)) hb); clear HB; have HB := n0_; clear n0_; (try clear hb); (try clear hb2); (try clear hk); (try clear hi)) | ((with_reducible refine gate_callee (f := 28) rfl ?_); refine goesL_ (some 22) rfl rfl Tryd.func28 (by kernel_rfl) rfl #[.string a0] rfl (by (try simp only [List.map_toArray, List.map_cons, List.map_nil]); first | done | rfl | (simp only [List.length_drop, List.length_take]; rfl)) ?_; (with_reducible refine (path_Name.calls k a0 t304 t305 _ A7.out).mono ?_); rintro e w26 ⟨rfl, hb⟩; refine ⟨_, rfl, ?_⟩; have n0_ := Aside0.mk (below_step (by repeat (first | (with_reducible first | exact HB.out | apply below_alloc | apply pw_below_drewN | apply below_drew1) | exact HB.out)) hb); clear HB; have HB := n0_; clear n0_; (try clear hb); (try clear hb2); (try clear hk); (try clear hi)) | ((with_reducible refine gate_callee (f := 29) rfl ?_); refine goesL_ (some 27) rfl rfl Tryd.func29 (by kernel_rfl) rfl #[.string a0] rfl (by (try simp only [List.map_toArray, List.map_cons, List.map_nil]); first | done | rfl | (simp only [List.length_drop, List.length_take]; rfl)) ?_; (with_reducible refine (path_Extension.calls k a0 t306 t307 _ A8.out).mono ?_); rintro e w27 ⟨rfl, hb⟩; refine ⟨_, rfl, ?_⟩; have n0_ := Aside0.mk (below_step (by repeat (first | (with_reducible first | exact HB.out | apply below_alloc | apply pw_below_drewN | apply below_drew1) | exact HB.out)) hb); clear HB; have HB := n0_; clear n0_; (try clear hb); (try clear hb2); (try clear hk); (try clear hi)) | ((with_reducible refine gate_callee (f := 16) rfl ?_); refine goesL_ (some 32) rfl rfl Tryd.func16 (by kernel_rfl) rfl #[.string a0] rfl (by (try simp only [List.map_toArray, List.map_cons, List.map_nil]); first | done | rfl | (simp only [List.length_drop, List.length_take]; rfl)) ?_; (with_reducible refine (stockyardref02_Path.calls k a0 t308 true _ A9.out).mono ?_); rintro e w28 ⟨v310, rfl, ho0, hb⟩; refine ⟨_, rfl, ?_⟩; have n0_ := Aside0.mk (Kd.R_lower ho0 (below_size (by repeat (first | (with_reducible first | exact HB.out | apply below_alloc | apply pw_below_drewN | apply below_drew1) | exact HB.out)))); have n1_ := Aside0.mk (below_step (by repeat (first | (with_reducible first | exact HB.out | apply below_alloc | apply pw_below_drewN | apply below_drew1) | exact HB.out)) hb); clear HB; have HO311 := n0_; have HB := n1_; clear n0_ n1_; (try clear hb); (try clear hb2); (try clear hk); (try clear hi); (try clear ho0); obtain ⟨Ao29, co29, eo29⟩ := Kd.R_slice HO311.out; subst eo29; have p312 : 0 ≤ ((ji11) : Int) := of_decide_eq_true (by first | (with_reducible assumption) | assumption); have q312 : (ji11) < (t308.length : Int) := of_decide_eq_true (by first | (with_reducible assumption) | assumption); obtain ⟨ad312, e312, hx312_0⟩ := Kd.at_string (Kd.R_reads' HO311.out).2.2 (ji11) p312 q312; cases e312; replace p312 := eq_true p312; replace q312 := eq_true q312; have q30 : ((ji11) : Int) ≤ ((t308.length : Int) : Int) := of_decide_eq_true (by first | (with_reducible assumption) | assumption); obtain ⟨i030, hi030, _, hsz30, _⟩ := info_parts info9; have hroom30 : t308.length ≤ co29 := (Kd.R_reads' HO311.out).2.1; have hC30 : Kd.C Kd.string _ (some ad312) t308.length t308 := (Kd.R_reads' HO311.out).2.2; have hcut30 := cut_to (P := Tryd.prog) 28 9 .i64 Tryd.underlying28 hi030 (some ad312) t308.length co29 (ji11) (of_decide_eq_true (by first | (with_reducible assumption) | assumption)) q30 hroom30; have hr30 := Kd.C_take (m := ((ji11) : Int).toNat) hC30 (by omega); have hy30 : y313.length = ((ji11) : Int).toNat := (by rw [Ny313.out, List.length_take]; omega); rw [← Ny313.out] at hr30; rw [← hy30] at hcut30; have HR316 := Aside0.mk hr30; have HC316 := Aside0.mk (show y313.length ≤ co29 from by omega); clear hr30 hC30 hroom30 hi030 hsz30; have KY30 := Aside0.mk hy30; clear hy30; have KL30 := Aside0.mk (show ((ji11) : Int).toNat ≤ t308.length from by omega); replace q30 := eq_true q30) | (go_at_call 26; (with_reducible refine (stockyardref02_Join.calls _ _ y313 t317 _ ?side1 ?side2 A19.out).mono ?_); (case side1 => repeat (first | exact (by repeat (first | (with_reducible exact HR316.out) | (with_reducible refine Kd.C_alloc ?_ _) | (with_reducible refine Kd.C_drewN ?_ _) | (with_reducible refine Kd.C_drew ?_) | exact HR316.out)) | (with_reducible refine Kd.C_alloc ?_ _) | (with_reducible refine Kd.C_drewN ?_ _) | (with_reducible refine Kd.C_drew ?_))); (case side2 => exact HC316.out); rintro e w31 ⟨rfl, hb⟩; have n0_ := Aside0.mk (Kd.R_below (by (with_reducible repeat (first | apply Kd.R_alloc | apply Kd.R_drewN | apply Kd.R_drew)); exact HO311.out) hb); have n1_ := Aside0.mk (Kd.C_below (by repeat (first | (with_reducible exact HR316.out) | (with_reducible refine Kd.C_alloc ?_ _) | (with_reducible refine Kd.C_drewN ?_ _) | (with_reducible refine Kd.C_drew ?_) | exact HR316.out)) hb); have n2_ := Aside0.mk (below_step (by repeat (first | (with_reducible first | exact HB.out | apply below_alloc | apply pw_below_drewN | apply below_drew1) | exact HB.out)) hb); clear HO311; clear HR316; clear HB; have HO311 := n0_; have HR316 := n1_; have HB := n2_; clear n0_ n1_ n2_; (try clear hb); (try clear hb2); (try clear hk); (try clear hi)) | (go_at_call 30; (with_reducible refine (stockyardref02_Extension.calls k (rdOf ByteArray.empty t308 (ji11)) t318 _ A22.out).mono ?_); rintro e w' ⟨rfl, ⟨nd, rfl⟩⟩) | (go_at_call 14; (with_reducible refine (stockyardlaw02_awake.calls k  t319 _ A24.out).mono ?_); rintro e w32 ⟨rfl, hb⟩; have n0_ := Aside0.mk (Kd.R_below (by (with_reducible repeat (first | apply Kd.R_alloc | apply Kd.R_drewN | apply Kd.R_drew)); exact HO311.out) hb); have n1_ := Aside0.mk (Kd.C_below (by repeat (first | (with_reducible exact HR316.out) | (with_reducible refine Kd.C_alloc ?_ _) | (with_reducible refine Kd.C_drewN ?_ _) | (with_reducible refine Kd.C_drew ?_) | exact HR316.out)) hb); have n2_ := Aside0.mk (below_step (by repeat (first | (with_reducible first | exact HB.out | apply below_alloc | apply pw_below_drewN | apply below_drew1) | exact HB.out)) hb); clear HO311; clear HR316; clear HB; have HO311 := n0_; have HR316 := n1_; have HB := n2_; clear n0_ n1_ n2_; (try clear hb); (try clear hb2); (try clear hk); (try clear hi)))
                        go_ret
                        exact ⟨by first | rfl | (simp [errW_none, errW_some] <;> rfl) | (simp only [← hji11]; first | rfl | (simp [errW_none, errW_some] <;> rfl)) | (simp [*, errW_none, errW_some] <;> rfl), by repeat (first | (with_reducible first | exact HB.out | apply below_alloc | apply pw_below_drewN | apply below_drew1) | exact HB.out)⟩
                      · rw [if_neg c23] at H
                        have c23b0 : (t306.toList == t318.toList) = false := beq_eq_false_iff_ne.mpr c23
                        have c23b1 : (t306.toList != t318.toList) = true := bne_iff_ne.mpr c23
                        obtain rfl := Option.some.inj H
                        go_enter Tryd.func10, Tryd.ntmps10
                        go_wp2_with (first | ((with_reducible refine gate_callee (f := 12) rfl ?_); refine goesL_ (some 13) rfl rfl Tryd.func12 (by kernel_rfl) rfl #[.string a0] rfl (by (try simp only [List.map_toArray, List.map_cons, List.map_nil]); first | done | rfl | (simp only [List.length_drop, List.length_take]; rfl)) ?_; (with_reducible refine (stockyardlaw02_long.calls a0 false _ A2.out).mono ?_); rintro e w' ⟨rfl, ⟨nd, rfl⟩⟩; refine ⟨_, rfl, ?_⟩) | ((with_reducible refine gate_callee (f := 27) rfl ?_); refine goesL_ (some 17) rfl rfl Tryd.func27 (by kernel_rfl) rfl #[.string a0] rfl (by (try simp only [List.map_toArray, List.map_cons, List.map_nil]); first | done | rfl | (simp only [List.length_drop, List.length_take]; rfl)) ?_; (with_reducible refine (path_Parent.calls k a0 t302 t303 _ A6.out).mono ?_); rintro e w33 ⟨rfl, hb⟩; refine ⟨_, rfl, ?_⟩; have n0_ := Aside0.mk (below_step (by repeat (first | (with_reducible first | exact HB.out | apply below_alloc | apply pw_below_drewN | apply below_drew1) | exact HB.out)) hb); clear HB; have HB := n0_; clear n0_; (try clear hb); (try clear hb2); (try clear hk); (try clear hi)) | ((with_reducible refine gate_callee (f := 28) rfl ?_); refine goesL_ (some 22) rfl rfl Tryd.func28 (by kernel_rfl) rfl #[.string a0] rfl (by (try simp only [List.map_toArray, List.map_cons, List.map_nil]); first | done | rfl | (simp only [List.length_drop, List.length_take]; rfl)) ?_; (with_reducible refine (path_Name.calls k a0 t304 t305 _ A7.out).mono ?_); rintro e w34 ⟨rfl, hb⟩; refine ⟨_, rfl, ?_⟩; have n0_ := Aside0.mk (below_step (by repeat (first | (with_reducible first | exact HB.out | apply below_alloc | apply pw_below_drewN | apply below_drew1) | exact HB.out)) hb); clear HB; have HB := n0_; clear n0_; (try clear hb); (try clear hb2); (try clear hk); (try clear hi)) | ((with_reducible refine gate_callee (f := 29) rfl ?_); refine goesL_ (some 27) rfl rfl Tryd.func29 (by kernel_rfl) rfl #[.string a0] rfl (by (try simp only [List.map_toArray, List.map_cons, List.map_nil]); first | done | rfl | (simp only [List.length_drop, List.length_take]; rfl)) ?_; (with_reducible refine (path_Extension.calls k a0 t306 t307 _ A8.out).mono ?_); rintro e w35 ⟨rfl, hb⟩; refine ⟨_, rfl, ?_⟩; have n0_ := Aside0.mk (below_step (by repeat (first | (with_reducible first | exact HB.out | apply below_alloc | apply pw_below_drewN | apply below_drew1) | exact HB.out)) hb); clear HB; have HB := n0_; clear n0_; (try clear hb); (try clear hb2); (try clear hk); (try clear hi)) | ((with_reducible refine gate_callee (f := 16) rfl ?_); refine goesL_ (some 32) rfl rfl Tryd.func16 (by kernel_rfl) rfl #[.string a0] rfl (by (try simp only [List.map_toArray, List.map_cons, List.map_nil]); first | done | rfl | (simp only [List.length_drop, List.length_take]; rfl)) ?_; (with_reducible refine (stockyardref02_Path.calls k a0 t308 true _ A9.out).mono ?_); rintro e w36 ⟨v310, rfl, ho0, hb⟩; refine ⟨_, rfl, ?_⟩; have n0_ := Aside0.mk (Kd.R_lower ho0 (below_size (by repeat (first | (with_reducible first | exact HB.out | apply below_alloc | apply pw_below_drewN | apply below_drew1) | exact HB.out)))); have n1_ := Aside0.mk (below_step (by repeat (first | (with_reducible first | exact HB.out | apply below_alloc | apply pw_below_drewN | apply below_drew1) | exact HB.out)) hb); clear HB; have HO311 := n0_; have HB := n1_; clear n0_ n1_; (try clear hb); (try clear hb2); (try clear hk); (try clear hi); (try clear ho0); obtain ⟨Ao37, co37, eo37⟩ := Kd.R_slice HO311.out; subst eo37; have p312 : 0 ≤ ((ji11) : Int) := of_decide_eq_true (by first | (with_reducible assumption) | assumption); have q312 : (ji11) < (t308.length : Int) := of_decide_eq_true (by first | (with_reducible assumption) | assumption); obtain ⟨ad312, e312, hx312_0⟩ := Kd.at_string (Kd.R_reads' HO311.out).2.2 (ji11) p312 q312; cases e312; replace p312 := eq_true p312; replace q312 := eq_true q312; have q38 : ((ji11) : Int) ≤ ((t308.length : Int) : Int) := of_decide_eq_true (by first | (with_reducible assumption) | assumption); obtain ⟨i038, hi038, _, hsz38, _⟩ := info_parts info9; have hroom38 : t308.length ≤ co37 := (Kd.R_reads' HO311.out).2.1; have hC38 : Kd.C Kd.string _ (some ad312) t308.length t308 := (Kd.R_reads' HO311.out).2.2; have hcut38 := cut_to (P := Tryd.prog) 28 9 .i64 Tryd.underlying28 hi038 (some ad312) t308.length co37 (ji11) (of_decide_eq_true (by first | (with_reducible assumption) | assumption)) q38 hroom38; have hr38 := Kd.C_take (m := ((ji11) : Int).toNat) hC38 (by omega); have hy38 : y313.length = ((ji11) : Int).toNat := (by rw [Ny313.out, List.length_take]; omega); rw [← Ny313.out] at hr38; rw [← hy38] at hcut38; have HR316 := Aside0.mk hr38; have HC316 := Aside0.mk (show y313.length ≤ co37 from by omega); clear hr38 hC38 hroom38 hi038 hsz38; have KY38 := Aside0.mk hy38; clear hy38; have KL38 := Aside0.mk (show ((ji11) : Int).toNat ≤ t308.length from by omega); replace q38 := eq_true q38) | (go_at_call 26; (with_reducible refine (stockyardref02_Join.calls _ _ y313 t317 _ ?side1 ?side2 A19.out).mono ?_); (case side1 => repeat (first | exact (by repeat (first | (with_reducible exact HR316.out) | (with_reducible refine Kd.C_alloc ?_ _) | (with_reducible refine Kd.C_drewN ?_ _) | (with_reducible refine Kd.C_drew ?_) | exact HR316.out)) | (with_reducible refine Kd.C_alloc ?_ _) | (with_reducible refine Kd.C_drewN ?_ _) | (with_reducible refine Kd.C_drew ?_))); (case side2 => exact HC316.out); rintro e w39 ⟨rfl, hb⟩; have n0_ := Aside0.mk (Kd.R_below (by (with_reducible repeat (first | apply Kd.R_alloc | apply Kd.R_drewN | apply Kd.R_drew)); exact HO311.out) hb); have n1_ := Aside0.mk (Kd.C_below (by repeat (first | (with_reducible exact HR316.out) | (with_reducible refine Kd.C_alloc ?_ _) | (with_reducible refine Kd.C_drewN ?_ _) | (with_reducible refine Kd.C_drew ?_) | exact HR316.out)) hb); have n2_ := Aside0.mk (below_step (by repeat (first | (with_reducible first | exact HB.out | apply below_alloc | apply pw_below_drewN | apply below_drew1) | exact HB.out)) hb); clear HO311; clear HR316; clear HB; have HO311 := n0_; have HR316 := n1_; have HB := n2_; clear n0_ n1_ n2_; (try clear hb); (try clear hb2); (try clear hk); (try clear hi)) | (go_at_call 30; (with_reducible refine (stockyardref02_Extension.calls k (rdOf ByteArray.empty t308 (ji11)) t318 _ A22.out).mono ?_); rintro e w' ⟨rfl, ⟨nd, rfl⟩⟩))
                        go_ret
                        exact ⟨by first | rfl | (simp [errW_none, errW_some] <;> rfl) | (simp only [← hji11]; first | rfl | (simp [errW_none, errW_some] <;> rfl)) | (simp [*, errW_none, errW_some] <;> rfl), by repeat (first | (with_reducible first | exact HB.out | apply below_alloc | apply pw_below_drewN | apply below_drew1) | exact HB.out)⟩
                    · rw [if_neg c21] at H
                      have c21b0 : (t304.toList == (rdOf ByteArray.empty t308 (ji11)).toList) = false := beq_eq_false_iff_ne.mpr c21
                      have c21b1 : (t304.toList != (rdOf ByteArray.empty t308 (ji11)).toList) = true := bne_iff_ne.mpr c21
                      obtain rfl := Option.some.inj H
                      go_enter Tryd.func10, Tryd.ntmps10
                      go_wp2_with (first | ((with_reducible refine gate_callee (f := 12) rfl ?_); refine goesL_ (some 13) rfl rfl Tryd.func12 (by kernel_rfl) rfl #[.string a0] rfl (by (try simp only [List.map_toArray, List.map_cons, List.map_nil]); first | done | rfl | (simp only [List.length_drop, List.length_take]; rfl)) ?_; (with_reducible refine (stockyardlaw02_long.calls a0 false _ A2.out).mono ?_); rintro e w' ⟨rfl, ⟨nd, rfl⟩⟩; refine ⟨_, rfl, ?_⟩) | ((with_reducible refine gate_callee (f := 27) rfl ?_); refine goesL_ (some 17) rfl rfl Tryd.func27 (by kernel_rfl) rfl #[.string a0] rfl (by (try simp only [List.map_toArray, List.map_cons, List.map_nil]); first | done | rfl | (simp only [List.length_drop, List.length_take]; rfl)) ?_; (with_reducible refine (path_Parent.calls k a0 t302 t303 _ A6.out).mono ?_); rintro e w40 ⟨rfl, hb⟩; refine ⟨_, rfl, ?_⟩; have n0_ := Aside0.mk (below_step (by repeat (first | (with_reducible first | exact HB.out | apply below_alloc | apply pw_below_drewN | apply below_drew1) | exact HB.out)) hb); clear HB; have HB := n0_; clear n0_; (try clear hb); (try clear hb2); (try clear hk); (try clear hi)) | ((with_reducible refine gate_callee (f := 28) rfl ?_); refine goesL_ (some 22) rfl rfl Tryd.func28 (by kernel_rfl) rfl #[.string a0] rfl (by (try simp only [List.map_toArray, List.map_cons, List.map_nil]); first | done | rfl | (simp only [List.length_drop, List.length_take]; rfl)) ?_; (with_reducible refine (path_Name.calls k a0 t304 t305 _ A7.out).mono ?_); rintro e w41 ⟨rfl, hb⟩; refine ⟨_, rfl, ?_⟩; have n0_ := Aside0.mk (below_step (by repeat (first | (with_reducible first | exact HB.out | apply below_alloc | apply pw_below_drewN | apply below_drew1) | exact HB.out)) hb); clear HB; have HB := n0_; clear n0_; (try clear hb); (try clear hb2); (try clear hk); (try clear hi)) | ((with_reducible refine gate_callee (f := 29) rfl ?_); refine goesL_ (some 27) rfl rfl Tryd.func29 (by kernel_rfl) rfl #[.string a0] rfl (by (try simp only [List.map_toArray, List.map_cons, List.map_nil]); first | done | rfl | (simp only [List.length_drop, List.length_take]; rfl)) ?_; (with_reducible refine (path_Extension.calls k a0 t306 t307 _ A8.out).mono ?_); rintro e w42 ⟨rfl, hb⟩; refine ⟨_, rfl, ?_⟩; have n0_ := Aside0.mk (below_step (by repeat (first | (with_reducible first | exact HB.out | apply below_alloc | apply pw_below_drewN | apply below_drew1) | exact HB.out)) hb); clear HB; have HB := n0_; clear n0_; (try clear hb); (try clear hb2); (try clear hk); (try clear hi)) | ((with_reducible refine gate_callee (f := 16) rfl ?_); refine goesL_ (some 32) rfl rfl Tryd.func16 (by kernel_rfl) rfl #[.string a0] rfl (by (try simp only [List.map_toArray, List.map_cons, List.map_nil]); first | done | rfl | (simp only [List.length_drop, List.length_take]; rfl)) ?_; (with_reducible refine (stockyardref02_Path.calls k a0 t308 true _ A9.out).mono ?_); rintro e w43 ⟨v310, rfl, ho0, hb⟩; refine ⟨_, rfl, ?_⟩; have n0_ := Aside0.mk (Kd.R_lower ho0 (below_size (by repeat (first | (with_reducible first | exact HB.out | apply below_alloc | apply pw_below_drewN | apply below_drew1) | exact HB.out)))); have n1_ := Aside0.mk (below_step (by repeat (first | (with_reducible first | exact HB.out | apply below_alloc | apply pw_below_drewN | apply below_drew1) | exact HB.out)) hb); clear HB; have HO311 := n0_; have HB := n1_; clear n0_ n1_; (try clear hb); (try clear hb2); (try clear hk); (try clear hi); (try clear ho0); obtain ⟨Ao44, co44, eo44⟩ := Kd.R_slice HO311.out; subst eo44; have p312 : 0 ≤ ((ji11) : Int) := of_decide_eq_true (by first | (with_reducible assumption) | assumption); have q312 : (ji11) < (t308.length : Int) := of_decide_eq_true (by first | (with_reducible assumption) | assumption); obtain ⟨ad312, e312, hx312_0⟩ := Kd.at_string (Kd.R_reads' HO311.out).2.2 (ji11) p312 q312; cases e312; replace p312 := eq_true p312; replace q312 := eq_true q312; have q45 : ((ji11) : Int) ≤ ((t308.length : Int) : Int) := of_decide_eq_true (by first | (with_reducible assumption) | assumption); obtain ⟨i045, hi045, _, hsz45, _⟩ := info_parts info9; have hroom45 : t308.length ≤ co44 := (Kd.R_reads' HO311.out).2.1; have hC45 : Kd.C Kd.string _ (some ad312) t308.length t308 := (Kd.R_reads' HO311.out).2.2; have hcut45 := cut_to (P := Tryd.prog) 28 9 .i64 Tryd.underlying28 hi045 (some ad312) t308.length co44 (ji11) (of_decide_eq_true (by first | (with_reducible assumption) | assumption)) q45 hroom45; have hr45 := Kd.C_take (m := ((ji11) : Int).toNat) hC45 (by omega); have hy45 : y313.length = ((ji11) : Int).toNat := (by rw [Ny313.out, List.length_take]; omega); rw [← Ny313.out] at hr45; rw [← hy45] at hcut45; have HR316 := Aside0.mk hr45; have HC316 := Aside0.mk (show y313.length ≤ co44 from by omega); clear hr45 hC45 hroom45 hi045 hsz45; have KY45 := Aside0.mk hy45; clear hy45; have KL45 := Aside0.mk (show ((ji11) : Int).toNat ≤ t308.length from by omega); replace q45 := eq_true q45) | (go_at_call 26; (with_reducible refine (stockyardref02_Join.calls _ _ y313 t317 _ ?side1 ?side2 A19.out).mono ?_); (case side1 => repeat (first | exact (by repeat (first | (with_reducible exact HR316.out) | (with_reducible refine Kd.C_alloc ?_ _) | (with_reducible refine Kd.C_drewN ?_ _) | (with_reducible refine Kd.C_drew ?_) | exact HR316.out)) | (with_reducible refine Kd.C_alloc ?_ _) | (with_reducible refine Kd.C_drewN ?_ _) | (with_reducible refine Kd.C_drew ?_))); (case side2 => exact HC316.out); rintro e w46 ⟨rfl, hb⟩; have n0_ := Aside0.mk (Kd.R_below (by (with_reducible repeat (first | apply Kd.R_alloc | apply Kd.R_drewN | apply Kd.R_drew)); exact HO311.out) hb); have n1_ := Aside0.mk (Kd.C_below (by repeat (first | (with_reducible exact HR316.out) | (with_reducible refine Kd.C_alloc ?_ _) | (with_reducible refine Kd.C_drewN ?_ _) | (with_reducible refine Kd.C_drew ?_) | exact HR316.out)) hb); have n2_ := Aside0.mk (below_step (by repeat (first | (with_reducible first | exact HB.out | apply below_alloc | apply pw_below_drewN | apply below_drew1) | exact HB.out)) hb); clear HO311; clear HR316; clear HB; have HO311 := n0_; have HR316 := n1_; have HB := n2_; clear n0_ n1_ n2_; (try clear hb); (try clear hb2); (try clear hk); (try clear hi)))
                      go_ret
                      exact ⟨by first | rfl | (simp [errW_none, errW_some] <;> rfl) | (simp only [← hji11]; first | rfl | (simp [errW_none, errW_some] <;> rfl)) | (simp [*, errW_none, errW_some] <;> rfl), by repeat (first | (with_reducible first | exact HB.out | apply below_alloc | apply pw_below_drewN | apply below_drew1) | exact HB.out)⟩
                  · rw [if_neg c20] at H
                    have c20b0 : (t302.toList == t317.toList) = false := beq_eq_false_iff_ne.mpr c20
                    have c20b1 : (t302.toList != t317.toList) = true := bne_iff_ne.mpr c20
                    obtain rfl := Option.some.inj H
                    go_enter Tryd.func10, Tryd.ntmps10
                    go_wp2_with (first | ((with_reducible refine gate_callee (f := 12) rfl ?_); refine goesL_ (some 13) rfl rfl Tryd.func12 (by kernel_rfl) rfl #[.string a0] rfl (by (try simp only [List.map_toArray, List.map_cons, List.map_nil]); first | done | rfl | (simp only [List.length_drop, List.length_take]; rfl)) ?_; (with_reducible refine (stockyardlaw02_long.calls a0 false _ A2.out).mono ?_); rintro e w' ⟨rfl, ⟨nd, rfl⟩⟩; refine ⟨_, rfl, ?_⟩) | ((with_reducible refine gate_callee (f := 27) rfl ?_); refine goesL_ (some 17) rfl rfl Tryd.func27 (by kernel_rfl) rfl #[.string a0] rfl (by (try simp only [List.map_toArray, List.map_cons, List.map_nil]); first | done | rfl | (simp only [List.length_drop, List.length_take]; rfl)) ?_; (with_reducible refine (path_Parent.calls k a0 t302 t303 _ A6.out).mono ?_); rintro e w47 ⟨rfl, hb⟩; refine ⟨_, rfl, ?_⟩; have n0_ := Aside0.mk (below_step (by repeat (first | (with_reducible first | exact HB.out | apply below_alloc | apply pw_below_drewN | apply below_drew1) | exact HB.out)) hb); clear HB; have HB := n0_; clear n0_; (try clear hb); (try clear hb2); (try clear hk); (try clear hi)) | ((with_reducible refine gate_callee (f := 28) rfl ?_); refine goesL_ (some 22) rfl rfl Tryd.func28 (by kernel_rfl) rfl #[.string a0] rfl (by (try simp only [List.map_toArray, List.map_cons, List.map_nil]); first | done | rfl | (simp only [List.length_drop, List.length_take]; rfl)) ?_; (with_reducible refine (path_Name.calls k a0 t304 t305 _ A7.out).mono ?_); rintro e w48 ⟨rfl, hb⟩; refine ⟨_, rfl, ?_⟩; have n0_ := Aside0.mk (below_step (by repeat (first | (with_reducible first | exact HB.out | apply below_alloc | apply pw_below_drewN | apply below_drew1) | exact HB.out)) hb); clear HB; have HB := n0_; clear n0_; (try clear hb); (try clear hb2); (try clear hk); (try clear hi)) | ((with_reducible refine gate_callee (f := 29) rfl ?_); refine goesL_ (some 27) rfl rfl Tryd.func29 (by kernel_rfl) rfl #[.string a0] rfl (by (try simp only [List.map_toArray, List.map_cons, List.map_nil]); first | done | rfl | (simp only [List.length_drop, List.length_take]; rfl)) ?_; (with_reducible refine (path_Extension.calls k a0 t306 t307 _ A8.out).mono ?_); rintro e w49 ⟨rfl, hb⟩; refine ⟨_, rfl, ?_⟩; have n0_ := Aside0.mk (below_step (by repeat (first | (with_reducible first | exact HB.out | apply below_alloc | apply pw_below_drewN | apply below_drew1) | exact HB.out)) hb); clear HB; have HB := n0_; clear n0_; (try clear hb); (try clear hb2); (try clear hk); (try clear hi)) | ((with_reducible refine gate_callee (f := 16) rfl ?_); refine goesL_ (some 32) rfl rfl Tryd.func16 (by kernel_rfl) rfl #[.string a0] rfl (by (try simp only [List.map_toArray, List.map_cons, List.map_nil]); first | done | rfl | (simp only [List.length_drop, List.length_take]; rfl)) ?_; (with_reducible refine (stockyardref02_Path.calls k a0 t308 true _ A9.out).mono ?_); rintro e w50 ⟨v310, rfl, ho0, hb⟩; refine ⟨_, rfl, ?_⟩; have n0_ := Aside0.mk (Kd.R_lower ho0 (below_size (by repeat (first | (with_reducible first | exact HB.out | apply below_alloc | apply pw_below_drewN | apply below_drew1) | exact HB.out)))); have n1_ := Aside0.mk (below_step (by repeat (first | (with_reducible first | exact HB.out | apply below_alloc | apply pw_below_drewN | apply below_drew1) | exact HB.out)) hb); clear HB; have HO311 := n0_; have HB := n1_; clear n0_ n1_; (try clear hb); (try clear hb2); (try clear hk); (try clear hi); (try clear ho0); obtain ⟨Ao51, co51, eo51⟩ := Kd.R_slice HO311.out; subst eo51; have p312 : 0 ≤ ((ji11) : Int) := of_decide_eq_true (by first | (with_reducible assumption) | assumption); have q312 : (ji11) < (t308.length : Int) := of_decide_eq_true (by first | (with_reducible assumption) | assumption); obtain ⟨ad312, e312, hx312_0⟩ := Kd.at_string (Kd.R_reads' HO311.out).2.2 (ji11) p312 q312; cases e312; replace p312 := eq_true p312; replace q312 := eq_true q312; have q52 : ((ji11) : Int) ≤ ((t308.length : Int) : Int) := of_decide_eq_true (by first | (with_reducible assumption) | assumption); obtain ⟨i052, hi052, _, hsz52, _⟩ := info_parts info9; have hroom52 : t308.length ≤ co51 := (Kd.R_reads' HO311.out).2.1; have hC52 : Kd.C Kd.string _ (some ad312) t308.length t308 := (Kd.R_reads' HO311.out).2.2; have hcut52 := cut_to (P := Tryd.prog) 28 9 .i64 Tryd.underlying28 hi052 (some ad312) t308.length co51 (ji11) (of_decide_eq_true (by first | (with_reducible assumption) | assumption)) q52 hroom52; have hr52 := Kd.C_take (m := ((ji11) : Int).toNat) hC52 (by omega); have hy52 : y313.length = ((ji11) : Int).toNat := (by rw [Ny313.out, List.length_take]; omega); rw [← Ny313.out] at hr52; rw [← hy52] at hcut52; have HR316 := Aside0.mk hr52; have HC316 := Aside0.mk (show y313.length ≤ co51 from by omega); clear hr52 hC52 hroom52 hi052 hsz52; have KY52 := Aside0.mk hy52; clear hy52; have KL52 := Aside0.mk (show ((ji11) : Int).toNat ≤ t308.length from by omega); replace q52 := eq_true q52) | (go_at_call 26; (with_reducible refine (stockyardref02_Join.calls _ _ y313 t317 _ ?side1 ?side2 A19.out).mono ?_); (case side1 => repeat (first | exact (by repeat (first | (with_reducible exact HR316.out) | (with_reducible refine Kd.C_alloc ?_ _) | (with_reducible refine Kd.C_drewN ?_ _) | (with_reducible refine Kd.C_drew ?_) | exact HR316.out)) | (with_reducible refine Kd.C_alloc ?_ _) | (with_reducible refine Kd.C_drewN ?_ _) | (with_reducible refine Kd.C_drew ?_))); (case side2 => exact HC316.out); rintro e w53 ⟨rfl, hb⟩; have n0_ := Aside0.mk (Kd.R_below (by (with_reducible repeat (first | apply Kd.R_alloc | apply Kd.R_drewN | apply Kd.R_drew)); exact HO311.out) hb); have n1_ := Aside0.mk (Kd.C_below (by repeat (first | (with_reducible exact HR316.out) | (with_reducible refine Kd.C_alloc ?_ _) | (with_reducible refine Kd.C_drewN ?_ _) | (with_reducible refine Kd.C_drew ?_) | exact HR316.out)) hb); have n2_ := Aside0.mk (below_step (by repeat (first | (with_reducible first | exact HB.out | apply below_alloc | apply pw_below_drewN | apply below_drew1) | exact HB.out)) hb); clear HO311; clear HR316; clear HB; have HO311 := n0_; have HR316 := n1_; have HB := n2_; clear n0_ n1_ n2_; (try clear hb); (try clear hb2); (try clear hk); (try clear hi)))
                    go_ret
                    exact ⟨by first | rfl | (simp [errW_none, errW_some] <;> rfl) | (simp only [← hji11]; first | rfl | (simp [errW_none, errW_some] <;> rfl)) | (simp [*, errW_none, errW_some] <;> rfl), by repeat (first | (with_reducible first | exact HB.out | apply below_alloc | apply pw_below_drewN | apply below_drew1) | exact HB.out)⟩
                · rw [if_neg c18] at H
                  exact absurd H (by simp)
              · rw [if_neg c16] at H
                have c16b0 : (t307 == 0) = false := beq_eq_false_iff_ne.mpr c16
                have c16b1 : (t307 != 0) = true := bne_iff_ne.mpr c16
                obtain rfl := Option.some.inj H
                go_enter Tryd.func10, Tryd.ntmps10
                go_wp2_with (first | ((with_reducible refine gate_callee (f := 12) rfl ?_); refine goesL_ (some 13) rfl rfl Tryd.func12 (by kernel_rfl) rfl #[.string a0] rfl (by (try simp only [List.map_toArray, List.map_cons, List.map_nil]); first | done | rfl | (simp only [List.length_drop, List.length_take]; rfl)) ?_; (with_reducible refine (stockyardlaw02_long.calls a0 false _ A2.out).mono ?_); rintro e w' ⟨rfl, ⟨nd, rfl⟩⟩; refine ⟨_, rfl, ?_⟩) | ((with_reducible refine gate_callee (f := 27) rfl ?_); refine goesL_ (some 17) rfl rfl Tryd.func27 (by kernel_rfl) rfl #[.string a0] rfl (by (try simp only [List.map_toArray, List.map_cons, List.map_nil]); first | done | rfl | (simp only [List.length_drop, List.length_take]; rfl)) ?_; (with_reducible refine (path_Parent.calls k a0 t302 t303 _ A6.out).mono ?_); rintro e w54 ⟨rfl, hb⟩; refine ⟨_, rfl, ?_⟩; have n0_ := Aside0.mk (below_step (by repeat (first | (with_reducible first | exact HB.out | apply below_alloc | apply pw_below_drewN | apply below_drew1) | exact HB.out)) hb); clear HB; have HB := n0_; clear n0_; (try clear hb); (try clear hb2); (try clear hk); (try clear hi)) | ((with_reducible refine gate_callee (f := 28) rfl ?_); refine goesL_ (some 22) rfl rfl Tryd.func28 (by kernel_rfl) rfl #[.string a0] rfl (by (try simp only [List.map_toArray, List.map_cons, List.map_nil]); first | done | rfl | (simp only [List.length_drop, List.length_take]; rfl)) ?_; (with_reducible refine (path_Name.calls k a0 t304 t305 _ A7.out).mono ?_); rintro e w55 ⟨rfl, hb⟩; refine ⟨_, rfl, ?_⟩; have n0_ := Aside0.mk (below_step (by repeat (first | (with_reducible first | exact HB.out | apply below_alloc | apply pw_below_drewN | apply below_drew1) | exact HB.out)) hb); clear HB; have HB := n0_; clear n0_; (try clear hb); (try clear hb2); (try clear hk); (try clear hi)) | ((with_reducible refine gate_callee (f := 29) rfl ?_); refine goesL_ (some 27) rfl rfl Tryd.func29 (by kernel_rfl) rfl #[.string a0] rfl (by (try simp only [List.map_toArray, List.map_cons, List.map_nil]); first | done | rfl | (simp only [List.length_drop, List.length_take]; rfl)) ?_; (with_reducible refine (path_Extension.calls k a0 t306 t307 _ A8.out).mono ?_); rintro e w56 ⟨rfl, hb⟩; refine ⟨_, rfl, ?_⟩; have n0_ := Aside0.mk (below_step (by repeat (first | (with_reducible first | exact HB.out | apply below_alloc | apply pw_below_drewN | apply below_drew1) | exact HB.out)) hb); clear HB; have HB := n0_; clear n0_; (try clear hb); (try clear hb2); (try clear hk); (try clear hi)) | ((with_reducible refine gate_callee (f := 16) rfl ?_); refine goesL_ (some 32) rfl rfl Tryd.func16 (by kernel_rfl) rfl #[.string a0] rfl (by (try simp only [List.map_toArray, List.map_cons, List.map_nil]); first | done | rfl | (simp only [List.length_drop, List.length_take]; rfl)) ?_; (with_reducible refine (stockyardref02_Path.calls k a0 t308 true _ A9.out).mono ?_); rintro e w57 ⟨v310, rfl, ho0, hb⟩; refine ⟨_, rfl, ?_⟩; have n0_ := Aside0.mk (Kd.R_lower ho0 (below_size (by repeat (first | (with_reducible first | exact HB.out | apply below_alloc | apply pw_below_drewN | apply below_drew1) | exact HB.out)))); have n1_ := Aside0.mk (below_step (by repeat (first | (with_reducible first | exact HB.out | apply below_alloc | apply pw_below_drewN | apply below_drew1) | exact HB.out)) hb); clear HB; have HO311 := n0_; have HB := n1_; clear n0_ n1_; (try clear hb); (try clear hb2); (try clear hk); (try clear hi); (try clear ho0); obtain ⟨Ao58, co58, eo58⟩ := Kd.R_slice HO311.out; subst eo58; have p312 : 0 ≤ ((ji11) : Int) := of_decide_eq_true (by first | (with_reducible assumption) | assumption); have q312 : (ji11) < (t308.length : Int) := of_decide_eq_true (by first | (with_reducible assumption) | assumption); obtain ⟨ad312, e312, hx312_0⟩ := Kd.at_string (Kd.R_reads' HO311.out).2.2 (ji11) p312 q312; cases e312; replace p312 := eq_true p312; replace q312 := eq_true q312))
                go_ret
                exact ⟨by first | rfl | (simp [errW_none, errW_some] <;> rfl) | (simp only [← hji11]; first | rfl | (simp [errW_none, errW_some] <;> rfl)) | (simp [*, errW_none, errW_some] <;> rfl), by repeat (first | (with_reducible first | exact HB.out | apply below_alloc | apply pw_below_drewN | apply below_drew1) | exact HB.out)⟩
            · rw [if_neg c15] at H
              have c15b0 : (t305 == 0) = false := beq_eq_false_iff_ne.mpr c15
              have c15b1 : (t305 != 0) = true := bne_iff_ne.mpr c15
              obtain rfl := Option.some.inj H
              go_enter Tryd.func10, Tryd.ntmps10
              go_wp2_with (first | ((with_reducible refine gate_callee (f := 12) rfl ?_); refine goesL_ (some 13) rfl rfl Tryd.func12 (by kernel_rfl) rfl #[.string a0] rfl (by (try simp only [List.map_toArray, List.map_cons, List.map_nil]); first | done | rfl | (simp only [List.length_drop, List.length_take]; rfl)) ?_; (with_reducible refine (stockyardlaw02_long.calls a0 false _ A2.out).mono ?_); rintro e w' ⟨rfl, ⟨nd, rfl⟩⟩; refine ⟨_, rfl, ?_⟩) | ((with_reducible refine gate_callee (f := 27) rfl ?_); refine goesL_ (some 17) rfl rfl Tryd.func27 (by kernel_rfl) rfl #[.string a0] rfl (by (try simp only [List.map_toArray, List.map_cons, List.map_nil]); first | done | rfl | (simp only [List.length_drop, List.length_take]; rfl)) ?_; (with_reducible refine (path_Parent.calls k a0 t302 t303 _ A6.out).mono ?_); rintro e w59 ⟨rfl, hb⟩; refine ⟨_, rfl, ?_⟩; have n0_ := Aside0.mk (below_step (by repeat (first | (with_reducible first | exact HB.out | apply below_alloc | apply pw_below_drewN | apply below_drew1) | exact HB.out)) hb); clear HB; have HB := n0_; clear n0_; (try clear hb); (try clear hb2); (try clear hk); (try clear hi)) | ((with_reducible refine gate_callee (f := 28) rfl ?_); refine goesL_ (some 22) rfl rfl Tryd.func28 (by kernel_rfl) rfl #[.string a0] rfl (by (try simp only [List.map_toArray, List.map_cons, List.map_nil]); first | done | rfl | (simp only [List.length_drop, List.length_take]; rfl)) ?_; (with_reducible refine (path_Name.calls k a0 t304 t305 _ A7.out).mono ?_); rintro e w60 ⟨rfl, hb⟩; refine ⟨_, rfl, ?_⟩; have n0_ := Aside0.mk (below_step (by repeat (first | (with_reducible first | exact HB.out | apply below_alloc | apply pw_below_drewN | apply below_drew1) | exact HB.out)) hb); clear HB; have HB := n0_; clear n0_; (try clear hb); (try clear hb2); (try clear hk); (try clear hi)) | ((with_reducible refine gate_callee (f := 29) rfl ?_); refine goesL_ (some 27) rfl rfl Tryd.func29 (by kernel_rfl) rfl #[.string a0] rfl (by (try simp only [List.map_toArray, List.map_cons, List.map_nil]); first | done | rfl | (simp only [List.length_drop, List.length_take]; rfl)) ?_; (with_reducible refine (path_Extension.calls k a0 t306 t307 _ A8.out).mono ?_); rintro e w61 ⟨rfl, hb⟩; refine ⟨_, rfl, ?_⟩; have n0_ := Aside0.mk (below_step (by repeat (first | (with_reducible first | exact HB.out | apply below_alloc | apply pw_below_drewN | apply below_drew1) | exact HB.out)) hb); clear HB; have HB := n0_; clear n0_; (try clear hb); (try clear hb2); (try clear hk); (try clear hi)) | ((with_reducible refine gate_callee (f := 16) rfl ?_); refine goesL_ (some 32) rfl rfl Tryd.func16 (by kernel_rfl) rfl #[.string a0] rfl (by (try simp only [List.map_toArray, List.map_cons, List.map_nil]); first | done | rfl | (simp only [List.length_drop, List.length_take]; rfl)) ?_; (with_reducible refine (stockyardref02_Path.calls k a0 t308 true _ A9.out).mono ?_); rintro e w62 ⟨v310, rfl, ho0, hb⟩; refine ⟨_, rfl, ?_⟩; have n0_ := Aside0.mk (Kd.R_lower ho0 (below_size (by repeat (first | (with_reducible first | exact HB.out | apply below_alloc | apply pw_below_drewN | apply below_drew1) | exact HB.out)))); have n1_ := Aside0.mk (below_step (by repeat (first | (with_reducible first | exact HB.out | apply below_alloc | apply pw_below_drewN | apply below_drew1) | exact HB.out)) hb); clear HB; have HO311 := n0_; have HB := n1_; clear n0_ n1_; (try clear hb); (try clear hb2); (try clear hk); (try clear hi); (try clear ho0); obtain ⟨Ao63, co63, eo63⟩ := Kd.R_slice HO311.out; subst eo63; have p312 : 0 ≤ ((ji11) : Int) := of_decide_eq_true (by first | (with_reducible assumption) | assumption); have q312 : (ji11) < (t308.length : Int) := of_decide_eq_true (by first | (with_reducible assumption) | assumption); obtain ⟨ad312, e312, hx312_0⟩ := Kd.at_string (Kd.R_reads' HO311.out).2.2 (ji11) p312 q312; cases e312; replace p312 := eq_true p312; replace q312 := eq_true q312))
              go_ret
              exact ⟨by first | rfl | (simp [errW_none, errW_some] <;> rfl) | (simp only [← hji11]; first | rfl | (simp [errW_none, errW_some] <;> rfl)) | (simp [*, errW_none, errW_some] <;> rfl), by repeat (first | (with_reducible first | exact HB.out | apply below_alloc | apply pw_below_drewN | apply below_drew1) | exact HB.out)⟩
          · rw [if_neg c14] at H
            have c14b0 : (t303 == 0) = false := beq_eq_false_iff_ne.mpr c14
            have c14b1 : (t303 != 0) = true := bne_iff_ne.mpr c14
            obtain rfl := Option.some.inj H
            go_enter Tryd.func10, Tryd.ntmps10
            go_wp2_with (first | ((with_reducible refine gate_callee (f := 12) rfl ?_); refine goesL_ (some 13) rfl rfl Tryd.func12 (by kernel_rfl) rfl #[.string a0] rfl (by (try simp only [List.map_toArray, List.map_cons, List.map_nil]); first | done | rfl | (simp only [List.length_drop, List.length_take]; rfl)) ?_; (with_reducible refine (stockyardlaw02_long.calls a0 false _ A2.out).mono ?_); rintro e w' ⟨rfl, ⟨nd, rfl⟩⟩; refine ⟨_, rfl, ?_⟩) | ((with_reducible refine gate_callee (f := 27) rfl ?_); refine goesL_ (some 17) rfl rfl Tryd.func27 (by kernel_rfl) rfl #[.string a0] rfl (by (try simp only [List.map_toArray, List.map_cons, List.map_nil]); first | done | rfl | (simp only [List.length_drop, List.length_take]; rfl)) ?_; (with_reducible refine (path_Parent.calls k a0 t302 t303 _ A6.out).mono ?_); rintro e w64 ⟨rfl, hb⟩; refine ⟨_, rfl, ?_⟩; have n0_ := Aside0.mk (below_step (by repeat (first | (with_reducible first | exact HB.out | apply below_alloc | apply pw_below_drewN | apply below_drew1) | exact HB.out)) hb); clear HB; have HB := n0_; clear n0_; (try clear hb); (try clear hb2); (try clear hk); (try clear hi)) | ((with_reducible refine gate_callee (f := 28) rfl ?_); refine goesL_ (some 22) rfl rfl Tryd.func28 (by kernel_rfl) rfl #[.string a0] rfl (by (try simp only [List.map_toArray, List.map_cons, List.map_nil]); first | done | rfl | (simp only [List.length_drop, List.length_take]; rfl)) ?_; (with_reducible refine (path_Name.calls k a0 t304 t305 _ A7.out).mono ?_); rintro e w65 ⟨rfl, hb⟩; refine ⟨_, rfl, ?_⟩; have n0_ := Aside0.mk (below_step (by repeat (first | (with_reducible first | exact HB.out | apply below_alloc | apply pw_below_drewN | apply below_drew1) | exact HB.out)) hb); clear HB; have HB := n0_; clear n0_; (try clear hb); (try clear hb2); (try clear hk); (try clear hi)) | ((with_reducible refine gate_callee (f := 29) rfl ?_); refine goesL_ (some 27) rfl rfl Tryd.func29 (by kernel_rfl) rfl #[.string a0] rfl (by (try simp only [List.map_toArray, List.map_cons, List.map_nil]); first | done | rfl | (simp only [List.length_drop, List.length_take]; rfl)) ?_; (with_reducible refine (path_Extension.calls k a0 t306 t307 _ A8.out).mono ?_); rintro e w66 ⟨rfl, hb⟩; refine ⟨_, rfl, ?_⟩; have n0_ := Aside0.mk (below_step (by repeat (first | (with_reducible first | exact HB.out | apply below_alloc | apply pw_below_drewN | apply below_drew1) | exact HB.out)) hb); clear HB; have HB := n0_; clear n0_; (try clear hb); (try clear hb2); (try clear hk); (try clear hi)) | ((with_reducible refine gate_callee (f := 16) rfl ?_); refine goesL_ (some 32) rfl rfl Tryd.func16 (by kernel_rfl) rfl #[.string a0] rfl (by (try simp only [List.map_toArray, List.map_cons, List.map_nil]); first | done | rfl | (simp only [List.length_drop, List.length_take]; rfl)) ?_; (with_reducible refine (stockyardref02_Path.calls k a0 t308 true _ A9.out).mono ?_); rintro e w67 ⟨v310, rfl, ho0, hb⟩; refine ⟨_, rfl, ?_⟩; have n0_ := Aside0.mk (Kd.R_lower ho0 (below_size (by repeat (first | (with_reducible first | exact HB.out | apply below_alloc | apply pw_below_drewN | apply below_drew1) | exact HB.out)))); have n1_ := Aside0.mk (below_step (by repeat (first | (with_reducible first | exact HB.out | apply below_alloc | apply pw_below_drewN | apply below_drew1) | exact HB.out)) hb); clear HB; have HO311 := n0_; have HB := n1_; clear n0_ n1_; (try clear hb); (try clear hb2); (try clear hk); (try clear hi); (try clear ho0); obtain ⟨Ao68, co68, eo68⟩ := Kd.R_slice HO311.out; subst eo68; have p312 : 0 ≤ ((ji11) : Int) := of_decide_eq_true (by first | (with_reducible assumption) | assumption); have q312 : (ji11) < (t308.length : Int) := of_decide_eq_true (by first | (with_reducible assumption) | assumption); obtain ⟨ad312, e312, hx312_0⟩ := Kd.at_string (Kd.R_reads' HO311.out).2.2 (ji11) p312 q312; cases e312; replace p312 := eq_true p312; replace q312 := eq_true q312))
            go_ret
            exact ⟨by first | rfl | (simp [errW_none, errW_some] <;> rfl) | (simp only [← hji11]; first | rfl | (simp [errW_none, errW_some] <;> rfl)) | (simp [*, errW_none, errW_some] <;> rfl), by repeat (first | (with_reducible first | exact HB.out | apply below_alloc | apply pw_below_drewN | apply below_drew1) | exact HB.out)⟩
        · rw [if_neg c13] at H
          exact absurd H (by simp)
      · rw [if_neg c12] at H
        exact absurd H (by simp)
    · replace c10 := Bool.eq_false_iff.mpr c10
      subst c10
      have H1 : (if t302.toList = ([] : List UInt8) then (if t304.toList = ([] : List UInt8) then (if t306.toList = ([] : List UInt8) then (if t303 = 20 then (if t305 = t303 then (if t307 = t303 then ((stockyardlaw02_awake.f k).bind fun t320 => (some t320)) else (some false)) else (some false)) else (some false)) else (some false)) else (some false)) else (some false)) = some r := by rw [if_neg (show ¬ (false = true) by decide)] at H; exact H
      clear H
      have H := H1
      clear H1
      by_cases c69 : t302.toList = ([] : List UInt8)
      · rw [if_pos c69] at H
        have c69b0 : (t302.toList == ([] : List UInt8)) = true := beq_iff_eq.mpr c69
        have c69b1 : (t302.toList != ([] : List UInt8)) = false := bne_eq_false_iff_eq.mpr c69
        clear c69
        by_cases c70 : t304.toList = ([] : List UInt8)
        · rw [if_pos c70] at H
          have c70b0 : (t304.toList == ([] : List UInt8)) = true := beq_iff_eq.mpr c70
          have c70b1 : (t304.toList != ([] : List UInt8)) = false := bne_eq_false_iff_eq.mpr c70
          clear c70
          by_cases c71 : t306.toList = ([] : List UInt8)
          · rw [if_pos c71] at H
            have c71b0 : (t306.toList == ([] : List UInt8)) = true := beq_iff_eq.mpr c71
            have c71b1 : (t306.toList != ([] : List UInt8)) = false := bne_eq_false_iff_eq.mpr c71
            clear c71
            by_cases c72 : t303 = 20
            · rw [if_pos c72] at H
              have c72b0 : (t303 == 20) = true := beq_iff_eq.mpr c72
              have c72b1 : (t303 != 20) = false := bne_eq_false_iff_eq.mpr c72
              clear c72
              by_cases c73 : t305 = t303
              · rw [if_pos c73] at H
                have c73b0 : (t305 == t303) = true := beq_iff_eq.mpr c73
                have c73b1 : (t305 != t303) = false := bne_eq_false_iff_eq.mpr c73
                clear c73
                by_cases c74 : t307 = t303
                · rw [if_pos c74] at H
                  have c74b0 : (t307 == t303) = true := beq_iff_eq.mpr c74
                  have c74b1 : (t307 != t303) = false := bne_eq_false_iff_eq.mpr c74
                  clear c74
                  replace H := Option.bind_eq_some_iff.mp H
                  obtain ⟨t320, A750, H⟩ := H
                  replace H : (some t320) = some r := H
                  have A75 := Aside0.mk A750
                  clear A750
                  obtain rfl := Option.some.inj H
                  go_enter Tryd.func10, Tryd.ntmps10
                  go_wp2_with (first | ((with_reducible refine gate_callee (f := 12) rfl ?_); refine goesL_ (some 13) rfl rfl Tryd.func12 (by kernel_rfl) rfl #[.string a0] rfl (by (try simp only [List.map_toArray, List.map_cons, List.map_nil]); first | done | rfl | (simp only [List.length_drop, List.length_take]; rfl)) ?_; (with_reducible refine (stockyardlaw02_long.calls a0 false _ A2.out).mono ?_); rintro e w' ⟨rfl, ⟨nd, rfl⟩⟩; refine ⟨_, rfl, ?_⟩) | ((with_reducible refine gate_callee (f := 27) rfl ?_); refine goesL_ (some 17) rfl rfl Tryd.func27 (by kernel_rfl) rfl #[.string a0] rfl (by (try simp only [List.map_toArray, List.map_cons, List.map_nil]); first | done | rfl | (simp only [List.length_drop, List.length_take]; rfl)) ?_; (with_reducible refine (path_Parent.calls k a0 t302 t303 _ A6.out).mono ?_); rintro e w76 ⟨rfl, hb⟩; refine ⟨_, rfl, ?_⟩; have n0_ := Aside0.mk (below_step (by repeat (first | (with_reducible first | exact HB.out | apply below_alloc | apply pw_below_drewN | apply below_drew1) | exact HB.out)) hb); clear HB; have HB := n0_; clear n0_; (try clear hb); (try clear hb2); (try clear hk); (try clear hi)) | ((with_reducible refine gate_callee (f := 28) rfl ?_); refine goesL_ (some 22) rfl rfl Tryd.func28 (by kernel_rfl) rfl #[.string a0] rfl (by (try simp only [List.map_toArray, List.map_cons, List.map_nil]); first | done | rfl | (simp only [List.length_drop, List.length_take]; rfl)) ?_; (with_reducible refine (path_Name.calls k a0 t304 t305 _ A7.out).mono ?_); rintro e w77 ⟨rfl, hb⟩; refine ⟨_, rfl, ?_⟩; have n0_ := Aside0.mk (below_step (by repeat (first | (with_reducible first | exact HB.out | apply below_alloc | apply pw_below_drewN | apply below_drew1) | exact HB.out)) hb); clear HB; have HB := n0_; clear n0_; (try clear hb); (try clear hb2); (try clear hk); (try clear hi)) | ((with_reducible refine gate_callee (f := 29) rfl ?_); refine goesL_ (some 27) rfl rfl Tryd.func29 (by kernel_rfl) rfl #[.string a0] rfl (by (try simp only [List.map_toArray, List.map_cons, List.map_nil]); first | done | rfl | (simp only [List.length_drop, List.length_take]; rfl)) ?_; (with_reducible refine (path_Extension.calls k a0 t306 t307 _ A8.out).mono ?_); rintro e w78 ⟨rfl, hb⟩; refine ⟨_, rfl, ?_⟩; have n0_ := Aside0.mk (below_step (by repeat (first | (with_reducible first | exact HB.out | apply below_alloc | apply pw_below_drewN | apply below_drew1) | exact HB.out)) hb); clear HB; have HB := n0_; clear n0_; (try clear hb); (try clear hb2); (try clear hk); (try clear hi)) | ((with_reducible refine gate_callee (f := 16) rfl ?_); refine goesL_ (some 32) rfl rfl Tryd.func16 (by kernel_rfl) rfl #[.string a0] rfl (by (try simp only [List.map_toArray, List.map_cons, List.map_nil]); first | done | rfl | (simp only [List.length_drop, List.length_take]; rfl)) ?_; (with_reducible refine (stockyardref02_Path.calls k a0 t308 false _ A9.out).mono ?_); rintro e w79 ⟨v310, rfl, ho0, hb⟩; refine ⟨_, rfl, ?_⟩; have n0_ := Aside0.mk (Kd.R_lower ho0 (below_size (by repeat (first | (with_reducible first | exact HB.out | apply below_alloc | apply pw_below_drewN | apply below_drew1) | exact HB.out)))); have n1_ := Aside0.mk (below_step (by repeat (first | (with_reducible first | exact HB.out | apply below_alloc | apply pw_below_drewN | apply below_drew1) | exact HB.out)) hb); clear HB; have HO311 := n0_; have HB := n1_; clear n0_ n1_; (try clear hb); (try clear hb2); (try clear hk); (try clear hi); (try clear ho0)) | (go_at_call 14; (with_reducible refine (stockyardlaw02_awake.calls k  t320 _ A75.out).mono ?_); rintro e w80 ⟨rfl, hb⟩; have n0_ := Aside0.mk (Kd.R_below (by (with_reducible repeat (first | apply Kd.R_alloc | apply Kd.R_drewN | apply Kd.R_drew)); exact HO311.out) hb); have n1_ := Aside0.mk (below_step (by repeat (first | (with_reducible first | exact HB.out | apply below_alloc | apply pw_below_drewN | apply below_drew1) | exact HB.out)) hb); clear HO311; clear HB; have HO311 := n0_; have HB := n1_; clear n0_ n1_; (try clear hb); (try clear hb2); (try clear hk); (try clear hi)))
                  go_ret
                  exact ⟨by first | rfl | (simp [errW_none, errW_some] <;> rfl) | (simp [*, errW_none, errW_some] <;> rfl), by repeat (first | (with_reducible first | exact HB.out | apply below_alloc | apply pw_below_drewN | apply below_drew1) | exact HB.out)⟩
                · rw [if_neg c74] at H
                  have c74b0 : (t307 == t303) = false := beq_eq_false_iff_ne.mpr c74
                  have c74b1 : (t307 != t303) = true := bne_iff_ne.mpr c74
                  obtain rfl := Option.some.inj H
                  go_enter Tryd.func10, Tryd.ntmps10
                  go_wp2_with (first | ((with_reducible refine gate_callee (f := 12) rfl ?_); refine goesL_ (some 13) rfl rfl Tryd.func12 (by kernel_rfl) rfl #[.string a0] rfl (by (try simp only [List.map_toArray, List.map_cons, List.map_nil]); first | done | rfl | (simp only [List.length_drop, List.length_take]; rfl)) ?_; (with_reducible refine (stockyardlaw02_long.calls a0 false _ A2.out).mono ?_); rintro e w' ⟨rfl, ⟨nd, rfl⟩⟩; refine ⟨_, rfl, ?_⟩) | ((with_reducible refine gate_callee (f := 27) rfl ?_); refine goesL_ (some 17) rfl rfl Tryd.func27 (by kernel_rfl) rfl #[.string a0] rfl (by (try simp only [List.map_toArray, List.map_cons, List.map_nil]); first | done | rfl | (simp only [List.length_drop, List.length_take]; rfl)) ?_; (with_reducible refine (path_Parent.calls k a0 t302 t303 _ A6.out).mono ?_); rintro e w81 ⟨rfl, hb⟩; refine ⟨_, rfl, ?_⟩; have n0_ := Aside0.mk (below_step (by repeat (first | (with_reducible first | exact HB.out | apply below_alloc | apply pw_below_drewN | apply below_drew1) | exact HB.out)) hb); clear HB; have HB := n0_; clear n0_; (try clear hb); (try clear hb2); (try clear hk); (try clear hi)) | ((with_reducible refine gate_callee (f := 28) rfl ?_); refine goesL_ (some 22) rfl rfl Tryd.func28 (by kernel_rfl) rfl #[.string a0] rfl (by (try simp only [List.map_toArray, List.map_cons, List.map_nil]); first | done | rfl | (simp only [List.length_drop, List.length_take]; rfl)) ?_; (with_reducible refine (path_Name.calls k a0 t304 t305 _ A7.out).mono ?_); rintro e w82 ⟨rfl, hb⟩; refine ⟨_, rfl, ?_⟩; have n0_ := Aside0.mk (below_step (by repeat (first | (with_reducible first | exact HB.out | apply below_alloc | apply pw_below_drewN | apply below_drew1) | exact HB.out)) hb); clear HB; have HB := n0_; clear n0_; (try clear hb); (try clear hb2); (try clear hk); (try clear hi)) | ((with_reducible refine gate_callee (f := 29) rfl ?_); refine goesL_ (some 27) rfl rfl Tryd.func29 (by kernel_rfl) rfl #[.string a0] rfl (by (try simp only [List.map_toArray, List.map_cons, List.map_nil]); first | done | rfl | (simp only [List.length_drop, List.length_take]; rfl)) ?_; (with_reducible refine (path_Extension.calls k a0 t306 t307 _ A8.out).mono ?_); rintro e w83 ⟨rfl, hb⟩; refine ⟨_, rfl, ?_⟩; have n0_ := Aside0.mk (below_step (by repeat (first | (with_reducible first | exact HB.out | apply below_alloc | apply pw_below_drewN | apply below_drew1) | exact HB.out)) hb); clear HB; have HB := n0_; clear n0_; (try clear hb); (try clear hb2); (try clear hk); (try clear hi)) | ((with_reducible refine gate_callee (f := 16) rfl ?_); refine goesL_ (some 32) rfl rfl Tryd.func16 (by kernel_rfl) rfl #[.string a0] rfl (by (try simp only [List.map_toArray, List.map_cons, List.map_nil]); first | done | rfl | (simp only [List.length_drop, List.length_take]; rfl)) ?_; (with_reducible refine (stockyardref02_Path.calls k a0 t308 false _ A9.out).mono ?_); rintro e w84 ⟨v310, rfl, ho0, hb⟩; refine ⟨_, rfl, ?_⟩; have n0_ := Aside0.mk (Kd.R_lower ho0 (below_size (by repeat (first | (with_reducible first | exact HB.out | apply below_alloc | apply pw_below_drewN | apply below_drew1) | exact HB.out)))); have n1_ := Aside0.mk (below_step (by repeat (first | (with_reducible first | exact HB.out | apply below_alloc | apply pw_below_drewN | apply below_drew1) | exact HB.out)) hb); clear HB; have HO311 := n0_; have HB := n1_; clear n0_ n1_; (try clear hb); (try clear hb2); (try clear hk); (try clear hi); (try clear ho0)))
                  go_ret
                  exact ⟨by first | rfl | (simp [errW_none, errW_some] <;> rfl) | (simp [*, errW_none, errW_some] <;> rfl), by repeat (first | (with_reducible first | exact HB.out | apply below_alloc | apply pw_below_drewN | apply below_drew1) | exact HB.out)⟩
              · rw [if_neg c73] at H
                have c73b0 : (t305 == t303) = false := beq_eq_false_iff_ne.mpr c73
                have c73b1 : (t305 != t303) = true := bne_iff_ne.mpr c73
                obtain rfl := Option.some.inj H
                go_enter Tryd.func10, Tryd.ntmps10
                go_wp2_with (first | ((with_reducible refine gate_callee (f := 12) rfl ?_); refine goesL_ (some 13) rfl rfl Tryd.func12 (by kernel_rfl) rfl #[.string a0] rfl (by (try simp only [List.map_toArray, List.map_cons, List.map_nil]); first | done | rfl | (simp only [List.length_drop, List.length_take]; rfl)) ?_; (with_reducible refine (stockyardlaw02_long.calls a0 false _ A2.out).mono ?_); rintro e w' ⟨rfl, ⟨nd, rfl⟩⟩; refine ⟨_, rfl, ?_⟩) | ((with_reducible refine gate_callee (f := 27) rfl ?_); refine goesL_ (some 17) rfl rfl Tryd.func27 (by kernel_rfl) rfl #[.string a0] rfl (by (try simp only [List.map_toArray, List.map_cons, List.map_nil]); first | done | rfl | (simp only [List.length_drop, List.length_take]; rfl)) ?_; (with_reducible refine (path_Parent.calls k a0 t302 t303 _ A6.out).mono ?_); rintro e w85 ⟨rfl, hb⟩; refine ⟨_, rfl, ?_⟩; have n0_ := Aside0.mk (below_step (by repeat (first | (with_reducible first | exact HB.out | apply below_alloc | apply pw_below_drewN | apply below_drew1) | exact HB.out)) hb); clear HB; have HB := n0_; clear n0_; (try clear hb); (try clear hb2); (try clear hk); (try clear hi)) | ((with_reducible refine gate_callee (f := 28) rfl ?_); refine goesL_ (some 22) rfl rfl Tryd.func28 (by kernel_rfl) rfl #[.string a0] rfl (by (try simp only [List.map_toArray, List.map_cons, List.map_nil]); first | done | rfl | (simp only [List.length_drop, List.length_take]; rfl)) ?_; (with_reducible refine (path_Name.calls k a0 t304 t305 _ A7.out).mono ?_); rintro e w86 ⟨rfl, hb⟩; refine ⟨_, rfl, ?_⟩; have n0_ := Aside0.mk (below_step (by repeat (first | (with_reducible first | exact HB.out | apply below_alloc | apply pw_below_drewN | apply below_drew1) | exact HB.out)) hb); clear HB; have HB := n0_; clear n0_; (try clear hb); (try clear hb2); (try clear hk); (try clear hi)) | ((with_reducible refine gate_callee (f := 29) rfl ?_); refine goesL_ (some 27) rfl rfl Tryd.func29 (by kernel_rfl) rfl #[.string a0] rfl (by (try simp only [List.map_toArray, List.map_cons, List.map_nil]); first | done | rfl | (simp only [List.length_drop, List.length_take]; rfl)) ?_; (with_reducible refine (path_Extension.calls k a0 t306 t307 _ A8.out).mono ?_); rintro e w87 ⟨rfl, hb⟩; refine ⟨_, rfl, ?_⟩; have n0_ := Aside0.mk (below_step (by repeat (first | (with_reducible first | exact HB.out | apply below_alloc | apply pw_below_drewN | apply below_drew1) | exact HB.out)) hb); clear HB; have HB := n0_; clear n0_; (try clear hb); (try clear hb2); (try clear hk); (try clear hi)) | ((with_reducible refine gate_callee (f := 16) rfl ?_); refine goesL_ (some 32) rfl rfl Tryd.func16 (by kernel_rfl) rfl #[.string a0] rfl (by (try simp only [List.map_toArray, List.map_cons, List.map_nil]); first | done | rfl | (simp only [List.length_drop, List.length_take]; rfl)) ?_; (with_reducible refine (stockyardref02_Path.calls k a0 t308 false _ A9.out).mono ?_); rintro e w88 ⟨v310, rfl, ho0, hb⟩; refine ⟨_, rfl, ?_⟩; have n0_ := Aside0.mk (Kd.R_lower ho0 (below_size (by repeat (first | (with_reducible first | exact HB.out | apply below_alloc | apply pw_below_drewN | apply below_drew1) | exact HB.out)))); have n1_ := Aside0.mk (below_step (by repeat (first | (with_reducible first | exact HB.out | apply below_alloc | apply pw_below_drewN | apply below_drew1) | exact HB.out)) hb); clear HB; have HO311 := n0_; have HB := n1_; clear n0_ n1_; (try clear hb); (try clear hb2); (try clear hk); (try clear hi); (try clear ho0)))
                go_ret
                exact ⟨by first | rfl | (simp [errW_none, errW_some] <;> rfl) | (simp [*, errW_none, errW_some] <;> rfl), by repeat (first | (with_reducible first | exact HB.out | apply below_alloc | apply pw_below_drewN | apply below_drew1) | exact HB.out)⟩
            · rw [if_neg c72] at H
              have c72b0 : (t303 == 20) = false := beq_eq_false_iff_ne.mpr c72
              have c72b1 : (t303 != 20) = true := bne_iff_ne.mpr c72
              obtain rfl := Option.some.inj H
              go_enter Tryd.func10, Tryd.ntmps10
              go_wp2_with (first | ((with_reducible refine gate_callee (f := 12) rfl ?_); refine goesL_ (some 13) rfl rfl Tryd.func12 (by kernel_rfl) rfl #[.string a0] rfl (by (try simp only [List.map_toArray, List.map_cons, List.map_nil]); first | done | rfl | (simp only [List.length_drop, List.length_take]; rfl)) ?_; (with_reducible refine (stockyardlaw02_long.calls a0 false _ A2.out).mono ?_); rintro e w' ⟨rfl, ⟨nd, rfl⟩⟩; refine ⟨_, rfl, ?_⟩) | ((with_reducible refine gate_callee (f := 27) rfl ?_); refine goesL_ (some 17) rfl rfl Tryd.func27 (by kernel_rfl) rfl #[.string a0] rfl (by (try simp only [List.map_toArray, List.map_cons, List.map_nil]); first | done | rfl | (simp only [List.length_drop, List.length_take]; rfl)) ?_; (with_reducible refine (path_Parent.calls k a0 t302 t303 _ A6.out).mono ?_); rintro e w89 ⟨rfl, hb⟩; refine ⟨_, rfl, ?_⟩; have n0_ := Aside0.mk (below_step (by repeat (first | (with_reducible first | exact HB.out | apply below_alloc | apply pw_below_drewN | apply below_drew1) | exact HB.out)) hb); clear HB; have HB := n0_; clear n0_; (try clear hb); (try clear hb2); (try clear hk); (try clear hi)) | ((with_reducible refine gate_callee (f := 28) rfl ?_); refine goesL_ (some 22) rfl rfl Tryd.func28 (by kernel_rfl) rfl #[.string a0] rfl (by (try simp only [List.map_toArray, List.map_cons, List.map_nil]); first | done | rfl | (simp only [List.length_drop, List.length_take]; rfl)) ?_; (with_reducible refine (path_Name.calls k a0 t304 t305 _ A7.out).mono ?_); rintro e w90 ⟨rfl, hb⟩; refine ⟨_, rfl, ?_⟩; have n0_ := Aside0.mk (below_step (by repeat (first | (with_reducible first | exact HB.out | apply below_alloc | apply pw_below_drewN | apply below_drew1) | exact HB.out)) hb); clear HB; have HB := n0_; clear n0_; (try clear hb); (try clear hb2); (try clear hk); (try clear hi)) | ((with_reducible refine gate_callee (f := 29) rfl ?_); refine goesL_ (some 27) rfl rfl Tryd.func29 (by kernel_rfl) rfl #[.string a0] rfl (by (try simp only [List.map_toArray, List.map_cons, List.map_nil]); first | done | rfl | (simp only [List.length_drop, List.length_take]; rfl)) ?_; (with_reducible refine (path_Extension.calls k a0 t306 t307 _ A8.out).mono ?_); rintro e w91 ⟨rfl, hb⟩; refine ⟨_, rfl, ?_⟩; have n0_ := Aside0.mk (below_step (by repeat (first | (with_reducible first | exact HB.out | apply below_alloc | apply pw_below_drewN | apply below_drew1) | exact HB.out)) hb); clear HB; have HB := n0_; clear n0_; (try clear hb); (try clear hb2); (try clear hk); (try clear hi)) | ((with_reducible refine gate_callee (f := 16) rfl ?_); refine goesL_ (some 32) rfl rfl Tryd.func16 (by kernel_rfl) rfl #[.string a0] rfl (by (try simp only [List.map_toArray, List.map_cons, List.map_nil]); first | done | rfl | (simp only [List.length_drop, List.length_take]; rfl)) ?_; (with_reducible refine (stockyardref02_Path.calls k a0 t308 false _ A9.out).mono ?_); rintro e w92 ⟨v310, rfl, ho0, hb⟩; refine ⟨_, rfl, ?_⟩; have n0_ := Aside0.mk (Kd.R_lower ho0 (below_size (by repeat (first | (with_reducible first | exact HB.out | apply below_alloc | apply pw_below_drewN | apply below_drew1) | exact HB.out)))); have n1_ := Aside0.mk (below_step (by repeat (first | (with_reducible first | exact HB.out | apply below_alloc | apply pw_below_drewN | apply below_drew1) | exact HB.out)) hb); clear HB; have HO311 := n0_; have HB := n1_; clear n0_ n1_; (try clear hb); (try clear hb2); (try clear hk); (try clear hi); (try clear ho0)))
              go_ret
              exact ⟨by first | rfl | (simp [errW_none, errW_some] <;> rfl) | (simp [*, errW_none, errW_some] <;> rfl), by repeat (first | (with_reducible first | exact HB.out | apply below_alloc | apply pw_below_drewN | apply below_drew1) | exact HB.out)⟩
          · rw [if_neg c71] at H
            have c71b0 : (t306.toList == ([] : List UInt8)) = false := beq_eq_false_iff_ne.mpr c71
            have c71b1 : (t306.toList != ([] : List UInt8)) = true := bne_iff_ne.mpr c71
            obtain rfl := Option.some.inj H
            go_enter Tryd.func10, Tryd.ntmps10
            go_wp2_with (first | ((with_reducible refine gate_callee (f := 12) rfl ?_); refine goesL_ (some 13) rfl rfl Tryd.func12 (by kernel_rfl) rfl #[.string a0] rfl (by (try simp only [List.map_toArray, List.map_cons, List.map_nil]); first | done | rfl | (simp only [List.length_drop, List.length_take]; rfl)) ?_; (with_reducible refine (stockyardlaw02_long.calls a0 false _ A2.out).mono ?_); rintro e w' ⟨rfl, ⟨nd, rfl⟩⟩; refine ⟨_, rfl, ?_⟩) | ((with_reducible refine gate_callee (f := 27) rfl ?_); refine goesL_ (some 17) rfl rfl Tryd.func27 (by kernel_rfl) rfl #[.string a0] rfl (by (try simp only [List.map_toArray, List.map_cons, List.map_nil]); first | done | rfl | (simp only [List.length_drop, List.length_take]; rfl)) ?_; (with_reducible refine (path_Parent.calls k a0 t302 t303 _ A6.out).mono ?_); rintro e w93 ⟨rfl, hb⟩; refine ⟨_, rfl, ?_⟩; have n0_ := Aside0.mk (below_step (by repeat (first | (with_reducible first | exact HB.out | apply below_alloc | apply pw_below_drewN | apply below_drew1) | exact HB.out)) hb); clear HB; have HB := n0_; clear n0_; (try clear hb); (try clear hb2); (try clear hk); (try clear hi)) | ((with_reducible refine gate_callee (f := 28) rfl ?_); refine goesL_ (some 22) rfl rfl Tryd.func28 (by kernel_rfl) rfl #[.string a0] rfl (by (try simp only [List.map_toArray, List.map_cons, List.map_nil]); first | done | rfl | (simp only [List.length_drop, List.length_take]; rfl)) ?_; (with_reducible refine (path_Name.calls k a0 t304 t305 _ A7.out).mono ?_); rintro e w94 ⟨rfl, hb⟩; refine ⟨_, rfl, ?_⟩; have n0_ := Aside0.mk (below_step (by repeat (first | (with_reducible first | exact HB.out | apply below_alloc | apply pw_below_drewN | apply below_drew1) | exact HB.out)) hb); clear HB; have HB := n0_; clear n0_; (try clear hb); (try clear hb2); (try clear hk); (try clear hi)) | ((with_reducible refine gate_callee (f := 29) rfl ?_); refine goesL_ (some 27) rfl rfl Tryd.func29 (by kernel_rfl) rfl #[.string a0] rfl (by (try simp only [List.map_toArray, List.map_cons, List.map_nil]); first | done | rfl | (simp only [List.length_drop, List.length_take]; rfl)) ?_; (with_reducible refine (path_Extension.calls k a0 t306 t307 _ A8.out).mono ?_); rintro e w95 ⟨rfl, hb⟩; refine ⟨_, rfl, ?_⟩; have n0_ := Aside0.mk (below_step (by repeat (first | (with_reducible first | exact HB.out | apply below_alloc | apply pw_below_drewN | apply below_drew1) | exact HB.out)) hb); clear HB; have HB := n0_; clear n0_; (try clear hb); (try clear hb2); (try clear hk); (try clear hi)) | ((with_reducible refine gate_callee (f := 16) rfl ?_); refine goesL_ (some 32) rfl rfl Tryd.func16 (by kernel_rfl) rfl #[.string a0] rfl (by (try simp only [List.map_toArray, List.map_cons, List.map_nil]); first | done | rfl | (simp only [List.length_drop, List.length_take]; rfl)) ?_; (with_reducible refine (stockyardref02_Path.calls k a0 t308 false _ A9.out).mono ?_); rintro e w96 ⟨v310, rfl, ho0, hb⟩; refine ⟨_, rfl, ?_⟩; have n0_ := Aside0.mk (Kd.R_lower ho0 (below_size (by repeat (first | (with_reducible first | exact HB.out | apply below_alloc | apply pw_below_drewN | apply below_drew1) | exact HB.out)))); have n1_ := Aside0.mk (below_step (by repeat (first | (with_reducible first | exact HB.out | apply below_alloc | apply pw_below_drewN | apply below_drew1) | exact HB.out)) hb); clear HB; have HO311 := n0_; have HB := n1_; clear n0_ n1_; (try clear hb); (try clear hb2); (try clear hk); (try clear hi); (try clear ho0)))
            go_ret
            exact ⟨by first | rfl | (simp [errW_none, errW_some] <;> rfl) | (simp [*, errW_none, errW_some] <;> rfl), by repeat (first | (with_reducible first | exact HB.out | apply below_alloc | apply pw_below_drewN | apply below_drew1) | exact HB.out)⟩
        · rw [if_neg c70] at H
          have c70b0 : (t304.toList == ([] : List UInt8)) = false := beq_eq_false_iff_ne.mpr c70
          have c70b1 : (t304.toList != ([] : List UInt8)) = true := bne_iff_ne.mpr c70
          obtain rfl := Option.some.inj H
          go_enter Tryd.func10, Tryd.ntmps10
          go_wp2_with (first | ((with_reducible refine gate_callee (f := 12) rfl ?_); refine goesL_ (some 13) rfl rfl Tryd.func12 (by kernel_rfl) rfl #[.string a0] rfl (by (try simp only [List.map_toArray, List.map_cons, List.map_nil]); first | done | rfl | (simp only [List.length_drop, List.length_take]; rfl)) ?_; (with_reducible refine (stockyardlaw02_long.calls a0 false _ A2.out).mono ?_); rintro e w' ⟨rfl, ⟨nd, rfl⟩⟩; refine ⟨_, rfl, ?_⟩) | ((with_reducible refine gate_callee (f := 27) rfl ?_); refine goesL_ (some 17) rfl rfl Tryd.func27 (by kernel_rfl) rfl #[.string a0] rfl (by (try simp only [List.map_toArray, List.map_cons, List.map_nil]); first | done | rfl | (simp only [List.length_drop, List.length_take]; rfl)) ?_; (with_reducible refine (path_Parent.calls k a0 t302 t303 _ A6.out).mono ?_); rintro e w97 ⟨rfl, hb⟩; refine ⟨_, rfl, ?_⟩; have n0_ := Aside0.mk (below_step (by repeat (first | (with_reducible first | exact HB.out | apply below_alloc | apply pw_below_drewN | apply below_drew1) | exact HB.out)) hb); clear HB; have HB := n0_; clear n0_; (try clear hb); (try clear hb2); (try clear hk); (try clear hi)) | ((with_reducible refine gate_callee (f := 28) rfl ?_); refine goesL_ (some 22) rfl rfl Tryd.func28 (by kernel_rfl) rfl #[.string a0] rfl (by (try simp only [List.map_toArray, List.map_cons, List.map_nil]); first | done | rfl | (simp only [List.length_drop, List.length_take]; rfl)) ?_; (with_reducible refine (path_Name.calls k a0 t304 t305 _ A7.out).mono ?_); rintro e w98 ⟨rfl, hb⟩; refine ⟨_, rfl, ?_⟩; have n0_ := Aside0.mk (below_step (by repeat (first | (with_reducible first | exact HB.out | apply below_alloc | apply pw_below_drewN | apply below_drew1) | exact HB.out)) hb); clear HB; have HB := n0_; clear n0_; (try clear hb); (try clear hb2); (try clear hk); (try clear hi)) | ((with_reducible refine gate_callee (f := 29) rfl ?_); refine goesL_ (some 27) rfl rfl Tryd.func29 (by kernel_rfl) rfl #[.string a0] rfl (by (try simp only [List.map_toArray, List.map_cons, List.map_nil]); first | done | rfl | (simp only [List.length_drop, List.length_take]; rfl)) ?_; (with_reducible refine (path_Extension.calls k a0 t306 t307 _ A8.out).mono ?_); rintro e w99 ⟨rfl, hb⟩; refine ⟨_, rfl, ?_⟩; have n0_ := Aside0.mk (below_step (by repeat (first | (with_reducible first | exact HB.out | apply below_alloc | apply pw_below_drewN | apply below_drew1) | exact HB.out)) hb); clear HB; have HB := n0_; clear n0_; (try clear hb); (try clear hb2); (try clear hk); (try clear hi)) | ((with_reducible refine gate_callee (f := 16) rfl ?_); refine goesL_ (some 32) rfl rfl Tryd.func16 (by kernel_rfl) rfl #[.string a0] rfl (by (try simp only [List.map_toArray, List.map_cons, List.map_nil]); first | done | rfl | (simp only [List.length_drop, List.length_take]; rfl)) ?_; (with_reducible refine (stockyardref02_Path.calls k a0 t308 false _ A9.out).mono ?_); rintro e w100 ⟨v310, rfl, ho0, hb⟩; refine ⟨_, rfl, ?_⟩; have n0_ := Aside0.mk (Kd.R_lower ho0 (below_size (by repeat (first | (with_reducible first | exact HB.out | apply below_alloc | apply pw_below_drewN | apply below_drew1) | exact HB.out)))); have n1_ := Aside0.mk (below_step (by repeat (first | (with_reducible first | exact HB.out | apply below_alloc | apply pw_below_drewN | apply below_drew1) | exact HB.out)) hb); clear HB; have HO311 := n0_; have HB := n1_; clear n0_ n1_; (try clear hb); (try clear hb2); (try clear hk); (try clear hi); (try clear ho0)))
          go_ret
          exact ⟨by first | rfl | (simp [errW_none, errW_some] <;> rfl) | (simp [*, errW_none, errW_some] <;> rfl), by repeat (first | (with_reducible first | exact HB.out | apply below_alloc | apply pw_below_drewN | apply below_drew1) | exact HB.out)⟩
      · rw [if_neg c69] at H
        have c69b0 : (t302.toList == ([] : List UInt8)) = false := beq_eq_false_iff_ne.mpr c69
        have c69b1 : (t302.toList != ([] : List UInt8)) = true := bne_iff_ne.mpr c69
        obtain rfl := Option.some.inj H
        go_enter Tryd.func10, Tryd.ntmps10
        go_wp2_with (first | ((with_reducible refine gate_callee (f := 12) rfl ?_); refine goesL_ (some 13) rfl rfl Tryd.func12 (by kernel_rfl) rfl #[.string a0] rfl (by (try simp only [List.map_toArray, List.map_cons, List.map_nil]); first | done | rfl | (simp only [List.length_drop, List.length_take]; rfl)) ?_; (with_reducible refine (stockyardlaw02_long.calls a0 false _ A2.out).mono ?_); rintro e w' ⟨rfl, ⟨nd, rfl⟩⟩; refine ⟨_, rfl, ?_⟩) | ((with_reducible refine gate_callee (f := 27) rfl ?_); refine goesL_ (some 17) rfl rfl Tryd.func27 (by kernel_rfl) rfl #[.string a0] rfl (by (try simp only [List.map_toArray, List.map_cons, List.map_nil]); first | done | rfl | (simp only [List.length_drop, List.length_take]; rfl)) ?_; (with_reducible refine (path_Parent.calls k a0 t302 t303 _ A6.out).mono ?_); rintro e w101 ⟨rfl, hb⟩; refine ⟨_, rfl, ?_⟩; have n0_ := Aside0.mk (below_step (by repeat (first | (with_reducible first | exact HB.out | apply below_alloc | apply pw_below_drewN | apply below_drew1) | exact HB.out)) hb); clear HB; have HB := n0_; clear n0_; (try clear hb); (try clear hb2); (try clear hk); (try clear hi)) | ((with_reducible refine gate_callee (f := 28) rfl ?_); refine goesL_ (some 22) rfl rfl Tryd.func28 (by kernel_rfl) rfl #[.string a0] rfl (by (try simp only [List.map_toArray, List.map_cons, List.map_nil]); first | done | rfl | (simp only [List.length_drop, List.length_take]; rfl)) ?_; (with_reducible refine (path_Name.calls k a0 t304 t305 _ A7.out).mono ?_); rintro e w102 ⟨rfl, hb⟩; refine ⟨_, rfl, ?_⟩; have n0_ := Aside0.mk (below_step (by repeat (first | (with_reducible first | exact HB.out | apply below_alloc | apply pw_below_drewN | apply below_drew1) | exact HB.out)) hb); clear HB; have HB := n0_; clear n0_; (try clear hb); (try clear hb2); (try clear hk); (try clear hi)) | ((with_reducible refine gate_callee (f := 29) rfl ?_); refine goesL_ (some 27) rfl rfl Tryd.func29 (by kernel_rfl) rfl #[.string a0] rfl (by (try simp only [List.map_toArray, List.map_cons, List.map_nil]); first | done | rfl | (simp only [List.length_drop, List.length_take]; rfl)) ?_; (with_reducible refine (path_Extension.calls k a0 t306 t307 _ A8.out).mono ?_); rintro e w103 ⟨rfl, hb⟩; refine ⟨_, rfl, ?_⟩; have n0_ := Aside0.mk (below_step (by repeat (first | (with_reducible first | exact HB.out | apply below_alloc | apply pw_below_drewN | apply below_drew1) | exact HB.out)) hb); clear HB; have HB := n0_; clear n0_; (try clear hb); (try clear hb2); (try clear hk); (try clear hi)) | ((with_reducible refine gate_callee (f := 16) rfl ?_); refine goesL_ (some 32) rfl rfl Tryd.func16 (by kernel_rfl) rfl #[.string a0] rfl (by (try simp only [List.map_toArray, List.map_cons, List.map_nil]); first | done | rfl | (simp only [List.length_drop, List.length_take]; rfl)) ?_; (with_reducible refine (stockyardref02_Path.calls k a0 t308 false _ A9.out).mono ?_); rintro e w104 ⟨v310, rfl, ho0, hb⟩; refine ⟨_, rfl, ?_⟩; have n0_ := Aside0.mk (Kd.R_lower ho0 (below_size (by repeat (first | (with_reducible first | exact HB.out | apply below_alloc | apply pw_below_drewN | apply below_drew1) | exact HB.out)))); have n1_ := Aside0.mk (below_step (by repeat (first | (with_reducible first | exact HB.out | apply below_alloc | apply pw_below_drewN | apply below_drew1) | exact HB.out)) hb); clear HB; have HO311 := n0_; have HB := n1_; clear n0_ n1_; (try clear hb); (try clear hb2); (try clear hk); (try clear hi); (try clear ho0)))
        go_ret
        exact ⟨by first | rfl | (simp [errW_none, errW_some] <;> rfl) | (simp [*, errW_none, errW_some] <;> rfl), by repeat (first | (with_reducible first | exact HB.out | apply below_alloc | apply pw_below_drewN | apply below_drew1) | exact HB.out)⟩

/-! ### stockyardlaw02_PathBack: function 11 -/
mutual
def stockyardlaw02_PathBack.j0 : Nat → ByteArray → Bool → Option (Bool)
  | 0, _, _ => none
  | k + 1, x0, x17 => if x17 = true then ((stockyardlaw02_awake.f k).bind fun t323 => (some t323)) else ((path_Split.f k x0).bind fun bt324 => ((path_Join.f k bt324.1).bind fun bt328 => (if bt324.2 = 0 then (if bt328.2 = 0 then (stockyardlaw02_PathBack.j1 k x0 (bt328.1.toList != x0.toList)) else (stockyardlaw02_PathBack.j1 k x0 true)) else (stockyardlaw02_PathBack.j1 k x0 true))))
def stockyardlaw02_PathBack.j1 : Nat → ByteArray → Bool → Option (Bool)
  | 0, _, _ => none
  | k + 1, x0, x39 => if x39 = true then (some false) else ((path_Parent.f k x0).bind fun bt330 => ((path_Name.f k x0).bind fun bt332 => ((path_Under.f k bt330.1 x0).bind fun bt334 => (if bt330.2 = 0 then (if bt332.2 = 0 then (if bt334.2 = 0 then (if bt334.1 = true then (if bt330.1.size + 1 ≤ 9223372036854775807 then (if (bt330.1 ++ (⟨#[47]⟩ : ByteArray)).size + bt332.1.size ≤ 9223372036854775807 then (if ((bt330.1 ++ (⟨#[47]⟩ : ByteArray)) ++ bt332.1).toList = x0.toList then ((path_Component.f k bt332.1).bind fun t336 => (if t336 = true then ((stockyardlaw02_awake.f k).bind fun t337 => (some t337)) else (some false))) else (some false)) else (none)) else (none)) else (some false)) else (some false)) else (some false)) else (some false)))))
end
def stockyardlaw02_PathBack.f (k : Nat) (a0 : ByteArray) : Option (Bool) := (stockyardlaw02_long.f a0).bind fun t321 => (if t321 = true then (stockyardlaw02_PathBack.j0 k a0 true) else ((path_Valid.f k a0).bind fun t322 => (stockyardlaw02_PathBack.j0 k a0 (!t322))))
theorem stockyardlaw02_PathBack.mono_l : ∀ k, (∀ y0 y1, LeO (stockyardlaw02_PathBack.j0 k y0 y1) (stockyardlaw02_PathBack.j0 (k + 1) y0 y1)) ∧ (∀ y0 y1, LeO (stockyardlaw02_PathBack.j1 k y0 y1) (stockyardlaw02_PathBack.j1 (k + 1) y0 y1))
  | 0 => ⟨fun _ _ r h => by simp [stockyardlaw02_PathBack.j0] at h, fun _ _ r h => by simp [stockyardlaw02_PathBack.j1] at h⟩
  | k + 1 => by
    obtain ⟨ih0, ih1⟩ := stockyardlaw02_PathBack.mono_l k
    refine ⟨?_, ?_⟩
    · intro y0 y1
      unfold stockyardlaw02_PathBack.j0
      repeat' first
      | (with_reducible exact ih0 _ _)
      | (with_reducible exact ih1 _ _)
      | (with_reducible exact path_Component.mono _ _)
      | (with_reducible exact path_Join.mono _ _)
      | (with_reducible exact path_Name.mono _ _)
      | (with_reducible exact path_Parent.mono _ _)
      | (with_reducible exact path_Split.mono _ _)
      | (with_reducible exact path_Under.mono _ _ _)
      | (with_reducible exact path_Valid.mono _ _)
      | (with_reducible exact stockyardlaw02_awake.mono _)
      | (with_reducible exact LeO.refl _)
      | (with_reducible exact LeO.none _)
      | (with_reducible refine LeO.ite ?_ ?_)
      | (with_reducible refine LeO.bind ?_ (fun _ => ?_))
      | exact ih0 _ _
      | exact ih1 _ _
      | exact path_Component.mono _ _
      | exact path_Join.mono _ _
      | exact path_Name.mono _ _
      | exact path_Parent.mono _ _
      | exact path_Split.mono _ _
      | exact path_Under.mono _ _ _
      | exact path_Valid.mono _ _
      | exact stockyardlaw02_awake.mono _
      | exact LeO.none _
      | refine LeO.ite ?_ ?_
      | refine LeO.bind ?_ (fun _ => ?_)
    · intro y0 y1
      unfold stockyardlaw02_PathBack.j1
      repeat' first
      | (with_reducible exact ih0 _ _)
      | (with_reducible exact ih1 _ _)
      | (with_reducible exact path_Component.mono _ _)
      | (with_reducible exact path_Join.mono _ _)
      | (with_reducible exact path_Name.mono _ _)
      | (with_reducible exact path_Parent.mono _ _)
      | (with_reducible exact path_Split.mono _ _)
      | (with_reducible exact path_Under.mono _ _ _)
      | (with_reducible exact path_Valid.mono _ _)
      | (with_reducible exact stockyardlaw02_awake.mono _)
      | (with_reducible exact LeO.refl _)
      | (with_reducible exact LeO.none _)
      | (with_reducible refine LeO.ite ?_ ?_)
      | (with_reducible refine LeO.bind ?_ (fun _ => ?_))
      | exact ih0 _ _
      | exact ih1 _ _
      | exact path_Component.mono _ _
      | exact path_Join.mono _ _
      | exact path_Name.mono _ _
      | exact path_Parent.mono _ _
      | exact path_Split.mono _ _
      | exact path_Under.mono _ _ _
      | exact path_Valid.mono _ _
      | exact stockyardlaw02_awake.mono _
      | exact LeO.none _
      | refine LeO.ite ?_ ?_
      | refine LeO.bind ?_ (fun _ => ?_)
theorem stockyardlaw02_PathBack.mono : ∀ a0 k, LeO (stockyardlaw02_PathBack.f k a0) (stockyardlaw02_PathBack.f (k + 1) a0) := by
  intro a0 k
  obtain ⟨ih0, ih1⟩ := stockyardlaw02_PathBack.mono_l k
  unfold stockyardlaw02_PathBack.f
  repeat' first
      | (with_reducible exact ih0 _ _)
      | (with_reducible exact ih1 _ _)
      | (with_reducible exact path_Component.mono _ _)
      | (with_reducible exact path_Join.mono _ _)
      | (with_reducible exact path_Name.mono _ _)
      | (with_reducible exact path_Parent.mono _ _)
      | (with_reducible exact path_Split.mono _ _)
      | (with_reducible exact path_Under.mono _ _ _)
      | (with_reducible exact path_Valid.mono _ _)
      | (with_reducible exact stockyardlaw02_awake.mono _)
      | (with_reducible exact LeO.refl _)
      | (with_reducible exact LeO.none _)
      | (with_reducible refine LeO.ite ?_ ?_)
      | (with_reducible refine LeO.bind ?_ (fun _ => ?_))
      | exact ih0 _ _
      | exact ih1 _ _
      | exact path_Component.mono _ _
      | exact path_Join.mono _ _
      | exact path_Name.mono _ _
      | exact path_Parent.mono _ _
      | exact path_Split.mono _ _
      | exact path_Under.mono _ _ _
      | exact path_Valid.mono _ _
      | exact stockyardlaw02_awake.mono _
      | exact LeO.none _
      | refine LeO.ite ?_ ?_
      | refine LeO.bind ?_ (fun _ => ?_)
set_option maxHeartbeats 8000000 in
set_option maxRecDepth 100000 in
theorem stockyardlaw02_PathBack.calls (k : Nat) (a0 : ByteArray) (r : Bool) (w : World) (h : stockyardlaw02_PathBack.f k a0 = some r) :
    Calls Tryd.prog 11 #[.string a0] w fun e w' => e = .returned (.bool r) ∧ Below w.heap.size w w' := by
  have HB := Aside0.mk (Below.refl w.heap.size w)
  have H : ((stockyardlaw02_long.f a0).bind fun t321 => (if t321 = true then (stockyardlaw02_PathBack.j0 k a0 true) else ((path_Valid.f k a0).bind fun t322 => (stockyardlaw02_PathBack.j0 k a0 (!t322))))) = some r := h
  clear h
  have HC2 := Aside0.mk H
  clear H
  go_enter Tryd.func11, Tryd.ntmps11
  go_upto_region 1 with (fail)
  go_cut [17] (fun v17 wc => ∃ (kq : Nat) (x17_1 : Bool), v17 = .bool x17_1 ∧ Aside0 (stockyardlaw02_PathBack.j0 kq a0 x17_1 = some r) ∧ Aside0 (kq ≤ k) ∧ Aside0 (Below w.heap.size w wc))
  case first =>
    have H := HC2.out
    clear HC2
    replace H := Option.bind_eq_some_iff.mp H
    obtain ⟨t321, A30, H⟩ := H
    replace H : (if t321 = true then (stockyardlaw02_PathBack.j0 k a0 true) else ((path_Valid.f k a0).bind fun t322 => (stockyardlaw02_PathBack.j0 k a0 (!t322)))) = some r := H
    have A3 := Aside0.mk A30
    clear A30
    by_cases c4 : t321 = true
    · subst c4
      have H1 : (stockyardlaw02_PathBack.j0 k a0 true) = some r := by rw [if_pos rfl] at H; exact H
      clear H
      have H := H1
      clear H1
      have H' := Aside0.mk H
      clear H
      go_wp2_with (first | ((with_reducible refine gate_callee (f := 12) rfl ?_); refine goesL_ (some 12) rfl rfl Tryd.func12 (by kernel_rfl) rfl #[.string a0] rfl (by (try simp only [List.map_toArray, List.map_cons, List.map_nil]); first | done | rfl | (simp only [List.length_drop, List.length_take]; rfl)) ?_; (with_reducible refine (stockyardlaw02_long.calls a0 true _ A3.out).mono ?_); rintro e w' ⟨rfl, ⟨nd, rfl⟩⟩; refine ⟨_, rfl, ?_⟩))
      go_meet
      case rel => exact ⟨_, (true), (by first | rfl | (simp; done) | (simp [*]; done)), H', ⟨by first | omega | exact Nat.le_refl _⟩, ⟨by repeat (first | (with_reducible first | exact HB.out | apply below_alloc | apply pw_below_drewN | apply below_drew1) | exact HB.out)⟩⟩
    · replace c4 := Bool.eq_false_iff.mpr c4
      subst c4
      have H1 : ((path_Valid.f k a0).bind fun t322 => (stockyardlaw02_PathBack.j0 k a0 (!t322))) = some r := by rw [if_neg (show ¬ (false = true) by decide)] at H; exact H
      clear H
      have H := H1
      clear H1
      replace H := Option.bind_eq_some_iff.mp H
      obtain ⟨t322, A50, H⟩ := H
      replace H : (stockyardlaw02_PathBack.j0 k a0 (!t322)) = some r := H
      have A5 := Aside0.mk A50
      clear A50
      have H' := Aside0.mk H
      clear H
      go_wp2_with (first | ((with_reducible refine gate_callee (f := 12) rfl ?_); refine goesL_ (some 12) rfl rfl Tryd.func12 (by kernel_rfl) rfl #[.string a0] rfl (by (try simp only [List.map_toArray, List.map_cons, List.map_nil]); first | done | rfl | (simp only [List.length_drop, List.length_take]; rfl)) ?_; (with_reducible refine (stockyardlaw02_long.calls a0 false _ A3.out).mono ?_); rintro e w' ⟨rfl, ⟨nd, rfl⟩⟩; refine ⟨_, rfl, ?_⟩) | (go_at_call 13; (with_reducible refine (path_Valid.calls k a0 t322 _ A5.out).mono ?_); rintro e w6 ⟨rfl, hb⟩; have n0_ := Aside0.mk (below_step (by repeat (first | (with_reducible first | exact HB.out | apply below_alloc | apply pw_below_drewN | apply below_drew1) | exact HB.out)) hb); clear HB; have HB := n0_; clear n0_; (try clear hb); (try clear hb2); (try clear hk); (try clear hi)))
      go_meet
      case rel => exact ⟨_, (!t322), (by first | rfl | (simp; done) | (simp [*]; done)), H', ⟨by first | omega | exact Nat.le_refl _⟩, ⟨by repeat (first | (with_reducible first | exact HB.out | apply below_alloc | apply pw_below_drewN | apply below_drew1) | exact HB.out)⟩⟩
  case rest =>
    clear HC2
    try clear c1
    try clear p2
    try clear c4
    obtain ⟨kq, x17_1, rfl, HA, HJ1, HB⟩ := hcut
    cases kq with
    | zero => exact absurd HA.out (by simp [stockyardlaw02_PathBack.j0])
    | succ kj1 =>
      have H := HA.out
      clear HA
      simp only [stockyardlaw02_PathBack.j0] at H
      by_cases c7 : x17_1 = true
      · subst c7
        have H1 : ((stockyardlaw02_awake.f kj1).bind fun t323 => (some t323)) = some r := by rw [if_pos rfl] at H; exact H
        clear H
        have H := H1
        clear H1
        replace H := Option.bind_eq_some_iff.mp H
        obtain ⟨t323, A80, H⟩ := H
        replace H : (some t323) = some r := H
        have A8 := Aside0.mk A80
        clear A80
        obtain rfl := Option.some.inj H
        go_wp2_with (first | ((with_reducible refine gate_callee (f := 14) rfl ?_); refine goesL_ (some 18) rfl rfl Tryd.func14 (by kernel_rfl) rfl #[] rfl (by (try simp only [List.map_toArray, List.map_cons, List.map_nil]); first | done | rfl | (simp only [List.length_drop, List.length_take]; rfl)) ?_; (with_reducible refine (stockyardlaw02_awake.calls kj1  t323 _ A8.out).mono ?_); rintro e w9 ⟨rfl, hb⟩; refine ⟨_, rfl, ?_⟩; have n0_ := Aside0.mk (below_step (by repeat (first | (with_reducible first | exact HB.out | apply below_alloc | apply pw_below_drewN | apply below_drew1) | exact HB.out)) hb); clear HB; have HB := n0_; clear n0_; (try clear hb); (try clear hb2); (try clear hk); (try clear hi)))
        go_ret
        exact ⟨by first | rfl | (simp [errW_none, errW_some] <;> rfl) | (simp [*, errW_none, errW_some] <;> rfl), by repeat (first | (with_reducible first | exact HB.out | apply below_alloc | apply pw_below_drewN | apply below_drew1) | exact HB.out)⟩
      · replace c7 := Bool.eq_false_iff.mpr c7
        subst c7
        have H1 : ((path_Split.f kj1 a0).bind fun bt324 => ((path_Join.f kj1 bt324.1).bind fun bt328 => (if bt324.2 = 0 then (if bt328.2 = 0 then (stockyardlaw02_PathBack.j1 kj1 a0 (bt328.1.toList != a0.toList)) else (stockyardlaw02_PathBack.j1 kj1 a0 true)) else (stockyardlaw02_PathBack.j1 kj1 a0 true)))) = some r := by rw [if_neg (show ¬ (false = true) by decide)] at H; exact H
        clear H
        have H := H1
        clear H1
        replace H := Option.bind_eq_some_iff.mp H
        obtain ⟨⟨t324, t325⟩, A100, H⟩ := H
        replace H : ((path_Join.f kj1 t324).bind fun bt328 => (if t325 = 0 then (if bt328.2 = 0 then (stockyardlaw02_PathBack.j1 kj1 a0 (bt328.1.toList != a0.toList)) else (stockyardlaw02_PathBack.j1 kj1 a0 true)) else (stockyardlaw02_PathBack.j1 kj1 a0 true))) = some r := H
        have A10 := Aside0.mk A100
        clear A100
        replace H := Option.bind_eq_some_iff.mp H
        obtain ⟨⟨t328, t329⟩, A110, H⟩ := H
        replace H : (if t325 = 0 then (if t329 = 0 then (stockyardlaw02_PathBack.j1 kj1 a0 (t328.toList != a0.toList)) else (stockyardlaw02_PathBack.j1 kj1 a0 true)) else (stockyardlaw02_PathBack.j1 kj1 a0 true)) = some r := H
        have A11 := Aside0.mk A110
        clear A110
        have HC12 := Aside0.mk H
        clear H
        go_upto_region 5 with (first | ((with_reducible refine gate_callee (f := 19) rfl ?_); refine goesL_ (some 21) rfl rfl Tryd.func19 (by kernel_rfl) rfl #[.string a0] rfl (by (try simp only [List.map_toArray, List.map_cons, List.map_nil]); first | done | rfl | (simp only [List.length_drop, List.length_take]; rfl)) ?_; (with_reducible refine (path_Split.calls kj1 a0 t324 t325 _ A10.out).mono ?_); rintro e w13 ⟨v326, rfl, ho0, hb⟩; refine ⟨_, rfl, ?_⟩; have n0_ := Aside0.mk (Kd.R_lower ho0 (below_size (by repeat (first | (with_reducible first | exact HB.out | apply below_alloc | apply pw_below_drewN | apply below_drew1) | exact HB.out)))); have n1_ := Aside0.mk (below_step (by repeat (first | (with_reducible first | exact HB.out | apply below_alloc | apply pw_below_drewN | apply below_drew1) | exact HB.out)) hb); clear HB; have HO327 := n0_; have HB := n1_; clear n0_ n1_; (try clear hb); (try clear hb2); (try clear hk); (try clear hi); (try clear ho0); obtain ⟨Ao14, co14, eo14⟩ := Kd.R_slice HO327.out; subst eo14) | ((with_reducible refine gate_callee (f := 25) rfl ?_); refine goesL_ (some 26) rfl rfl Tryd.func25 (by kernel_rfl) rfl #[.slice Ao14 t324.length co14] rfl (by (try simp only [List.map_toArray, List.map_cons, List.map_nil]); first | done | rfl | (simp only [List.length_drop, List.length_take]; rfl)) ?_; (with_reducible refine (path_Join.calls kj1 _ _ t324 t328 t329 _ ?side1 ?side2 A11.out).mono ?_); (case side1 => repeat (first | exact (Kd.R_reads' HO327.out).2.2 | (with_reducible refine Kd.C_alloc ?_ _) | (with_reducible refine Kd.C_drewN ?_ _) | (with_reducible refine Kd.C_drew ?_))); (case side2 => exact (Kd.R_reads' HO327.out).2.1); rintro e w15 ⟨rfl, hb⟩; refine ⟨_, rfl, ?_⟩; have n0_ := Aside0.mk (Kd.R_below (by (with_reducible repeat (first | apply Kd.R_alloc | apply Kd.R_drewN | apply Kd.R_drew)); exact HO327.out) hb); have n1_ := Aside0.mk (below_step (by repeat (first | (with_reducible first | exact HB.out | apply below_alloc | apply pw_below_drewN | apply below_drew1) | exact HB.out)) hb); clear HO327; clear HB; have HO327 := n0_; have HB := n1_; clear n0_ n1_; (try clear hb); (try clear hb2); (try clear hk); (try clear hi)))
        (try simp only [Act.put, List.setIfInBounds_toArray, List.set_cons_zero, List.set_cons_succ])
        go_cut [39] (fun v39 wc => ∃ (kq : Nat) (x39_11 : Bool), v39 = .bool x39_11 ∧ Aside0 (stockyardlaw02_PathBack.j1 kq a0 x39_11 = some r) ∧ Aside0 (kq ≤ kj1) ∧ Aside0 (Below w.heap.size w wc))
        case first =>
          have H := HC12.out
          clear HC12
          by_cases c16 : t325 = 0
          · rw [if_pos c16] at H
            have c16b0 : (t325 == 0) = true := beq_iff_eq.mpr c16
            have c16b1 : (t325 != 0) = false := bne_eq_false_iff_eq.mpr c16
            clear c16
            (first | rw [c16b0] | (simp only [i64_w, i32_w]; rw [c16b0]) | skip)
            by_cases c17 : t329 = 0
            · rw [if_pos c17] at H
              have c17b0 : (t329 == 0) = true := beq_iff_eq.mpr c17
              have c17b1 : (t329 != 0) = false := bne_eq_false_iff_eq.mpr c17
              clear c17
              have H' := Aside0.mk H
              clear H
              go_wp2
              go_meet
              case rel => exact ⟨_, ((t328.toList != a0.toList)), (by first | rfl | (simp; done) | (simp [*]; done)), H', ⟨by have := HJ1.out; first | omega | exact Nat.le_refl _⟩, ⟨by repeat (first | (with_reducible first | exact HB.out | apply below_alloc | apply pw_below_drewN | apply below_drew1) | exact HB.out)⟩⟩
            · rw [if_neg c17] at H
              have c17b0 : (t329 == 0) = false := beq_eq_false_iff_ne.mpr c17
              have c17b1 : (t329 != 0) = true := bne_iff_ne.mpr c17
              have H' := Aside0.mk H
              clear H
              go_wp2
              go_meet
              case rel => exact ⟨_, (true), (by first | rfl | (simp; done) | (simp [*]; done)), H', ⟨by have := HJ1.out; first | omega | exact Nat.le_refl _⟩, ⟨by repeat (first | (with_reducible first | exact HB.out | apply below_alloc | apply pw_below_drewN | apply below_drew1) | exact HB.out)⟩⟩
          · rw [if_neg c16] at H
            have c16b0 : (t325 == 0) = false := beq_eq_false_iff_ne.mpr c16
            have c16b1 : (t325 != 0) = true := bne_iff_ne.mpr c16
            (first | rw [c16b0] | (simp only [i64_w, i32_w]; rw [c16b0]) | skip)
            have H' := Aside0.mk H
            clear H
            go_wp2
            go_meet
            case rel => exact ⟨_, (true), (by first | rfl | (simp; done) | (simp [*]; done)), H', ⟨by have := HJ1.out; first | omega | exact Nat.le_refl _⟩, ⟨by repeat (first | (with_reducible first | exact HB.out | apply below_alloc | apply pw_below_drewN | apply below_drew1) | exact HB.out)⟩⟩
        case rest =>
          clear HC12
          try clear c1
          try clear c2
          try clear p2
          try clear c4
          try clear c7
          try clear c11
          try clear c12
          try clear c14
          try clear c16
          try clear c16b0
          try clear c16b1
          try clear c17
          try clear c17b0
          try clear c17b1
          try clear p2
          obtain ⟨kq, x39_11, rfl, HA, HJ11, HB⟩ := hcut
          cases kq with
          | zero => exact absurd HA.out (by simp [stockyardlaw02_PathBack.j1])
          | succ kj11 =>
            have H := HA.out
            clear HA
            simp only [stockyardlaw02_PathBack.j1] at H
            by_cases c18 : x39_11 = true
            · subst c18
              have H1 : (some false) = some r := by rw [if_pos rfl] at H; exact H
              clear H
              have H := H1
              clear H1
              obtain rfl := Option.some.inj H
              go_wp2
              go_ret
              exact ⟨by first | rfl | (simp [errW_none, errW_some] <;> rfl) | (simp [*, errW_none, errW_some] <;> rfl), by repeat (first | (with_reducible first | exact HB.out | apply below_alloc | apply pw_below_drewN | apply below_drew1) | exact HB.out)⟩
            · replace c18 := Bool.eq_false_iff.mpr c18
              subst c18
              have H1 : ((path_Parent.f kj11 a0).bind fun bt330 => ((path_Name.f kj11 a0).bind fun bt332 => ((path_Under.f kj11 bt330.1 a0).bind fun bt334 => (if bt330.2 = 0 then (if bt332.2 = 0 then (if bt334.2 = 0 then (if bt334.1 = true then (if bt330.1.size + 1 ≤ 9223372036854775807 then (if (bt330.1 ++ (⟨#[47]⟩ : ByteArray)).size + bt332.1.size ≤ 9223372036854775807 then (if ((bt330.1 ++ (⟨#[47]⟩ : ByteArray)) ++ bt332.1).toList = a0.toList then ((path_Component.f kj11 bt332.1).bind fun t336 => (if t336 = true then ((stockyardlaw02_awake.f kj11).bind fun t337 => (some t337)) else (some false))) else (some false)) else (none)) else (none)) else (some false)) else (some false)) else (some false)) else (some false))))) = some r := by rw [if_neg (show ¬ (false = true) by decide)] at H; exact H
              clear H
              have H := H1
              clear H1
              replace H := Option.bind_eq_some_iff.mp H
              obtain ⟨⟨t330, t331⟩, A190, H⟩ := H
              replace H : ((path_Name.f kj11 a0).bind fun bt332 => ((path_Under.f kj11 t330 a0).bind fun bt334 => (if t331 = 0 then (if bt332.2 = 0 then (if bt334.2 = 0 then (if bt334.1 = true then (if t330.size + 1 ≤ 9223372036854775807 then (if (t330 ++ (⟨#[47]⟩ : ByteArray)).size + bt332.1.size ≤ 9223372036854775807 then (if ((t330 ++ (⟨#[47]⟩ : ByteArray)) ++ bt332.1).toList = a0.toList then ((path_Component.f kj11 bt332.1).bind fun t336 => (if t336 = true then ((stockyardlaw02_awake.f kj11).bind fun t337 => (some t337)) else (some false))) else (some false)) else (none)) else (none)) else (some false)) else (some false)) else (some false)) else (some false)))) = some r := H
              have A19 := Aside0.mk A190
              clear A190
              replace H := Option.bind_eq_some_iff.mp H
              obtain ⟨⟨t332, t333⟩, A200, H⟩ := H
              replace H : ((path_Under.f kj11 t330 a0).bind fun bt334 => (if t331 = 0 then (if t333 = 0 then (if bt334.2 = 0 then (if bt334.1 = true then (if t330.size + 1 ≤ 9223372036854775807 then (if (t330 ++ (⟨#[47]⟩ : ByteArray)).size + t332.size ≤ 9223372036854775807 then (if ((t330 ++ (⟨#[47]⟩ : ByteArray)) ++ t332).toList = a0.toList then ((path_Component.f kj11 t332).bind fun t336 => (if t336 = true then ((stockyardlaw02_awake.f kj11).bind fun t337 => (some t337)) else (some false))) else (some false)) else (none)) else (none)) else (some false)) else (some false)) else (some false)) else (some false))) = some r := H
              have A20 := Aside0.mk A200
              clear A200
              replace H := Option.bind_eq_some_iff.mp H
              obtain ⟨⟨t334, t335⟩, A210, H⟩ := H
              replace H : (if t331 = 0 then (if t333 = 0 then (if t335 = 0 then (if t334 = true then (if t330.size + 1 ≤ 9223372036854775807 then (if (t330 ++ (⟨#[47]⟩ : ByteArray)).size + t332.size ≤ 9223372036854775807 then (if ((t330 ++ (⟨#[47]⟩ : ByteArray)) ++ t332).toList = a0.toList then ((path_Component.f kj11 t332).bind fun t336 => (if t336 = true then ((stockyardlaw02_awake.f kj11).bind fun t337 => (some t337)) else (some false))) else (some false)) else (none)) else (none)) else (some false)) else (some false)) else (some false)) else (some false)) = some r := H
              have A21 := Aside0.mk A210
              clear A210
              by_cases c22 : t331 = 0
              · rw [if_pos c22] at H
                have c22b0 : (t331 == 0) = true := beq_iff_eq.mpr c22
                have c22b1 : (t331 != 0) = false := bne_eq_false_iff_eq.mpr c22
                clear c22
                by_cases c23 : t333 = 0
                · rw [if_pos c23] at H
                  have c23b0 : (t333 == 0) = true := beq_iff_eq.mpr c23
                  have c23b1 : (t333 != 0) = false := bne_eq_false_iff_eq.mpr c23
                  clear c23
                  by_cases c24 : t335 = 0
                  · rw [if_pos c24] at H
                    have c24b0 : (t335 == 0) = true := beq_iff_eq.mpr c24
                    have c24b1 : (t335 != 0) = false := bne_eq_false_iff_eq.mpr c24
                    clear c24
                    by_cases c25 : t334 = true
                    · subst c25
                      have H1 : (if t330.size + 1 ≤ 9223372036854775807 then (if (t330 ++ (⟨#[47]⟩ : ByteArray)).size + t332.size ≤ 9223372036854775807 then (if ((t330 ++ (⟨#[47]⟩ : ByteArray)) ++ t332).toList = a0.toList then ((path_Component.f kj11 t332).bind fun t336 => (if t336 = true then ((stockyardlaw02_awake.f kj11).bind fun t337 => (some t337)) else (some false))) else (some false)) else (none)) else (none)) = some r := by rw [if_pos rfl] at H; exact H
                      clear H
                      have H := H1
                      clear H1
                      by_cases c26 : t330.size + 1 ≤ 9223372036854775807
                      · rw [if_pos c26] at H
                        have c26b0 := eq_true c26
                        have c26b1 : decide (t330.size + 1 ≤ 9223372036854775807) = true := decide_eq_true c26
                        try have c26b2 : (9223372036854775807 < t330.size + 1) = False := eq_false (Nat.not_lt.2 c26)
                        by_cases c27 : (t330 ++ (⟨#[47]⟩ : ByteArray)).size + t332.size ≤ 9223372036854775807
                        · rw [if_pos c27] at H
                          have c27b0 := eq_true c27
                          have c27b1 : decide ((t330 ++ (⟨#[47]⟩ : ByteArray)).size + t332.size ≤ 9223372036854775807) = true := decide_eq_true c27
                          try have c27b2 : (9223372036854775807 < (t330 ++ (⟨#[47]⟩ : ByteArray)).size + t332.size) = False := eq_false (Nat.not_lt.2 c27)
                          by_cases c28 : ((t330 ++ (⟨#[47]⟩ : ByteArray)) ++ t332).toList = a0.toList
                          · rw [if_pos c28] at H
                            have c28b0 : (((t330 ++ (⟨#[47]⟩ : ByteArray)) ++ t332).toList == a0.toList) = true := beq_iff_eq.mpr c28
                            have c28b1 : (((t330 ++ (⟨#[47]⟩ : ByteArray)) ++ t332).toList != a0.toList) = false := bne_eq_false_iff_eq.mpr c28
                            clear c28
                            replace H := Option.bind_eq_some_iff.mp H
                            obtain ⟨t336, A290, H⟩ := H
                            replace H : (if t336 = true then ((stockyardlaw02_awake.f kj11).bind fun t337 => (some t337)) else (some false)) = some r := H
                            have A29 := Aside0.mk A290
                            clear A290
                            by_cases c30 : t336 = true
                            · subst c30
                              have H1 : ((stockyardlaw02_awake.f kj11).bind fun t337 => (some t337)) = some r := by rw [if_pos rfl] at H; exact H
                              clear H
                              have H := H1
                              clear H1
                              replace H := Option.bind_eq_some_iff.mp H
                              obtain ⟨t337, A310, H⟩ := H
                              replace H : (some t337) = some r := H
                              have A31 := Aside0.mk A310
                              clear A310
                              obtain rfl := Option.some.inj H
                              go_wp2_with (first | ((with_reducible refine gate_callee (f := 27) rfl ?_); refine goesL_ (some 42) rfl rfl Tryd.func27 (by kernel_rfl) rfl #[.string a0] rfl (by (try simp only [List.map_toArray, List.map_cons, List.map_nil]); first | done | rfl | (simp only [List.length_drop, List.length_take]; rfl)) ?_; (with_reducible refine (path_Parent.calls kj11 a0 t330 t331 _ A19.out).mono ?_); rintro e w32 ⟨rfl, hb⟩; refine ⟨_, rfl, ?_⟩; have n0_ := Aside0.mk (below_step (by repeat (first | (with_reducible first | exact HB.out | apply below_alloc | apply pw_below_drewN | apply below_drew1) | exact HB.out)) hb); clear HB; have HB := n0_; clear n0_; (try clear hb); (try clear hb2); (try clear hk); (try clear hi)) | ((with_reducible refine gate_callee (f := 28) rfl ?_); refine goesL_ (some 47) rfl rfl Tryd.func28 (by kernel_rfl) rfl #[.string a0] rfl (by (try simp only [List.map_toArray, List.map_cons, List.map_nil]); first | done | rfl | (simp only [List.length_drop, List.length_take]; rfl)) ?_; (with_reducible refine (path_Name.calls kj11 a0 t332 t333 _ A20.out).mono ?_); rintro e w33 ⟨rfl, hb⟩; refine ⟨_, rfl, ?_⟩; have n0_ := Aside0.mk (below_step (by repeat (first | (with_reducible first | exact HB.out | apply below_alloc | apply pw_below_drewN | apply below_drew1) | exact HB.out)) hb); clear HB; have HB := n0_; clear n0_; (try clear hb); (try clear hb2); (try clear hk); (try clear hi)) | ((with_reducible refine gate_callee (f := 22) rfl ?_); refine goesL_ (some 53) rfl rfl Tryd.func22 (by kernel_rfl) rfl #[.string t330, .string a0] rfl (by (try simp only [List.map_toArray, List.map_cons, List.map_nil]); first | done | rfl | (simp only [List.length_drop, List.length_take]; rfl)) ?_; (with_reducible refine (path_Under.calls kj11 t330 a0 true t335 _ A21.out).mono ?_); rintro e w34 ⟨rfl, hb⟩; refine ⟨_, rfl, ?_⟩; have n0_ := Aside0.mk (below_step (by repeat (first | (with_reducible first | exact HB.out | apply below_alloc | apply pw_below_drewN | apply below_drew1) | exact HB.out)) hb); clear HB; have HB := n0_; clear n0_; (try clear hb); (try clear hb2); (try clear hk); (try clear hi)) | (go_at_call 17; (with_reducible refine (path_Component.calls kj11 t332 true _ A29.out).mono ?_); rintro e w' ⟨rfl, ⟨nd, rfl⟩⟩) | (go_at_call 14; (with_reducible refine (stockyardlaw02_awake.calls kj11  t337 _ A31.out).mono ?_); rintro e w35 ⟨rfl, hb⟩; have n0_ := Aside0.mk (below_step (by repeat (first | (with_reducible first | exact HB.out | apply below_alloc | apply pw_below_drewN | apply below_drew1) | exact HB.out)) hb); clear HB; have HB := n0_; clear n0_; (try clear hb); (try clear hb2); (try clear hk); (try clear hi)))
                              go_ret
                              exact ⟨by first | rfl | (simp [errW_none, errW_some] <;> rfl) | (simp [*, errW_none, errW_some] <;> rfl), by repeat (first | (with_reducible first | exact HB.out | apply below_alloc | apply pw_below_drewN | apply below_drew1) | exact HB.out)⟩
                            · replace c30 := Bool.eq_false_iff.mpr c30
                              subst c30
                              have H1 : (some false) = some r := by rw [if_neg (show ¬ (false = true) by decide)] at H; exact H
                              clear H
                              have H := H1
                              clear H1
                              obtain rfl := Option.some.inj H
                              go_wp2_with (first | ((with_reducible refine gate_callee (f := 27) rfl ?_); refine goesL_ (some 42) rfl rfl Tryd.func27 (by kernel_rfl) rfl #[.string a0] rfl (by (try simp only [List.map_toArray, List.map_cons, List.map_nil]); first | done | rfl | (simp only [List.length_drop, List.length_take]; rfl)) ?_; (with_reducible refine (path_Parent.calls kj11 a0 t330 t331 _ A19.out).mono ?_); rintro e w36 ⟨rfl, hb⟩; refine ⟨_, rfl, ?_⟩; have n0_ := Aside0.mk (below_step (by repeat (first | (with_reducible first | exact HB.out | apply below_alloc | apply pw_below_drewN | apply below_drew1) | exact HB.out)) hb); clear HB; have HB := n0_; clear n0_; (try clear hb); (try clear hb2); (try clear hk); (try clear hi)) | ((with_reducible refine gate_callee (f := 28) rfl ?_); refine goesL_ (some 47) rfl rfl Tryd.func28 (by kernel_rfl) rfl #[.string a0] rfl (by (try simp only [List.map_toArray, List.map_cons, List.map_nil]); first | done | rfl | (simp only [List.length_drop, List.length_take]; rfl)) ?_; (with_reducible refine (path_Name.calls kj11 a0 t332 t333 _ A20.out).mono ?_); rintro e w37 ⟨rfl, hb⟩; refine ⟨_, rfl, ?_⟩; have n0_ := Aside0.mk (below_step (by repeat (first | (with_reducible first | exact HB.out | apply below_alloc | apply pw_below_drewN | apply below_drew1) | exact HB.out)) hb); clear HB; have HB := n0_; clear n0_; (try clear hb); (try clear hb2); (try clear hk); (try clear hi)) | ((with_reducible refine gate_callee (f := 22) rfl ?_); refine goesL_ (some 53) rfl rfl Tryd.func22 (by kernel_rfl) rfl #[.string t330, .string a0] rfl (by (try simp only [List.map_toArray, List.map_cons, List.map_nil]); first | done | rfl | (simp only [List.length_drop, List.length_take]; rfl)) ?_; (with_reducible refine (path_Under.calls kj11 t330 a0 true t335 _ A21.out).mono ?_); rintro e w38 ⟨rfl, hb⟩; refine ⟨_, rfl, ?_⟩; have n0_ := Aside0.mk (below_step (by repeat (first | (with_reducible first | exact HB.out | apply below_alloc | apply pw_below_drewN | apply below_drew1) | exact HB.out)) hb); clear HB; have HB := n0_; clear n0_; (try clear hb); (try clear hb2); (try clear hk); (try clear hi)) | (go_at_call 17; (with_reducible refine (path_Component.calls kj11 t332 false _ A29.out).mono ?_); rintro e w' ⟨rfl, ⟨nd, rfl⟩⟩))
                              go_ret
                              exact ⟨by first | rfl | (simp [errW_none, errW_some] <;> rfl) | (simp [*, errW_none, errW_some] <;> rfl), by repeat (first | (with_reducible first | exact HB.out | apply below_alloc | apply pw_below_drewN | apply below_drew1) | exact HB.out)⟩
                          · rw [if_neg c28] at H
                            have c28b0 : (((t330 ++ (⟨#[47]⟩ : ByteArray)) ++ t332).toList == a0.toList) = false := beq_eq_false_iff_ne.mpr c28
                            have c28b1 : (((t330 ++ (⟨#[47]⟩ : ByteArray)) ++ t332).toList != a0.toList) = true := bne_iff_ne.mpr c28
                            obtain rfl := Option.some.inj H
                            go_wp2_with (first | ((with_reducible refine gate_callee (f := 27) rfl ?_); refine goesL_ (some 42) rfl rfl Tryd.func27 (by kernel_rfl) rfl #[.string a0] rfl (by (try simp only [List.map_toArray, List.map_cons, List.map_nil]); first | done | rfl | (simp only [List.length_drop, List.length_take]; rfl)) ?_; (with_reducible refine (path_Parent.calls kj11 a0 t330 t331 _ A19.out).mono ?_); rintro e w39 ⟨rfl, hb⟩; refine ⟨_, rfl, ?_⟩; have n0_ := Aside0.mk (below_step (by repeat (first | (with_reducible first | exact HB.out | apply below_alloc | apply pw_below_drewN | apply below_drew1) | exact HB.out)) hb); clear HB; have HB := n0_; clear n0_; (try clear hb); (try clear hb2); (try clear hk); (try clear hi)) | ((with_reducible refine gate_callee (f := 28) rfl ?_); refine goesL_ (some 47) rfl rfl Tryd.func28 (by kernel_rfl) rfl #[.string a0] rfl (by (try simp only [List.map_toArray, List.map_cons, List.map_nil]); first | done | rfl | (simp only [List.length_drop, List.length_take]; rfl)) ?_; (with_reducible refine (path_Name.calls kj11 a0 t332 t333 _ A20.out).mono ?_); rintro e w40 ⟨rfl, hb⟩; refine ⟨_, rfl, ?_⟩; have n0_ := Aside0.mk (below_step (by repeat (first | (with_reducible first | exact HB.out | apply below_alloc | apply pw_below_drewN | apply below_drew1) | exact HB.out)) hb); clear HB; have HB := n0_; clear n0_; (try clear hb); (try clear hb2); (try clear hk); (try clear hi)) | ((with_reducible refine gate_callee (f := 22) rfl ?_); refine goesL_ (some 53) rfl rfl Tryd.func22 (by kernel_rfl) rfl #[.string t330, .string a0] rfl (by (try simp only [List.map_toArray, List.map_cons, List.map_nil]); first | done | rfl | (simp only [List.length_drop, List.length_take]; rfl)) ?_; (with_reducible refine (path_Under.calls kj11 t330 a0 true t335 _ A21.out).mono ?_); rintro e w41 ⟨rfl, hb⟩; refine ⟨_, rfl, ?_⟩; have n0_ := Aside0.mk (below_step (by repeat (first | (with_reducible first | exact HB.out | apply below_alloc | apply pw_below_drewN | apply below_drew1) | exact HB.out)) hb); clear HB; have HB := n0_; clear n0_; (try clear hb); (try clear hb2); (try clear hk); (try clear hi)))
                            go_ret
                            exact ⟨by first | rfl | (simp [errW_none, errW_some] <;> rfl) | (simp [*, errW_none, errW_some] <;> rfl), by repeat (first | (with_reducible first | exact HB.out | apply below_alloc | apply pw_below_drewN | apply below_drew1) | exact HB.out)⟩
                        · rw [if_neg c27] at H
                          exact absurd H (by simp)
                      · rw [if_neg c26] at H
                        exact absurd H (by simp)
                    · replace c25 := Bool.eq_false_iff.mpr c25
                      subst c25
                      have H1 : (some false) = some r := by rw [if_neg (show ¬ (false = true) by decide)] at H; exact H
                      clear H
                      have H := H1
                      clear H1
                      obtain rfl := Option.some.inj H
                      go_wp2_with (first | ((with_reducible refine gate_callee (f := 27) rfl ?_); refine goesL_ (some 42) rfl rfl Tryd.func27 (by kernel_rfl) rfl #[.string a0] rfl (by (try simp only [List.map_toArray, List.map_cons, List.map_nil]); first | done | rfl | (simp only [List.length_drop, List.length_take]; rfl)) ?_; (with_reducible refine (path_Parent.calls kj11 a0 t330 t331 _ A19.out).mono ?_); rintro e w42 ⟨rfl, hb⟩; refine ⟨_, rfl, ?_⟩; have n0_ := Aside0.mk (below_step (by repeat (first | (with_reducible first | exact HB.out | apply below_alloc | apply pw_below_drewN | apply below_drew1) | exact HB.out)) hb); clear HB; have HB := n0_; clear n0_; (try clear hb); (try clear hb2); (try clear hk); (try clear hi)) | ((with_reducible refine gate_callee (f := 28) rfl ?_); refine goesL_ (some 47) rfl rfl Tryd.func28 (by kernel_rfl) rfl #[.string a0] rfl (by (try simp only [List.map_toArray, List.map_cons, List.map_nil]); first | done | rfl | (simp only [List.length_drop, List.length_take]; rfl)) ?_; (with_reducible refine (path_Name.calls kj11 a0 t332 t333 _ A20.out).mono ?_); rintro e w43 ⟨rfl, hb⟩; refine ⟨_, rfl, ?_⟩; have n0_ := Aside0.mk (below_step (by repeat (first | (with_reducible first | exact HB.out | apply below_alloc | apply pw_below_drewN | apply below_drew1) | exact HB.out)) hb); clear HB; have HB := n0_; clear n0_; (try clear hb); (try clear hb2); (try clear hk); (try clear hi)) | ((with_reducible refine gate_callee (f := 22) rfl ?_); refine goesL_ (some 53) rfl rfl Tryd.func22 (by kernel_rfl) rfl #[.string t330, .string a0] rfl (by (try simp only [List.map_toArray, List.map_cons, List.map_nil]); first | done | rfl | (simp only [List.length_drop, List.length_take]; rfl)) ?_; (with_reducible refine (path_Under.calls kj11 t330 a0 false t335 _ A21.out).mono ?_); rintro e w44 ⟨rfl, hb⟩; refine ⟨_, rfl, ?_⟩; have n0_ := Aside0.mk (below_step (by repeat (first | (with_reducible first | exact HB.out | apply below_alloc | apply pw_below_drewN | apply below_drew1) | exact HB.out)) hb); clear HB; have HB := n0_; clear n0_; (try clear hb); (try clear hb2); (try clear hk); (try clear hi)))
                      go_ret
                      exact ⟨by first | rfl | (simp [errW_none, errW_some] <;> rfl) | (simp [*, errW_none, errW_some] <;> rfl), by repeat (first | (with_reducible first | exact HB.out | apply below_alloc | apply pw_below_drewN | apply below_drew1) | exact HB.out)⟩
                  · rw [if_neg c24] at H
                    have c24b0 : (t335 == 0) = false := beq_eq_false_iff_ne.mpr c24
                    have c24b1 : (t335 != 0) = true := bne_iff_ne.mpr c24
                    obtain rfl := Option.some.inj H
                    go_wp2_with (first | ((with_reducible refine gate_callee (f := 27) rfl ?_); refine goesL_ (some 42) rfl rfl Tryd.func27 (by kernel_rfl) rfl #[.string a0] rfl (by (try simp only [List.map_toArray, List.map_cons, List.map_nil]); first | done | rfl | (simp only [List.length_drop, List.length_take]; rfl)) ?_; (with_reducible refine (path_Parent.calls kj11 a0 t330 t331 _ A19.out).mono ?_); rintro e w45 ⟨rfl, hb⟩; refine ⟨_, rfl, ?_⟩; have n0_ := Aside0.mk (below_step (by repeat (first | (with_reducible first | exact HB.out | apply below_alloc | apply pw_below_drewN | apply below_drew1) | exact HB.out)) hb); clear HB; have HB := n0_; clear n0_; (try clear hb); (try clear hb2); (try clear hk); (try clear hi)) | ((with_reducible refine gate_callee (f := 28) rfl ?_); refine goesL_ (some 47) rfl rfl Tryd.func28 (by kernel_rfl) rfl #[.string a0] rfl (by (try simp only [List.map_toArray, List.map_cons, List.map_nil]); first | done | rfl | (simp only [List.length_drop, List.length_take]; rfl)) ?_; (with_reducible refine (path_Name.calls kj11 a0 t332 t333 _ A20.out).mono ?_); rintro e w46 ⟨rfl, hb⟩; refine ⟨_, rfl, ?_⟩; have n0_ := Aside0.mk (below_step (by repeat (first | (with_reducible first | exact HB.out | apply below_alloc | apply pw_below_drewN | apply below_drew1) | exact HB.out)) hb); clear HB; have HB := n0_; clear n0_; (try clear hb); (try clear hb2); (try clear hk); (try clear hi)) | ((with_reducible refine gate_callee (f := 22) rfl ?_); refine goesL_ (some 53) rfl rfl Tryd.func22 (by kernel_rfl) rfl #[.string t330, .string a0] rfl (by (try simp only [List.map_toArray, List.map_cons, List.map_nil]); first | done | rfl | (simp only [List.length_drop, List.length_take]; rfl)) ?_; (with_reducible refine (path_Under.calls kj11 t330 a0 t334 t335 _ A21.out).mono ?_); rintro e w47 ⟨rfl, hb⟩; refine ⟨_, rfl, ?_⟩; have n0_ := Aside0.mk (below_step (by repeat (first | (with_reducible first | exact HB.out | apply below_alloc | apply pw_below_drewN | apply below_drew1) | exact HB.out)) hb); clear HB; have HB := n0_; clear n0_; (try clear hb); (try clear hb2); (try clear hk); (try clear hi)))
                    go_ret
                    exact ⟨by first | rfl | (simp [errW_none, errW_some] <;> rfl) | (simp [*, errW_none, errW_some] <;> rfl), by repeat (first | (with_reducible first | exact HB.out | apply below_alloc | apply pw_below_drewN | apply below_drew1) | exact HB.out)⟩
                · rw [if_neg c23] at H
                  have c23b0 : (t333 == 0) = false := beq_eq_false_iff_ne.mpr c23
                  have c23b1 : (t333 != 0) = true := bne_iff_ne.mpr c23
                  obtain rfl := Option.some.inj H
                  go_wp2_with (first | ((with_reducible refine gate_callee (f := 27) rfl ?_); refine goesL_ (some 42) rfl rfl Tryd.func27 (by kernel_rfl) rfl #[.string a0] rfl (by (try simp only [List.map_toArray, List.map_cons, List.map_nil]); first | done | rfl | (simp only [List.length_drop, List.length_take]; rfl)) ?_; (with_reducible refine (path_Parent.calls kj11 a0 t330 t331 _ A19.out).mono ?_); rintro e w48 ⟨rfl, hb⟩; refine ⟨_, rfl, ?_⟩; have n0_ := Aside0.mk (below_step (by repeat (first | (with_reducible first | exact HB.out | apply below_alloc | apply pw_below_drewN | apply below_drew1) | exact HB.out)) hb); clear HB; have HB := n0_; clear n0_; (try clear hb); (try clear hb2); (try clear hk); (try clear hi)) | ((with_reducible refine gate_callee (f := 28) rfl ?_); refine goesL_ (some 47) rfl rfl Tryd.func28 (by kernel_rfl) rfl #[.string a0] rfl (by (try simp only [List.map_toArray, List.map_cons, List.map_nil]); first | done | rfl | (simp only [List.length_drop, List.length_take]; rfl)) ?_; (with_reducible refine (path_Name.calls kj11 a0 t332 t333 _ A20.out).mono ?_); rintro e w49 ⟨rfl, hb⟩; refine ⟨_, rfl, ?_⟩; have n0_ := Aside0.mk (below_step (by repeat (first | (with_reducible first | exact HB.out | apply below_alloc | apply pw_below_drewN | apply below_drew1) | exact HB.out)) hb); clear HB; have HB := n0_; clear n0_; (try clear hb); (try clear hb2); (try clear hk); (try clear hi)) | ((with_reducible refine gate_callee (f := 22) rfl ?_); refine goesL_ (some 53) rfl rfl Tryd.func22 (by kernel_rfl) rfl #[.string t330, .string a0] rfl (by (try simp only [List.map_toArray, List.map_cons, List.map_nil]); first | done | rfl | (simp only [List.length_drop, List.length_take]; rfl)) ?_; (with_reducible refine (path_Under.calls kj11 t330 a0 t334 t335 _ A21.out).mono ?_); rintro e w50 ⟨rfl, hb⟩; refine ⟨_, rfl, ?_⟩; have n0_ := Aside0.mk (below_step (by repeat (first | (with_reducible first | exact HB.out | apply below_alloc | apply pw_below_drewN | apply below_drew1) | exact HB.out)) hb); clear HB; have HB := n0_; clear n0_; (try clear hb); (try clear hb2); (try clear hk); (try clear hi)))
                  go_ret
                  exact ⟨by first | rfl | (simp [errW_none, errW_some] <;> rfl) | (simp [*, errW_none, errW_some] <;> rfl), by repeat (first | (with_reducible first | exact HB.out | apply below_alloc | apply pw_below_drewN | apply below_drew1) | exact HB.out)⟩
              · rw [if_neg c22] at H
                have c22b0 : (t331 == 0) = false := beq_eq_false_iff_ne.mpr c22
                have c22b1 : (t331 != 0) = true := bne_iff_ne.mpr c22
                obtain rfl := Option.some.inj H
                go_wp2_with (first | ((with_reducible refine gate_callee (f := 27) rfl ?_); refine goesL_ (some 42) rfl rfl Tryd.func27 (by kernel_rfl) rfl #[.string a0] rfl (by (try simp only [List.map_toArray, List.map_cons, List.map_nil]); first | done | rfl | (simp only [List.length_drop, List.length_take]; rfl)) ?_; (with_reducible refine (path_Parent.calls kj11 a0 t330 t331 _ A19.out).mono ?_); rintro e w51 ⟨rfl, hb⟩; refine ⟨_, rfl, ?_⟩; have n0_ := Aside0.mk (below_step (by repeat (first | (with_reducible first | exact HB.out | apply below_alloc | apply pw_below_drewN | apply below_drew1) | exact HB.out)) hb); clear HB; have HB := n0_; clear n0_; (try clear hb); (try clear hb2); (try clear hk); (try clear hi)) | ((with_reducible refine gate_callee (f := 28) rfl ?_); refine goesL_ (some 47) rfl rfl Tryd.func28 (by kernel_rfl) rfl #[.string a0] rfl (by (try simp only [List.map_toArray, List.map_cons, List.map_nil]); first | done | rfl | (simp only [List.length_drop, List.length_take]; rfl)) ?_; (with_reducible refine (path_Name.calls kj11 a0 t332 t333 _ A20.out).mono ?_); rintro e w52 ⟨rfl, hb⟩; refine ⟨_, rfl, ?_⟩; have n0_ := Aside0.mk (below_step (by repeat (first | (with_reducible first | exact HB.out | apply below_alloc | apply pw_below_drewN | apply below_drew1) | exact HB.out)) hb); clear HB; have HB := n0_; clear n0_; (try clear hb); (try clear hb2); (try clear hk); (try clear hi)) | ((with_reducible refine gate_callee (f := 22) rfl ?_); refine goesL_ (some 53) rfl rfl Tryd.func22 (by kernel_rfl) rfl #[.string t330, .string a0] rfl (by (try simp only [List.map_toArray, List.map_cons, List.map_nil]); first | done | rfl | (simp only [List.length_drop, List.length_take]; rfl)) ?_; (with_reducible refine (path_Under.calls kj11 t330 a0 t334 t335 _ A21.out).mono ?_); rintro e w53 ⟨rfl, hb⟩; refine ⟨_, rfl, ?_⟩; have n0_ := Aside0.mk (below_step (by repeat (first | (with_reducible first | exact HB.out | apply below_alloc | apply pw_below_drewN | apply below_drew1) | exact HB.out)) hb); clear HB; have HB := n0_; clear n0_; (try clear hb); (try clear hb2); (try clear hk); (try clear hi)))
                go_ret
                exact ⟨by first | rfl | (simp [errW_none, errW_some] <;> rfl) | (simp [*, errW_none, errW_some] <;> rfl), by repeat (first | (with_reducible first | exact HB.out | apply below_alloc | apply pw_below_drewN | apply below_drew1) | exact HB.out)⟩

end Go.Proofs.YtgbnjkfhkhkkfaaDoor.P

-- Written by a program of this session (wip/gen.py) over the kit's print: each Go function as a plain Lean function, and the proof that the Go code comes to it. Nothing here is trusted: Lean checks it.
import Derived.Test.YtcpnmcbgcgkieaaDoorPx0
import Derived.Test.YtcpnmcbgcgkieaaDoorPx2
import Derived.Test.YtcpnmcbgcgkieaaDoorPx8
namespace Go.Proofs.YtcpnmcbgcgkieaaDoor.P
open Go.RowKit Go.Proofs.YtcpnmcbgcgkieaaDoorW.PrintWords Go.Proofs.YtcpnmcbgcgkieaaDoorW.PrintLast Go.Proofs.YtcpnmcbgcgkieaaDoorW.PrintMore
attribute [local go_sem] str_gtr str_leq str_geq max2_int min2_int max_two min_two max_three min_three max_four min_four   -- for this text's walks alone
set_option linter.unusedVariables false
set_option linter.unusedSimpArgs false

/-! ### stockyardref03_Capture: function 47 -/
def stockyardref03_Capture.f (k : Nat) (a0 : ByteArray) (a1 : ByteArray) : Option (ByteArray × Bool) := (stockyardref03_Star.f k a0).bind fun bt249 => (if bt249.2 = true then ((strings_HasSuffix.f a1 bt249.1).bind fun t251 => (if t251 = true then (if 0 ≤ (wrap64 ((a1.size : Int) - (bt249.1.size : Int))) then (if (wrap64 ((a1.size : Int) - (bt249.1.size : Int))) ≤ (a1.size : Int) then ((stockyardref02_Component.f k (a1.extract 0 ((wrap64 ((a1.size : Int) - (bt249.1.size : Int))) : Int).toNat)).bind fun t252 => (some (a1.extract 0 ((wrap64 ((a1.size : Int) - (bt249.1.size : Int))) : Int).toNat, t252))) else (none)) else (none)) else (some ((⟨#[]⟩ : ByteArray), false)))) else (some ((⟨#[]⟩ : ByteArray), (a0.toList == a1.toList))))
theorem stockyardref03_Capture.mono : ∀ a0 a1 k, LeO (stockyardref03_Capture.f k a0 a1) (stockyardref03_Capture.f (k + 1) a0 a1) := by
  intro a0 a1 k
  unfold stockyardref03_Capture.f
  repeat' first
      | (with_reducible exact stockyardref02_Component.mono _ _)
      | (with_reducible exact stockyardref03_Star.mono _ _)
      | (with_reducible exact LeO.refl _)
      | (with_reducible exact LeO.none _)
      | (with_reducible refine LeO.ite ?_ ?_)
      | (with_reducible refine LeO.bind ?_ (fun _ => ?_))
      | exact stockyardref02_Component.mono _ _
      | exact stockyardref03_Star.mono _ _
      | exact LeO.none _
      | refine LeO.ite ?_ ?_
      | refine LeO.bind ?_ (fun _ => ?_)
set_option maxHeartbeats 8000000 in
set_option maxRecDepth 100000 in
theorem stockyardref03_Capture.calls (k : Nat) (a0 : ByteArray) (a1 : ByteArray) (r1 : ByteArray) (r2 : Bool) (w : World) (h : stockyardref03_Capture.f k a0 a1 = some (r1, r2)) :
    Calls Tryd.prog 47 #[.string a0, .string a1] w fun e w' => e = .returned (.tuple #[.string r1, .bool r2]) ∧ Drawn0 w w' := by
  have H : ((stockyardref03_Star.f k a0).bind fun bt249 => (if bt249.2 = true then ((strings_HasSuffix.f a1 bt249.1).bind fun t251 => (if t251 = true then (if 0 ≤ (wrap64 ((a1.size : Int) - (bt249.1.size : Int))) then (if (wrap64 ((a1.size : Int) - (bt249.1.size : Int))) ≤ (a1.size : Int) then ((stockyardref02_Component.f k (a1.extract 0 ((wrap64 ((a1.size : Int) - (bt249.1.size : Int))) : Int).toNat)).bind fun t252 => (some (a1.extract 0 ((wrap64 ((a1.size : Int) - (bt249.1.size : Int))) : Int).toNat, t252))) else (none)) else (none)) else (some ((⟨#[]⟩ : ByteArray), false)))) else (some ((⟨#[]⟩ : ByteArray), (a0.toList == a1.toList))))) = some (r1, r2) := h
  clear h
  replace H := Option.bind_eq_some_iff.mp H
  obtain ⟨⟨t249, t250⟩, A30, H⟩ := H
  replace H : (if t250 = true then ((strings_HasSuffix.f a1 t249).bind fun t251 => (if t251 = true then (if 0 ≤ (wrap64 ((a1.size : Int) - (t249.size : Int))) then (if (wrap64 ((a1.size : Int) - (t249.size : Int))) ≤ (a1.size : Int) then ((stockyardref02_Component.f k (a1.extract 0 ((wrap64 ((a1.size : Int) - (t249.size : Int))) : Int).toNat)).bind fun t252 => (some (a1.extract 0 ((wrap64 ((a1.size : Int) - (t249.size : Int))) : Int).toNat, t252))) else (none)) else (none)) else (some ((⟨#[]⟩ : ByteArray), false)))) else (some ((⟨#[]⟩ : ByteArray), (a0.toList == a1.toList)))) = some (r1, r2) := H
  have A3 := Aside0.mk A30
  clear A30
  by_cases c4 : t250 = true
  · subst c4
    have H1 : ((strings_HasSuffix.f a1 t249).bind fun t251 => (if t251 = true then (if 0 ≤ (wrap64 ((a1.size : Int) - (t249.size : Int))) then (if (wrap64 ((a1.size : Int) - (t249.size : Int))) ≤ (a1.size : Int) then ((stockyardref02_Component.f k (a1.extract 0 ((wrap64 ((a1.size : Int) - (t249.size : Int))) : Int).toNat)).bind fun t252 => (some (a1.extract 0 ((wrap64 ((a1.size : Int) - (t249.size : Int))) : Int).toNat, t252))) else (none)) else (none)) else (some ((⟨#[]⟩ : ByteArray), false)))) = some (r1, r2) := by rw [if_pos rfl] at H; exact H
    clear H
    have H := H1
    clear H1
    replace H := Option.bind_eq_some_iff.mp H
    obtain ⟨t251, A50, H⟩ := H
    replace H : (if t251 = true then (if 0 ≤ (wrap64 ((a1.size : Int) - (t249.size : Int))) then (if (wrap64 ((a1.size : Int) - (t249.size : Int))) ≤ (a1.size : Int) then ((stockyardref02_Component.f k (a1.extract 0 ((wrap64 ((a1.size : Int) - (t249.size : Int))) : Int).toNat)).bind fun t252 => (some (a1.extract 0 ((wrap64 ((a1.size : Int) - (t249.size : Int))) : Int).toNat, t252))) else (none)) else (none)) else (some ((⟨#[]⟩ : ByteArray), false))) = some (r1, r2) := H
    have A5 := Aside0.mk A50
    clear A50
    by_cases c6 : t251 = true
    · subst c6
      have H1 : (if 0 ≤ (wrap64 ((a1.size : Int) - (t249.size : Int))) then (if (wrap64 ((a1.size : Int) - (t249.size : Int))) ≤ (a1.size : Int) then ((stockyardref02_Component.f k (a1.extract 0 ((wrap64 ((a1.size : Int) - (t249.size : Int))) : Int).toNat)).bind fun t252 => (some (a1.extract 0 ((wrap64 ((a1.size : Int) - (t249.size : Int))) : Int).toNat, t252))) else (none)) else (none)) = some (r1, r2) := by rw [if_pos rfl] at H; exact H
      clear H
      have H := H1
      clear H1
      obtain ⟨ji7, hji7⟩ : ∃ j_ : Int, (wrap64 ((a1.size : Int) - (t249.size : Int))) = j_ := ⟨_, rfl⟩
      replace H : (if 0 ≤ (ji7) then (if (ji7) ≤ (a1.size : Int) then ((stockyardref02_Component.f k (a1.extract 0 ((ji7) : Int).toNat)).bind fun t252 => (some (a1.extract 0 ((ji7) : Int).toNat, t252))) else (none)) else (none)) = some (r1, r2) := by first | (rw [hji7] at H; exact H) | (simp only [hji7] at H ⊢; exact H)
      (try rw [hji7] at A3)
      (try rw [hji7] at A5)
      have hji7w : (IntKind.i64.wrap ((a1.size : Int) - (t249.size : Int))) = ji7 := (i64_w _).trans hji7
      by_cases c8 : 0 ≤ (ji7)
      · rw [if_pos c8] at H
        have c8b0 := eq_true c8
        have c8b1 : decide (0 ≤ (ji7)) = true := decide_eq_true c8
        clear c8
        by_cases c9 : (ji7) ≤ (a1.size : Int)
        · rw [if_pos c9] at H
          have c9b0 := eq_true c9
          have c9b1 : decide ((ji7) ≤ (a1.size : Int)) = true := decide_eq_true c9
          clear c9
          replace H := Option.bind_eq_some_iff.mp H
          obtain ⟨t252, A100, H⟩ := H
          replace H : (some (a1.extract 0 ((ji7) : Int).toNat, t252)) = some (r1, r2) := H
          have A10 := Aside0.mk A100
          clear A100
          simp only [Option.some.injEq, Prod.mk.injEq] at H
          obtain ⟨rfl, rfl⟩ := H
          go_enter Tryd.func47, Tryd.ntmps47
          go_wp2_with (first | ((with_reducible refine gate_callee (f := 39) rfl ?_); refine goesL_ (some 11) rfl rfl Tryd.func39 (by kernel_rfl) rfl #[.string a0] rfl (by (try simp only [List.map_toArray, List.map_cons, List.map_nil]); first | done | rfl | (simp only [List.length_drop, List.length_take]; rfl)) ?_; (with_reducible refine (stockyardref03_Star.calls k a0 t249 true _ A3.out).mono ?_); rintro e w' ⟨rfl, ⟨nd, rfl⟩⟩; refine ⟨_, rfl, ?_⟩) | ((with_reducible refine gate_callee (f := 45) rfl ?_); refine goesL_ (some 21) rfl rfl Tryd.func45 (by kernel_rfl) rfl #[.string a1, .string t249] rfl (by (try simp only [List.map_toArray, List.map_cons, List.map_nil]); first | done | rfl | (simp only [List.length_drop, List.length_take]; rfl)) ?_; (with_reducible refine (strings_HasSuffix.calls a1 t249 true _ A5.out).mono ?_); rintro e w' ⟨rfl, ⟨nd, rfl⟩⟩; refine ⟨_, rfl, ?_⟩) | ((with_reducible refine gate_callee (f := 46) rfl ?_); refine goesL_ (some 32) rfl rfl Tryd.func46 (by kernel_rfl) rfl #[.string (a1.extract 0 ((ji7) : Int).toNat)] rfl (by (try simp only [List.map_toArray, List.map_cons, List.map_nil]); first | done | (simp only [hji7]; rfl) | rfl | (simp only [List.length_drop, List.length_take]; rfl)) ?_; (with_reducible refine (stockyardref02_Component.calls k (a1.extract 0 ((ji7) : Int).toNat) t252 _ A10.out).mono ?_); rintro e w' ⟨rfl, ⟨nd, rfl⟩⟩; refine ⟨_, rfl, ?_⟩))
          go_ret2
          exact ⟨by first | rfl | (simp; done) | (simp only [← hji7] <;> (first | rfl | simp)) | (simp [*]; done), by repeat (first | exact Drawn0.refl _ | apply Drawn0.step)⟩
        · rw [if_neg c9] at H
          exact absurd H (by simp)
      · rw [if_neg c8] at H
        exact absurd H (by simp)
    · replace c6 := Bool.eq_false_iff.mpr c6
      subst c6
      have H1 : (some ((⟨#[]⟩ : ByteArray), false)) = some (r1, r2) := by rw [if_neg (show ¬ (false = true) by decide)] at H; exact H
      clear H
      have H := H1
      clear H1
      simp only [Option.some.injEq, Prod.mk.injEq] at H
      obtain ⟨rfl, rfl⟩ := H
      go_enter Tryd.func47, Tryd.ntmps47
      go_wp2_with (first | ((with_reducible refine gate_callee (f := 39) rfl ?_); refine goesL_ (some 11) rfl rfl Tryd.func39 (by kernel_rfl) rfl #[.string a0] rfl (by (try simp only [List.map_toArray, List.map_cons, List.map_nil]); first | done | rfl | (simp only [List.length_drop, List.length_take]; rfl)) ?_; (with_reducible refine (stockyardref03_Star.calls k a0 t249 true _ A3.out).mono ?_); rintro e w' ⟨rfl, ⟨nd, rfl⟩⟩; refine ⟨_, rfl, ?_⟩) | ((with_reducible refine gate_callee (f := 45) rfl ?_); refine goesL_ (some 21) rfl rfl Tryd.func45 (by kernel_rfl) rfl #[.string a1, .string t249] rfl (by (try simp only [List.map_toArray, List.map_cons, List.map_nil]); first | done | rfl | (simp only [List.length_drop, List.length_take]; rfl)) ?_; (with_reducible refine (strings_HasSuffix.calls a1 t249 false _ A5.out).mono ?_); rintro e w' ⟨rfl, ⟨nd, rfl⟩⟩; refine ⟨_, rfl, ?_⟩))
      go_ret2
      exact ⟨by first | rfl | (simp; done) | (simp [*]; done), by repeat (first | exact Drawn0.refl _ | apply Drawn0.step)⟩
  · replace c4 := Bool.eq_false_iff.mpr c4
    subst c4
    have H1 : (some ((⟨#[]⟩ : ByteArray), (a0.toList == a1.toList))) = some (r1, r2) := by rw [if_neg (show ¬ (false = true) by decide)] at H; exact H
    clear H
    have H := H1
    clear H1
    simp only [Option.some.injEq, Prod.mk.injEq] at H
    obtain ⟨rfl, rfl⟩ := H
    go_enter Tryd.func47, Tryd.ntmps47
    go_wp2_with (first | ((with_reducible refine gate_callee (f := 39) rfl ?_); refine goesL_ (some 11) rfl rfl Tryd.func39 (by kernel_rfl) rfl #[.string a0] rfl (by (try simp only [List.map_toArray, List.map_cons, List.map_nil]); first | done | rfl | (simp only [List.length_drop, List.length_take]; rfl)) ?_; (with_reducible refine (stockyardref03_Star.calls k a0 t249 false _ A3.out).mono ?_); rintro e w' ⟨rfl, ⟨nd, rfl⟩⟩; refine ⟨_, rfl, ?_⟩))
    go_ret2
    exact ⟨by first | rfl | (simp; done) | (simp [*]; done), by repeat (first | exact Drawn0.refl _ | apply Drawn0.step)⟩

/-! ### stockyardref03_Inside: function 30 -/
def stockyardref03_Inside.f (k : Nat) (a0 : ByteArray) (a1 : ByteArray) : Option (Bool) := (stockyardref03_Star.f k a0).bind fun bt253 => ((stockyardref03_Star.f k a1).bind fun bt255 => (if bt255.2 = true then (if bt253.2 = true then ((strings_HasSuffix.f bt253.1 bt255.1).bind fun t257 => (some t257)) else ((stockyardref03_Capture.f k a1 a0).bind fun bt258 => (some bt258.2))) else (some (a0.toList == a1.toList))))
theorem stockyardref03_Inside.mono : ∀ a0 a1 k, LeO (stockyardref03_Inside.f k a0 a1) (stockyardref03_Inside.f (k + 1) a0 a1) := by
  intro a0 a1 k
  unfold stockyardref03_Inside.f
  repeat' first
      | (with_reducible exact stockyardref03_Capture.mono _ _ _)
      | (with_reducible exact stockyardref03_Star.mono _ _)
      | (with_reducible exact LeO.refl _)
      | (with_reducible exact LeO.none _)
      | (with_reducible refine LeO.ite ?_ ?_)
      | (with_reducible refine LeO.bind ?_ (fun _ => ?_))
      | exact stockyardref03_Capture.mono _ _ _
      | exact stockyardref03_Star.mono _ _
      | exact LeO.none _
      | refine LeO.ite ?_ ?_
      | refine LeO.bind ?_ (fun _ => ?_)
set_option maxHeartbeats 8000000 in
set_option maxRecDepth 100000 in
theorem stockyardref03_Inside.calls (k : Nat) (a0 : ByteArray) (a1 : ByteArray) (r : Bool) (w : World) (h : stockyardref03_Inside.f k a0 a1 = some r) :
    Calls Tryd.prog 30 #[.string a0, .string a1] w fun e w' => e = .returned (.bool r) ∧ Drawn0 w w' := by
  have H : ((stockyardref03_Star.f k a0).bind fun bt253 => ((stockyardref03_Star.f k a1).bind fun bt255 => (if bt255.2 = true then (if bt253.2 = true then ((strings_HasSuffix.f bt253.1 bt255.1).bind fun t257 => (some t257)) else ((stockyardref03_Capture.f k a1 a0).bind fun bt258 => (some bt258.2))) else (some (a0.toList == a1.toList))))) = some r := h
  clear h
  replace H := Option.bind_eq_some_iff.mp H
  obtain ⟨⟨t253, t254⟩, A30, H⟩ := H
  replace H : ((stockyardref03_Star.f k a1).bind fun bt255 => (if bt255.2 = true then (if t254 = true then ((strings_HasSuffix.f t253 bt255.1).bind fun t257 => (some t257)) else ((stockyardref03_Capture.f k a1 a0).bind fun bt258 => (some bt258.2))) else (some (a0.toList == a1.toList)))) = some r := H
  have A3 := Aside0.mk A30
  clear A30
  replace H := Option.bind_eq_some_iff.mp H
  obtain ⟨⟨t255, t256⟩, A40, H⟩ := H
  replace H : (if t256 = true then (if t254 = true then ((strings_HasSuffix.f t253 t255).bind fun t257 => (some t257)) else ((stockyardref03_Capture.f k a1 a0).bind fun bt258 => (some bt258.2))) else (some (a0.toList == a1.toList))) = some r := H
  have A4 := Aside0.mk A40
  clear A40
  by_cases c5 : t256 = true
  · subst c5
    have H1 : (if t254 = true then ((strings_HasSuffix.f t253 t255).bind fun t257 => (some t257)) else ((stockyardref03_Capture.f k a1 a0).bind fun bt258 => (some bt258.2))) = some r := by rw [if_pos rfl] at H; exact H
    clear H
    have H := H1
    clear H1
    by_cases c6 : t254 = true
    · subst c6
      have H1 : ((strings_HasSuffix.f t253 t255).bind fun t257 => (some t257)) = some r := by rw [if_pos rfl] at H; exact H
      clear H
      have H := H1
      clear H1
      replace H := Option.bind_eq_some_iff.mp H
      obtain ⟨t257, A70, H⟩ := H
      replace H : (some t257) = some r := H
      have A7 := Aside0.mk A70
      clear A70
      obtain rfl := Option.some.inj H
      go_enter Tryd.func30, Tryd.ntmps30
      go_wp2_with (first | ((with_reducible refine gate_callee (f := 39) rfl ?_); refine goesL_ (some 13) rfl rfl Tryd.func39 (by kernel_rfl) rfl #[.string a0] rfl (by (try simp only [List.map_toArray, List.map_cons, List.map_nil]); first | done | rfl | (simp only [List.length_drop, List.length_take]; rfl)) ?_; (with_reducible refine (stockyardref03_Star.calls k a0 t253 true _ A3.out).mono ?_); rintro e w' ⟨rfl, ⟨nd, rfl⟩⟩; refine ⟨_, rfl, ?_⟩) | ((with_reducible refine gate_callee (f := 39) rfl ?_); refine goesL_ (some 18) rfl rfl Tryd.func39 (by kernel_rfl) rfl #[.string a1] rfl (by (try simp only [List.map_toArray, List.map_cons, List.map_nil]); first | done | rfl | (simp only [List.length_drop, List.length_take]; rfl)) ?_; (with_reducible refine (stockyardref03_Star.calls k a1 t255 true _ A4.out).mono ?_); rintro e w' ⟨rfl, ⟨nd, rfl⟩⟩; refine ⟨_, rfl, ?_⟩) | ((with_reducible refine gate_callee (f := 45) rfl ?_); refine goesL_ (some 31) rfl rfl Tryd.func45 (by kernel_rfl) rfl #[.string t253, .string t255] rfl (by (try simp only [List.map_toArray, List.map_cons, List.map_nil]); first | done | rfl | (simp only [List.length_drop, List.length_take]; rfl)) ?_; (with_reducible refine (strings_HasSuffix.calls t253 t255 t257 _ A7.out).mono ?_); rintro e w' ⟨rfl, ⟨nd, rfl⟩⟩; refine ⟨_, rfl, ?_⟩))
      go_ret
      exact ⟨by first | rfl | (simp; done) | (simp [*]; done), by repeat (first | exact Drawn0.refl _ | apply Drawn0.step)⟩
    · replace c6 := Bool.eq_false_iff.mpr c6
      subst c6
      have H1 : ((stockyardref03_Capture.f k a1 a0).bind fun bt258 => (some bt258.2)) = some r := by rw [if_neg (show ¬ (false = true) by decide)] at H; exact H
      clear H
      have H := H1
      clear H1
      replace H := Option.bind_eq_some_iff.mp H
      obtain ⟨⟨t258, t259⟩, A80, H⟩ := H
      replace H : (some t259) = some r := H
      have A8 := Aside0.mk A80
      clear A80
      obtain rfl := Option.some.inj H
      go_enter Tryd.func30, Tryd.ntmps30
      go_wp2_with (first | ((with_reducible refine gate_callee (f := 39) rfl ?_); refine goesL_ (some 13) rfl rfl Tryd.func39 (by kernel_rfl) rfl #[.string a0] rfl (by (try simp only [List.map_toArray, List.map_cons, List.map_nil]); first | done | rfl | (simp only [List.length_drop, List.length_take]; rfl)) ?_; (with_reducible refine (stockyardref03_Star.calls k a0 t253 false _ A3.out).mono ?_); rintro e w' ⟨rfl, ⟨nd, rfl⟩⟩; refine ⟨_, rfl, ?_⟩) | ((with_reducible refine gate_callee (f := 39) rfl ?_); refine goesL_ (some 18) rfl rfl Tryd.func39 (by kernel_rfl) rfl #[.string a1] rfl (by (try simp only [List.map_toArray, List.map_cons, List.map_nil]); first | done | rfl | (simp only [List.length_drop, List.length_take]; rfl)) ?_; (with_reducible refine (stockyardref03_Star.calls k a1 t255 true _ A4.out).mono ?_); rintro e w' ⟨rfl, ⟨nd, rfl⟩⟩; refine ⟨_, rfl, ?_⟩) | ((with_reducible refine gate_callee (f := 47) rfl ?_); refine goesL_ (some 35) rfl rfl Tryd.func47 (by kernel_rfl) rfl #[.string a1, .string a0] rfl (by (try simp only [List.map_toArray, List.map_cons, List.map_nil]); first | done | rfl | (simp only [List.length_drop, List.length_take]; rfl)) ?_; (with_reducible refine (stockyardref03_Capture.calls k a1 a0 t258 t259 _ A8.out).mono ?_); rintro e w' ⟨rfl, ⟨nd, rfl⟩⟩; refine ⟨_, rfl, ?_⟩))
      go_ret
      exact ⟨by first | rfl | (simp; done) | (simp [*]; done), by repeat (first | exact Drawn0.refl _ | apply Drawn0.step)⟩
  · replace c5 := Bool.eq_false_iff.mpr c5
    subst c5
    have H1 : (some (a0.toList == a1.toList)) = some r := by rw [if_neg (show ¬ (false = true) by decide)] at H; exact H
    clear H
    have H := H1
    clear H1
    obtain rfl := Option.some.inj H
    go_enter Tryd.func30, Tryd.ntmps30
    go_wp2_with (first | ((with_reducible refine gate_callee (f := 39) rfl ?_); refine goesL_ (some 13) rfl rfl Tryd.func39 (by kernel_rfl) rfl #[.string a0] rfl (by (try simp only [List.map_toArray, List.map_cons, List.map_nil]); first | done | rfl | (simp only [List.length_drop, List.length_take]; rfl)) ?_; (with_reducible refine (stockyardref03_Star.calls k a0 t253 t254 _ A3.out).mono ?_); rintro e w' ⟨rfl, ⟨nd, rfl⟩⟩; refine ⟨_, rfl, ?_⟩) | ((with_reducible refine gate_callee (f := 39) rfl ?_); refine goesL_ (some 18) rfl rfl Tryd.func39 (by kernel_rfl) rfl #[.string a1] rfl (by (try simp only [List.map_toArray, List.map_cons, List.map_nil]); first | done | rfl | (simp only [List.length_drop, List.length_take]; rfl)) ?_; (with_reducible refine (stockyardref03_Star.calls k a1 t255 false _ A4.out).mono ?_); rintro e w' ⟨rfl, ⟨nd, rfl⟩⟩; refine ⟨_, rfl, ?_⟩))
    go_ret
    exact ⟨by first | rfl | (simp; done) | (simp [*]; done), by repeat (first | exact Drawn0.refl _ | apply Drawn0.step)⟩

end Go.Proofs.YtcpnmcbgcgkieaaDoor.P

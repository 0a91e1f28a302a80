-- Written by a program of this session (wip/gen.py) over the kit's print: each Go function as a plain Lean function, and the proof that the Go code comes to it. Nothing here is trusted: Lean checks it.
import Derived.Test.YtcpnmcbgcgkieaaDoorPx0
import Derived.Test.YtcpnmcbgcgkieaaDoorPx6
namespace Go.Proofs.YtcpnmcbgcgkieaaDoor.P
open Go.RowKit Go.Proofs.YtcpnmcbgcgkieaaDoorW.PrintWords Go.Proofs.YtcpnmcbgcgkieaaDoorW.PrintLast Go.Proofs.YtcpnmcbgcgkieaaDoorW.PrintMore
attribute [local go_sem] str_gtr str_leq str_geq max2_int min2_int max_two min_two max_three min_three max_four min_four   -- for this text's walks alone
set_option linter.unusedVariables false
set_option linter.unusedSimpArgs false

/-! ### stockyardref03_Meet: function 15 -/
theorem hb_c {P : Prop} (p : P := by repeat (first | (with_reducible first | exact HB.out | apply below_alloc | apply pw_below_drewN | apply below_drew1 | refine below_set ?_ (Aside0.out (by assumption))) | exact HB.out)) : P := p
theorem bk_c {P : Prop} (p : P := by (with_reducible repeat (first | refine blk_drewN ?_ _ | refine blk_drew ?_ | refine blk_alloc ?_ _)); exact Aside0.out (by assumption)) : P := p
mutual
def stockyardref03_Meet.j0 : Nat → Bool → List ByteArray → Bool → List ByteArray → Bool → Option (List ByteArray × Bool × Bool)
  | 0, _, _, _, _, _ => none
  | k + 1, x17, x261000, x261001, x262000, x262001 => if x17 = true then (some (([] : List ByteArray), false, false)) else (if (x261000.length : Int) < (x262000.length : Int) then (if (x262000.length : Int) > (x261000.length : Int) then (if x261001 = true then (if (x262000.length : Int) = (x261000.length : Int) then (stockyardref03_Meet.j1 k (x261000.length : Int) (x262001 != x261001) x262000 x262001 x261000 x261001) else (stockyardref03_Meet.j1 k (x261000.length : Int) false x262000 x262001 x261000 x261001)) else (stockyardref03_Meet.j1 k (x261000.length : Int) true x262000 x262001 x261000 x261001)) else (if (x262000.length : Int) = (x261000.length : Int) then (stockyardref03_Meet.j1 k (x261000.length : Int) (x262001 != x261001) x262000 x262001 x261000 x261001) else (stockyardref03_Meet.j1 k (x261000.length : Int) false x262000 x262001 x261000 x261001))) else (if (x261000.length : Int) > (x262000.length : Int) then (if x262001 = true then (if (x261000.length : Int) = (x262000.length : Int) then (stockyardref03_Meet.j4 k (x262000.length : Int) (x261001 != x262001) x261000 x261001 x262000 x262001) else (stockyardref03_Meet.j4 k (x262000.length : Int) false x261000 x261001 x262000 x262001)) else (stockyardref03_Meet.j4 k (x262000.length : Int) true x261000 x261001 x262000 x262001)) else (if (x261000.length : Int) = (x262000.length : Int) then (stockyardref03_Meet.j4 k (x262000.length : Int) (x261001 != x262001) x261000 x261001 x262000 x262001) else (stockyardref03_Meet.j4 k (x262000.length : Int) false x261000 x261001 x262000 x262001))))
def stockyardref03_Meet.j1 : Nat → Int → Bool → List ByteArray → Bool → List ByteArray → Bool → Option (List ByteArray × Bool × Bool)
  | 0, _, _, _, _, _, _ => none
  | k + 1, x6, x54, x261000, x261001, x262000, x262001 => if x54 = true then (some (([] : List ByteArray), false, false)) else (stockyardref03_Meet.l0 k x6 x261000 (x261000.length : Int) 0 x262000 x262001 ([] : List ByteArray) x261001)
def stockyardref03_Meet.l0 : Nat → Int → List ByteArray → Int → Int → List ByteArray → Bool → List ByteArray → Bool → Option (List ByteArray × Bool × Bool)
  | 0, _, _, _, _, _, _, _, _ => none
  | k + 1, x6, x60, x61, x62, x262000, x262001, x266000, x266001 => if x62 < x61 then (if 0 ≤ x62 then (if x62 < (x60.length : Int) then (if x62 ≥ x6 then (stockyardref03_Meet.j3 k x6 x62 (rdOf ByteArray.empty x60 x62) x60 x61 x62 true x262000 x262001 x266000 x266001) else (if x62 < (x262000.length : Int) then ((stockyardref03_Inside.f k (rdOf ByteArray.empty x60 x62) (rdOf ByteArray.empty x262000 x62)).bind fun t268 => (stockyardref03_Meet.j3 k x6 x62 (rdOf ByteArray.empty x60 x62) x60 x61 x62 t268 x262000 x262001 x266000 x266001)) else (none))) else (none)) else (none)) else (some (x266000, x266001, true))
def stockyardref03_Meet.j3 : Nat → Int → Int → ByteArray → List ByteArray → Int → Int → Bool → List ByteArray → Bool → List ByteArray → Bool → Option (List ByteArray × Bool × Bool)
  | 0, _, _, _, _, _, _, _, _, _, _, _ => none
  | k + 1, x6, x8, x9, x60, x61, x62, x68, x262000, x262001, x266000, x266001 => if x68 = true then (if x266000.length < 8796093022208 then (stockyardref03_Meet.l0 k x6 x60 x61 (wrap64 (x62 + 1)) x262000 x262001 (x266000 ++ [x9]) x266001) else (none)) else (if 0 ≤ x8 then (if x8 < (x262000.length : Int) then ((stockyardref03_Inside.f k (rdOf ByteArray.empty x262000 x8) x9).bind fun t273 => (if t273 = true then (if x266000.length < 8796093022208 then (stockyardref03_Meet.l0 k x6 x60 x61 (wrap64 (x62 + 1)) x262000 x262001 (x266000 ++ [rdOf ByteArray.empty x262000 x8]) x266001) else (none)) else (some (([] : List ByteArray), false, false)))) else (none)) else (none))
def stockyardref03_Meet.j4 : Nat → Int → Bool → List ByteArray → Bool → List ByteArray → Bool → Option (List ByteArray × Bool × Bool)
  | 0, _, _, _, _, _, _ => none
  | k + 1, x6, x54, x261000, x261001, x262000, x262001 => if x54 = true then (some (([] : List ByteArray), false, false)) else (stockyardref03_Meet.l100 k x6 x261000 (x261000.length : Int) 0 x262000 x262001 ([] : List ByteArray) x261001)
def stockyardref03_Meet.l100 : Nat → Int → List ByteArray → Int → Int → List ByteArray → Bool → List ByteArray → Bool → Option (List ByteArray × Bool × Bool)
  | 0, _, _, _, _, _, _, _, _ => none
  | k + 1, x6, x60, x61, x62, x262000, x262001, x279000, x279001 => if x62 < x61 then (if 0 ≤ x62 then (if x62 < (x60.length : Int) then (if x62 ≥ x6 then (stockyardref03_Meet.j6 k x6 x62 (rdOf ByteArray.empty x60 x62) x60 x61 x62 true x262000 x262001 x279000 x279001) else (if x62 < (x262000.length : Int) then ((stockyardref03_Inside.f k (rdOf ByteArray.empty x60 x62) (rdOf ByteArray.empty x262000 x62)).bind fun t281 => (stockyardref03_Meet.j6 k x6 x62 (rdOf ByteArray.empty x60 x62) x60 x61 x62 t281 x262000 x262001 x279000 x279001)) else (none))) else (none)) else (none)) else (some (x279000, x279001, true))
def stockyardref03_Meet.j6 : Nat → Int → Int → ByteArray → List ByteArray → Int → Int → Bool → List ByteArray → Bool → List ByteArray → Bool → Option (List ByteArray × Bool × Bool)
  | 0, _, _, _, _, _, _, _, _, _, _, _ => none
  | k + 1, x6, x8, x9, x60, x61, x62, x68, x262000, x262001, x279000, x279001 => if x68 = true then (if x279000.length < 8796093022208 then (stockyardref03_Meet.l100 k x6 x60 x61 (wrap64 (x62 + 1)) x262000 x262001 (x279000 ++ [x9]) x279001) else (none)) else (if 0 ≤ x8 then (if x8 < (x262000.length : Int) then ((stockyardref03_Inside.f k (rdOf ByteArray.empty x262000 x8) x9).bind fun t286 => (if t286 = true then (if x279000.length < 8796093022208 then (stockyardref03_Meet.l100 k x6 x60 x61 (wrap64 (x62 + 1)) x262000 x262001 (x279000 ++ [rdOf ByteArray.empty x262000 x8]) x279001) else (none)) else (some (([] : List ByteArray), false, false)))) else (none)) else (none))
end
def stockyardref03_Meet.f (k : Nat) (l0_0 : List ByteArray) (a0_1 : Bool) (l1_0 : List ByteArray) (a1_1 : Bool) : Option (List ByteArray × Bool × Bool) := (stockyardref03_Check.f k l0_0 a0_1).bind fun t263 => (if t263 = 0 then ((stockyardref03_Check.f k l1_0 a1_1).bind fun t264 => (stockyardref03_Meet.j0 k (t264 != 0) l0_0 a0_1 l1_0 a1_1)) else (stockyardref03_Meet.j0 k true l0_0 a0_1 l1_0 a1_1))
theorem stockyardref03_Meet.mono_l : ∀ k, (∀ y0 y1 y2 y3 y4, LeO (stockyardref03_Meet.j0 k y0 y1 y2 y3 y4) (stockyardref03_Meet.j0 (k + 1) y0 y1 y2 y3 y4)) ∧ (∀ y0 y1 y2 y3 y4 y5, LeO (stockyardref03_Meet.j1 k y0 y1 y2 y3 y4 y5) (stockyardref03_Meet.j1 (k + 1) y0 y1 y2 y3 y4 y5)) ∧ (∀ y0 y1 y2 y3 y4 y5 y6 y7, LeO (stockyardref03_Meet.l0 k y0 y1 y2 y3 y4 y5 y6 y7) (stockyardref03_Meet.l0 (k + 1) y0 y1 y2 y3 y4 y5 y6 y7)) ∧ (∀ y0 y1 y2 y3 y4 y5 y6 y7 y8 y9 y10, LeO (stockyardref03_Meet.j3 k y0 y1 y2 y3 y4 y5 y6 y7 y8 y9 y10) (stockyardref03_Meet.j3 (k + 1) y0 y1 y2 y3 y4 y5 y6 y7 y8 y9 y10)) ∧ (∀ y0 y1 y2 y3 y4 y5, LeO (stockyardref03_Meet.j4 k y0 y1 y2 y3 y4 y5) (stockyardref03_Meet.j4 (k + 1) y0 y1 y2 y3 y4 y5)) ∧ (∀ y0 y1 y2 y3 y4 y5 y6 y7, LeO (stockyardref03_Meet.l100 k y0 y1 y2 y3 y4 y5 y6 y7) (stockyardref03_Meet.l100 (k + 1) y0 y1 y2 y3 y4 y5 y6 y7)) ∧ (∀ y0 y1 y2 y3 y4 y5 y6 y7 y8 y9 y10, LeO (stockyardref03_Meet.j6 k y0 y1 y2 y3 y4 y5 y6 y7 y8 y9 y10) (stockyardref03_Meet.j6 (k + 1) y0 y1 y2 y3 y4 y5 y6 y7 y8 y9 y10))
  | 0 => ⟨fun _ _ _ _ _ r h => by simp [stockyardref03_Meet.j0] at h, fun _ _ _ _ _ _ r h => by simp [stockyardref03_Meet.j1] at h, fun _ _ _ _ _ _ _ _ r h => by simp [stockyardref03_Meet.l0] at h, fun _ _ _ _ _ _ _ _ _ _ _ r h => by simp [stockyardref03_Meet.j3] at h, fun _ _ _ _ _ _ r h => by simp [stockyardref03_Meet.j4] at h, fun _ _ _ _ _ _ _ _ r h => by simp [stockyardref03_Meet.l100] at h, fun _ _ _ _ _ _ _ _ _ _ _ r h => by simp [stockyardref03_Meet.j6] at h⟩
  | k + 1 => by
    obtain ⟨ih0, ih1, ih2, ih3, ih4, ih5, ih6⟩ := stockyardref03_Meet.mono_l k
    refine ⟨?_, ?_, ?_, ?_, ?_, ?_, ?_⟩
    · intro y0 y1 y2 y3 y4
      unfold stockyardref03_Meet.j0
      repeat' first
      | (with_reducible exact ih0 _ _ _ _ _)
      | (with_reducible exact ih1 _ _ _ _ _ _)
      | (with_reducible exact ih2 _ _ _ _ _ _ _ _)
      | (with_reducible exact ih3 _ _ _ _ _ _ _ _ _ _ _)
      | (with_reducible exact ih4 _ _ _ _ _ _)
      | (with_reducible exact ih5 _ _ _ _ _ _ _ _)
      | (with_reducible exact ih6 _ _ _ _ _ _ _ _ _ _ _)
      | (with_reducible exact stockyardref03_Check.mono _ _ _)
      | (with_reducible exact stockyardref03_Inside.mono _ _ _)
      | (with_reducible exact LeO.refl _)
      | (with_reducible exact LeO.none _)
      | (with_reducible refine LeO.ite ?_ ?_)
      | (with_reducible refine LeO.bind ?_ (fun _ => ?_))
      | exact ih0 _ _ _ _ _
      | exact ih1 _ _ _ _ _ _
      | exact ih2 _ _ _ _ _ _ _ _
      | exact ih3 _ _ _ _ _ _ _ _ _ _ _
      | exact ih4 _ _ _ _ _ _
      | exact ih5 _ _ _ _ _ _ _ _
      | exact ih6 _ _ _ _ _ _ _ _ _ _ _
      | exact stockyardref03_Check.mono _ _ _
      | exact stockyardref03_Inside.mono _ _ _
      | exact LeO.none _
      | refine LeO.ite ?_ ?_
      | refine LeO.bind ?_ (fun _ => ?_)
    · intro y0 y1 y2 y3 y4 y5
      unfold stockyardref03_Meet.j1
      repeat' first
      | (with_reducible exact ih0 _ _ _ _ _)
      | (with_reducible exact ih1 _ _ _ _ _ _)
      | (with_reducible exact ih2 _ _ _ _ _ _ _ _)
      | (with_reducible exact ih3 _ _ _ _ _ _ _ _ _ _ _)
      | (with_reducible exact ih4 _ _ _ _ _ _)
      | (with_reducible exact ih5 _ _ _ _ _ _ _ _)
      | (with_reducible exact ih6 _ _ _ _ _ _ _ _ _ _ _)
      | (with_reducible exact stockyardref03_Check.mono _ _ _)
      | (with_reducible exact stockyardref03_Inside.mono _ _ _)
      | (with_reducible exact LeO.refl _)
      | (with_reducible exact LeO.none _)
      | (with_reducible refine LeO.ite ?_ ?_)
      | (with_reducible refine LeO.bind ?_ (fun _ => ?_))
      | exact ih0 _ _ _ _ _
      | exact ih1 _ _ _ _ _ _
      | exact ih2 _ _ _ _ _ _ _ _
      | exact ih3 _ _ _ _ _ _ _ _ _ _ _
      | exact ih4 _ _ _ _ _ _
      | exact ih5 _ _ _ _ _ _ _ _
      | exact ih6 _ _ _ _ _ _ _ _ _ _ _
      | exact stockyardref03_Check.mono _ _ _
      | exact stockyardref03_Inside.mono _ _ _
      | exact LeO.none _
      | refine LeO.ite ?_ ?_
      | refine LeO.bind ?_ (fun _ => ?_)
    · intro y0 y1 y2 y3 y4 y5 y6 y7
      unfold stockyardref03_Meet.l0
      repeat' first
      | (with_reducible exact ih0 _ _ _ _ _)
      | (with_reducible exact ih1 _ _ _ _ _ _)
      | (with_reducible exact ih2 _ _ _ _ _ _ _ _)
      | (with_reducible exact ih3 _ _ _ _ _ _ _ _ _ _ _)
      | (with_reducible exact ih4 _ _ _ _ _ _)
      | (with_reducible exact ih5 _ _ _ _ _ _ _ _)
      | (with_reducible exact ih6 _ _ _ _ _ _ _ _ _ _ _)
      | (with_reducible exact stockyardref03_Check.mono _ _ _)
      | (with_reducible exact stockyardref03_Inside.mono _ _ _)
      | (with_reducible exact LeO.refl _)
      | (with_reducible exact LeO.none _)
      | (with_reducible refine LeO.ite ?_ ?_)
      | (with_reducible refine LeO.bind ?_ (fun _ => ?_))
      | exact ih0 _ _ _ _ _
      | exact ih1 _ _ _ _ _ _
      | exact ih2 _ _ _ _ _ _ _ _
      | exact ih3 _ _ _ _ _ _ _ _ _ _ _
      | exact ih4 _ _ _ _ _ _
      | exact ih5 _ _ _ _ _ _ _ _
      | exact ih6 _ _ _ _ _ _ _ _ _ _ _
      | exact stockyardref03_Check.mono _ _ _
      | exact stockyardref03_Inside.mono _ _ _
      | exact LeO.none _
      | refine LeO.ite ?_ ?_
      | refine LeO.bind ?_ (fun _ => ?_)
    · intro y0 y1 y2 y3 y4 y5 y6 y7 y8 y9 y10
      unfold stockyardref03_Meet.j3
      repeat' first
      | (with_reducible exact ih0 _ _ _ _ _)
      | (with_reducible exact ih1 _ _ _ _ _ _)
      | (with_reducible exact ih2 _ _ _ _ _ _ _ _)
      | (with_reducible exact ih3 _ _ _ _ _ _ _ _ _ _ _)
      | (with_reducible exact ih4 _ _ _ _ _ _)
      | (with_reducible exact ih5 _ _ _ _ _ _ _ _)
      | (with_reducible exact ih6 _ _ _ _ _ _ _ _ _ _ _)
      | (with_reducible exact stockyardref03_Check.mono _ _ _)
      | (with_reducible exact stockyardref03_Inside.mono _ _ _)
      | (with_reducible exact LeO.refl _)
      | (with_reducible exact LeO.none _)
      | (with_reducible refine LeO.ite ?_ ?_)
      | (with_reducible refine LeO.bind ?_ (fun _ => ?_))
      | exact ih0 _ _ _ _ _
      | exact ih1 _ _ _ _ _ _
      | exact ih2 _ _ _ _ _ _ _ _
      | exact ih3 _ _ _ _ _ _ _ _ _ _ _
      | exact ih4 _ _ _ _ _ _
      | exact ih5 _ _ _ _ _ _ _ _
      | exact ih6 _ _ _ _ _ _ _ _ _ _ _
      | exact stockyardref03_Check.mono _ _ _
      | exact stockyardref03_Inside.mono _ _ _
      | exact LeO.none _
      | refine LeO.ite ?_ ?_
      | refine LeO.bind ?_ (fun _ => ?_)
    · intro y0 y1 y2 y3 y4 y5
      unfold stockyardref03_Meet.j4
      repeat' first
      | (with_reducible exact ih0 _ _ _ _ _)
      | (with_reducible exact ih1 _ _ _ _ _ _)
      | (with_reducible exact ih2 _ _ _ _ _ _ _ _)
      | (with_reducible exact ih3 _ _ _ _ _ _ _ _ _ _ _)
      | (with_reducible exact ih4 _ _ _ _ _ _)
      | (with_reducible exact ih5 _ _ _ _ _ _ _ _)
      | (with_reducible exact ih6 _ _ _ _ _ _ _ _ _ _ _)
      | (with_reducible exact stockyardref03_Check.mono _ _ _)
      | (with_reducible exact stockyardref03_Inside.mono _ _ _)
      | (with_reducible exact LeO.refl _)
      | (with_reducible exact LeO.none _)
      | (with_reducible refine LeO.ite ?_ ?_)
      | (with_reducible refine LeO.bind ?_ (fun _ => ?_))
      | exact ih0 _ _ _ _ _
      | exact ih1 _ _ _ _ _ _
      | exact ih2 _ _ _ _ _ _ _ _
      | exact ih3 _ _ _ _ _ _ _ _ _ _ _
      | exact ih4 _ _ _ _ _ _
      | exact ih5 _ _ _ _ _ _ _ _
      | exact ih6 _ _ _ _ _ _ _ _ _ _ _
      | exact stockyardref03_Check.mono _ _ _
      | exact stockyardref03_Inside.mono _ _ _
      | exact LeO.none _
      | refine LeO.ite ?_ ?_
      | refine LeO.bind ?_ (fun _ => ?_)
    · intro y0 y1 y2 y3 y4 y5 y6 y7
      unfold stockyardref03_Meet.l100
      repeat' first
      | (with_reducible exact ih0 _ _ _ _ _)
      | (with_reducible exact ih1 _ _ _ _ _ _)
      | (with_reducible exact ih2 _ _ _ _ _ _ _ _)
      | (with_reducible exact ih3 _ _ _ _ _ _ _ _ _ _ _)
      | (with_reducible exact ih4 _ _ _ _ _ _)
      | (with_reducible exact ih5 _ _ _ _ _ _ _ _)
      | (with_reducible exact ih6 _ _ _ _ _ _ _ _ _ _ _)
      | (with_reducible exact stockyardref03_Check.mono _ _ _)
      | (with_reducible exact stockyardref03_Inside.mono _ _ _)
      | (with_reducible exact LeO.refl _)
      | (with_reducible exact LeO.none _)
      | (with_reducible refine LeO.ite ?_ ?_)
      | (with_reducible refine LeO.bind ?_ (fun _ => ?_))
      | exact ih0 _ _ _ _ _
      | exact ih1 _ _ _ _ _ _
      | exact ih2 _ _ _ _ _ _ _ _
      | exact ih3 _ _ _ _ _ _ _ _ _ _ _
      | exact ih4 _ _ _ _ _ _
      | exact ih5 _ _ _ _ _ _ _ _
      | exact ih6 _ _ _ _ _ _ _ _ _ _ _
      | exact stockyardref03_Check.mono _ _ _
      | exact stockyardref03_Inside.mono _ _ _
      | exact LeO.none _
      | refine LeO.ite ?_ ?_
      | refine LeO.bind ?_ (fun _ => ?_)
    · intro y0 y1 y2 y3 y4 y5 y6 y7 y8 y9 y10
      unfold stockyardref03_Meet.j6
      repeat' first
      | (with_reducible exact ih0 _ _ _ _ _)
      | (with_reducible exact ih1 _ _ _ _ _ _)
      | (with_reducible exact ih2 _ _ _ _ _ _ _ _)
      | (with_reducible exact ih3 _ _ _ _ _ _ _ _ _ _ _)
      | (with_reducible exact ih4 _ _ _ _ _ _)
      | (with_reducible exact ih5 _ _ _ _ _ _ _ _)
      | (with_reducible exact ih6 _ _ _ _ _ _ _ _ _ _ _)
      | (with_reducible exact stockyardref03_Check.mono _ _ _)
      | (with_reducible exact stockyardref03_Inside.mono _ _ _)
      | (with_reducible exact LeO.refl _)
      | (with_reducible exact LeO.none _)
      | (with_reducible refine LeO.ite ?_ ?_)
      | (with_reducible refine LeO.bind ?_ (fun _ => ?_))
      | exact ih0 _ _ _ _ _
      | exact ih1 _ _ _ _ _ _
      | exact ih2 _ _ _ _ _ _ _ _
      | exact ih3 _ _ _ _ _ _ _ _ _ _ _
      | exact ih4 _ _ _ _ _ _
      | exact ih5 _ _ _ _ _ _ _ _
      | exact ih6 _ _ _ _ _ _ _ _ _ _ _
      | exact stockyardref03_Check.mono _ _ _
      | exact stockyardref03_Inside.mono _ _ _
      | exact LeO.none _
      | refine LeO.ite ?_ ?_
      | refine LeO.bind ?_ (fun _ => ?_)
theorem stockyardref03_Meet.mono : ∀ a0 a1 a2 a3 k, LeO (stockyardref03_Meet.f k a0 a1 a2 a3) (stockyardref03_Meet.f (k + 1) a0 a1 a2 a3) := by
  intro a0 a1 a2 a3 k
  obtain ⟨ih0, ih1, ih2, ih3, ih4, ih5, ih6⟩ := stockyardref03_Meet.mono_l k
  unfold stockyardref03_Meet.f
  repeat' first
      | (with_reducible exact ih0 _ _ _ _ _)
      | (with_reducible exact ih1 _ _ _ _ _ _)
      | (with_reducible exact ih2 _ _ _ _ _ _ _ _)
      | (with_reducible exact ih3 _ _ _ _ _ _ _ _ _ _ _)
      | (with_reducible exact ih4 _ _ _ _ _ _)
      | (with_reducible exact ih5 _ _ _ _ _ _ _ _)
      | (with_reducible exact ih6 _ _ _ _ _ _ _ _ _ _ _)
      | (with_reducible exact stockyardref03_Check.mono _ _ _)
      | (with_reducible exact stockyardref03_Inside.mono _ _ _)
      | (with_reducible exact LeO.refl _)
      | (with_reducible exact LeO.none _)
      | (with_reducible refine LeO.ite ?_ ?_)
      | (with_reducible refine LeO.bind ?_ (fun _ => ?_))
      | exact ih0 _ _ _ _ _
      | exact ih1 _ _ _ _ _ _
      | exact ih2 _ _ _ _ _ _ _ _
      | exact ih3 _ _ _ _ _ _ _ _ _ _ _
      | exact ih4 _ _ _ _ _ _
      | exact ih5 _ _ _ _ _ _ _ _
      | exact ih6 _ _ _ _ _ _ _ _ _ _ _
      | exact stockyardref03_Check.mono _ _ _
      | exact stockyardref03_Inside.mono _ _ _
      | exact LeO.none _
      | refine LeO.ite ?_ ?_
      | refine LeO.bind ?_ (fun _ => ?_)
def stockyardref03_Meet.T16 : Bool × List (List Nat × List Nat) := (true, [([], []), ([0], [0]), ([], []), ([2], [2]), ([], []), ([3, 4], [3, 4]), ([5], [5]), ([6], [6]), ([1, 7], [1, 7]), ([0, 1, 2, 3, 4, 5, 6, 7, 8], []), ([9, 8, 8, 0, 1, 2, 3, 4, 5, 6, 7, 8], [8, 9])])
def stockyardref03_Meet.B16 : List Nat := [0, 1, 0, 4, 0, 28, 60, 124, 255, 511, 1023]
theorem stockyardref03_Meet.tab16 : rtab .any (opsOf Tryd.f15 16) = stockyardref03_Meet.T16 := by kernel_rfl
theorem stockyardref03_Meet.bits16 : waitsOk stockyardref03_Meet.T16.2 stockyardref03_Meet.B16 = true := by kernel_rfl
set_option maxHeartbeats 8000000 in
set_option maxRecDepth 100000 in
theorem stockyardref03_Meet.calls (k : Nat) (A0_0 : Option Addr) (c0_0 : Nat) (l0_0 : List ByteArray) (a0_1 : Bool) (A1_0 : Option Addr) (c1_0 : Nat) (l1_0 : List ByteArray) (a1_1 : Bool) (r1 : List ByteArray) (r2 : Bool) (r3 : Bool) (w : World) (hr0_0 : Kd.C Kd.string w A0_0 l0_0.length l0_0) (hc0_0 : l0_0.length ≤ c0_0) (hr1_0 : Kd.C Kd.string w A1_0 l1_0.length l1_0) (hc1_0 : l1_0.length ≤ c1_0) (h : stockyardref03_Meet.f k l0_0 a0_1 l1_0 a1_1 = some (r1, r2, r3)) :
    Calls Tryd.prog 15 #[.agg #[.slice A0_0 l0_0.length c0_0, .bool a0_1], .agg #[.slice A1_0 l1_0.length c1_0, .bool a1_1]] w fun e w' => ∃ v0_ : Value, e = .returned (.tuple #[.agg #[v0_, .bool r2], .bool r3]) ∧ Kd.R Kd.string 9 w' w.heap.size (fun _ => True) v0_ r1 ∧ Below w.heap.size w w' := by
  have hu24 := Tryd.underlying24
  have HR0_0 := Aside0.mk hr0_0
  have HC0_0 := Aside0.mk hc0_0
  clear hr0_0 hc0_0
  have HR1_0 := Aside0.mk hr1_0
  have HC1_0 := Aside0.mk hc1_0
  clear hr1_0 hc1_0
  have HB := Aside0.mk (Below.refl w.heap.size w)
  have H : ((stockyardref03_Check.f k l0_0 a0_1).bind fun t263 => (if t263 = 0 then ((stockyardref03_Check.f k l1_0 a1_1).bind fun t264 => (stockyardref03_Meet.j0 k (t264 != 0) l0_0 a0_1 l1_0 a1_1)) else (stockyardref03_Meet.j0 k true l0_0 a0_1 l1_0 a1_1))) = some (r1, r2, r3) := h
  clear h
  have HC3 := Aside0.mk H
  clear H
  go_enter Tryd.func15, Tryd.ntmps15
  go_upto_region 1 with (first | ((with_reducible refine gate_dst (N := 2) rfl ?_); (try (refine gate_guard (by rfl) ?_; dsimp only)); refine box_event ?hg (N := 2) ?hd (cs := #[.slice A0_0 l0_0.length c0_0, .bool a0_1]) (t := 24) ?hr ?_; (case hd => rfl); (case hg => rfl); (case hr => first | (go_simp; done) | (go_simp; rfl)); intro gb260 hg w4 hbox hb; have n0_ := Aside0.mk (below_step hb_c hb); have n1_ := Aside0.mk (hbox); have n2_ := Aside0.mk ((by rw [hg]; exact (below_size hb_c) : w.heap.size ≤ gb260)); have n3_ := Aside0.mk ((by rw [hg]; exact (below_size hb_c) : w.heap.size ≤ gb260)); clear HB; have HB := n0_; have BK260 := n1_; have GW260 := n2_; have GE260 := n3_; clear n0_ n1_ n2_ n3_; clear hb hbox hg) | ((with_reducible refine gate_dst (N := 3) rfl ?_); (try (refine gate_guard (by rfl) ?_; dsimp only)); refine box_event ?hg (N := 3) ?hd (cs := #[.slice A1_0 l1_0.length c1_0, .bool a1_1]) (t := 24) ?hr ?_; (case hd => rfl); (case hg => rfl); (case hr => first | (go_simp; done) | (go_simp; rfl)); intro gb261 hg w5 hbox hb; have n0_ := Aside0.mk (blk_below (g := gb260) (o := .cells #[.slice A0_0 l0_0.length c0_0, .bool a0_1] 24 (0, 0)) bk_c hb); have n1_ := Aside0.mk (below_step hb_c hb); have n2_ := Aside0.mk (hbox); have n3_ := Aside0.mk ((by rw [hg]; exact (below_size hb_c) : w.heap.size ≤ gb261)); have n4_ := Aside0.mk ((by rw [hg]; exact (below_size hb_c) : w.heap.size ≤ gb261)); have n5_ := Aside0.mk ((by rw [hg]; exact Nat.ne_of_lt (blk_lt (g := gb260) (o := .cells #[.slice A0_0 l0_0.length c0_0, .bool a0_1] 24 (0, 0)) bk_c) : gb260 ≠ gb261)); have n6_ := Aside0.mk ((by rw [hg]; exact Nat.ne_of_gt (blk_lt (g := gb260) (o := .cells #[.slice A0_0 l0_0.length c0_0, .bool a0_1] 24 (0, 0)) bk_c) : gb261 ≠ gb260)); clear BK260; clear HB; have BK260 := n0_; have HB := n1_; have BK261 := n2_; have GW261 := n3_; have GE261 := n4_; have NB260_261 := n5_; have NB261_260 := n6_; clear n0_ n1_ n2_ n3_ n4_ n5_ n6_; clear hb hbox hg) | ((with_reducible refine gate_dst (N := 4) rfl ?_); (try (refine gate_guard (by rfl) ?_; dsimp only)); refine box_event ?hg (N := 4) ?hd (cs := #[.slice none 0 0, .bool false]) (t := 24) ?hr ?_; (case hd => rfl); (case hg => rfl); (case hr => first | (go_simp; done) | (go_simp; rfl)); intro gb262 hg w6 hbox hb; have n0_ := Aside0.mk (blk_below (g := gb260) (o := .cells #[.slice A0_0 l0_0.length c0_0, .bool a0_1] 24 (0, 0)) bk_c hb); have n1_ := Aside0.mk (blk_below (g := gb261) (o := .cells #[.slice A1_0 l1_0.length c1_0, .bool a1_1] 24 (0, 0)) bk_c hb); have n2_ := Aside0.mk (below_step hb_c hb); have n3_ := Aside0.mk (hbox); have n4_ := Aside0.mk ((by rw [hg]; exact (below_size hb_c) : w.heap.size ≤ gb262)); have n5_ := Aside0.mk ((by rw [hg]; exact (below_size hb_c) : w.heap.size ≤ gb262)); have n6_ := Aside0.mk ((by rw [hg]; exact Nat.ne_of_lt (blk_lt (g := gb260) (o := .cells #[.slice A0_0 l0_0.length c0_0, .bool a0_1] 24 (0, 0)) bk_c) : gb260 ≠ gb262)); have n7_ := Aside0.mk ((by rw [hg]; exact Nat.ne_of_gt (blk_lt (g := gb260) (o := .cells #[.slice A0_0 l0_0.length c0_0, .bool a0_1] 24 (0, 0)) bk_c) : gb262 ≠ gb260)); have n8_ := Aside0.mk ((by rw [hg]; exact Nat.ne_of_lt (blk_lt (g := gb261) (o := .cells #[.slice A1_0 l1_0.length c1_0, .bool a1_1] 24 (0, 0)) bk_c) : gb261 ≠ gb262)); have n9_ := Aside0.mk ((by rw [hg]; exact Nat.ne_of_gt (blk_lt (g := gb261) (o := .cells #[.slice A1_0 l1_0.length c1_0, .bool a1_1] 24 (0, 0)) bk_c) : gb262 ≠ gb261)); clear BK260; clear BK261; clear HB; have BK260 := n0_; have BK261 := n1_; have HB := n2_; have BK262 := n3_; have GW262 := n4_; have GE262 := n5_; have NB260_262 := n6_; have NB262_260 := n7_; have NB261_262 := n8_; have NB262_261 := n9_; clear n0_ n1_ n2_ n3_ n4_ n5_ n6_ n7_ n8_ n9_; clear hb hbox hg))
  (try simp only [Act.put, List.setIfInBounds_toArray, List.set_cons_zero, List.set_cons_succ])
  go_cut [17] (fun v17 wc => ∃ (kq : Nat) (x17_2 : Bool), v17 = .bool x17_2 ∧ Aside0 (stockyardref03_Meet.j0 kq x17_2 l0_0 a0_1 l1_0 a1_1 = some (r1, r2, r3)) ∧ Aside0 (kq ≤ k) ∧ Aside0 (wc.heap[gb260]? = some (.cells #[(.slice A0_0 l0_0.length c0_0), .bool a0_1] 24 (0, 0))) ∧ Aside0 (wc.heap[gb261]? = some (.cells #[(.slice A1_0 l1_0.length c1_0), .bool a1_1] 24 (0, 0))) ∧ Aside0 (wc.heap[gb262]? = some (.cells #[(.slice none 0 0), .bool false] 24 (0, 0))) ∧ Aside0 (Below w.heap.size w wc))
  case first =>
    have H := HC3.out
    clear HC3
    replace H := Option.bind_eq_some_iff.mp H
    obtain ⟨t263, A70, H⟩ := H
    replace H : (if t263 = 0 then ((stockyardref03_Check.f k l1_0 a1_1).bind fun t264 => (stockyardref03_Meet.j0 k (t264 != 0) l0_0 a0_1 l1_0 a1_1)) else (stockyardref03_Meet.j0 k true l0_0 a0_1 l1_0 a1_1)) = some (r1, r2, r3) := H
    have A7 := Aside0.mk A70
    clear A70
    by_cases c8 : t263 = 0
    · rw [if_pos c8] at H
      have c8b0 : (t263 == 0) = true := beq_iff_eq.mpr c8
      have c8b1 : (t263 != 0) = false := bne_eq_false_iff_eq.mpr c8
      clear c8
      (first | rw [c8b0] | (simp only [i64_w, i32_w]; rw [c8b0]) | skip)
      replace H := Option.bind_eq_some_iff.mp H
      obtain ⟨t264, A90, H⟩ := H
      replace H : (stockyardref03_Meet.j0 k (t264 != 0) l0_0 a0_1 l1_0 a1_1) = some (r1, r2, r3) := H
      have A9 := Aside0.mk A90
      clear A90
      have H' := Aside0.mk H
      clear H
      have hnb10 := NB260_261.out
      have hnc10 := NB261_260.out
      have hnb11 := NB260_262.out
      have hnc11 := NB262_260.out
      have hcz12_0 : w6.cell? ⟨gb260, 0, none⟩ = some (.slice A0_0 l0_0.length c0_0) := (blk_cell BK260.out 0).trans rfl
      have hcz12_1 : w6.cell? ⟨gb260, 1, none⟩ = some (.bool a0_1) := (blk_cell BK260.out 1).trans rfl
      have hfz12_0 := blk_frozen BK260.out 0
      have hfz12_1 := blk_frozen BK260.out 1
      go_wp2_with (first | ((with_reducible refine gate_callee (f := 29) rfl ?_); refine goesL_ (some 11) rfl rfl Tryd.func29 (by kernel_rfl) rfl #[.agg #[.slice A0_0 l0_0.length c0_0, .bool a0_1]] rfl (by (try simp only [List.map_toArray, List.map_cons, List.map_nil]); first | done | rfl | (simp only [List.length_drop, List.length_take]; rfl)) ?_; (with_reducible refine (stockyardref03_Check.calls k _ _ l0_0 a0_1 t263 _ ?side1 ?side2 A7.out).mono ?_); (case side1 => repeat (first | exact (Kd.C_below HR0_0.out HB.out) | (with_reducible refine Kd.C_alloc ?_ _) | (with_reducible refine Kd.C_drewN ?_ _) | (with_reducible refine Kd.C_drew ?_))); (case side2 => exact HC0_0.out); rintro e w13 ⟨rfl, hb⟩; refine ⟨_, rfl, ?_⟩; have n0_ := Aside0.mk (blk_below (g := gb260) (o := .cells #[.slice A0_0 l0_0.length c0_0, .bool a0_1] 24 (0, 0)) bk_c hb); have n1_ := Aside0.mk (blk_below (g := gb261) (o := .cells #[.slice A1_0 l1_0.length c1_0, .bool a1_1] 24 (0, 0)) bk_c hb); have n2_ := Aside0.mk (blk_below (g := gb262) (o := .cells #[.slice none 0 0, .bool false] 24 (0, 0)) bk_c hb); have n3_ := Aside0.mk (below_step hb_c hb); clear BK260; clear BK261; clear BK262; clear HB; have BK260 := n0_; have BK261 := n1_; have BK262 := n2_; have HB := n3_; clear n0_ n1_ n2_ n3_; (try clear hb); (try clear hb2); (try clear hk); (try clear hi); have hnb14 := NB261_262.out; have hnc14 := NB262_261.out; have hcz15_0 : w13.cell? ⟨gb261, 0, none⟩ = some (.slice A1_0 l1_0.length c1_0) := (blk_cell BK261.out 0).trans rfl; have hcz15_1 : w13.cell? ⟨gb261, 1, none⟩ = some (.bool a1_1) := (blk_cell BK261.out 1).trans rfl; have hfz15_0 := blk_frozen BK261.out 0; have hfz15_1 := blk_frozen BK261.out 1) | (go_at_call 29; (with_reducible refine (stockyardref03_Check.calls k _ _ l1_0 a1_1 t264 _ ?side1 ?side2 A9.out).mono ?_); (case side1 => repeat (first | exact (Kd.C_below HR1_0.out HB.out) | (with_reducible refine Kd.C_alloc ?_ _) | (with_reducible refine Kd.C_drewN ?_ _) | (with_reducible refine Kd.C_drew ?_))); (case side2 => exact HC1_0.out); rintro e w16 ⟨rfl, hb⟩; have n0_ := Aside0.mk (blk_below (g := gb260) (o := .cells #[.slice A0_0 l0_0.length c0_0, .bool a0_1] 24 (0, 0)) bk_c hb); have n1_ := Aside0.mk (blk_below (g := gb261) (o := .cells #[.slice A1_0 l1_0.length c1_0, .bool a1_1] 24 (0, 0)) bk_c hb); have n2_ := Aside0.mk (blk_below (g := gb262) (o := .cells #[.slice none 0 0, .bool false] 24 (0, 0)) bk_c hb); have n3_ := Aside0.mk (below_step hb_c hb); clear BK260; clear BK261; clear BK262; clear HB; have BK260 := n0_; have BK261 := n1_; have BK262 := n2_; have HB := n3_; clear n0_ n1_ n2_ n3_; (try clear hb); (try clear hb2); (try clear hk); (try clear hi)))
      go_meet
      case rel => exact ⟨_, ((t264 != 0)), (by first | rfl | (simp; done) | (simp [*]; done)), H', ⟨by first | omega | exact Nat.le_refl _⟩, ⟨bk_c⟩, ⟨bk_c⟩, ⟨bk_c⟩, ⟨hb_c⟩⟩
    · rw [if_neg c8] at H
      have c8b0 : (t263 == 0) = false := beq_eq_false_iff_ne.mpr c8
      have c8b1 : (t263 != 0) = true := bne_iff_ne.mpr c8
      (first | rw [c8b0] | (simp only [i64_w, i32_w]; rw [c8b0]) | skip)
      have H' := Aside0.mk H
      clear H
      have hnb17 := NB260_261.out
      have hnc17 := NB261_260.out
      have hnb18 := NB260_262.out
      have hnc18 := NB262_260.out
      have hcz19_0 : w6.cell? ⟨gb260, 0, none⟩ = some (.slice A0_0 l0_0.length c0_0) := (blk_cell BK260.out 0).trans rfl
      have hcz19_1 : w6.cell? ⟨gb260, 1, none⟩ = some (.bool a0_1) := (blk_cell BK260.out 1).trans rfl
      have hfz19_0 := blk_frozen BK260.out 0
      have hfz19_1 := blk_frozen BK260.out 1
      go_wp2_with (first | ((with_reducible refine gate_callee (f := 29) rfl ?_); refine goesL_ (some 11) rfl rfl Tryd.func29 (by kernel_rfl) rfl #[.agg #[.slice A0_0 l0_0.length c0_0, .bool a0_1]] rfl (by (try simp only [List.map_toArray, List.map_cons, List.map_nil]); first | done | rfl | (simp only [List.length_drop, List.length_take]; rfl)) ?_; (with_reducible refine (stockyardref03_Check.calls k _ _ l0_0 a0_1 t263 _ ?side1 ?side2 A7.out).mono ?_); (case side1 => repeat (first | exact (Kd.C_below HR0_0.out HB.out) | (with_reducible refine Kd.C_alloc ?_ _) | (with_reducible refine Kd.C_drewN ?_ _) | (with_reducible refine Kd.C_drew ?_))); (case side2 => exact HC0_0.out); rintro e w20 ⟨rfl, hb⟩; refine ⟨_, rfl, ?_⟩; have n0_ := Aside0.mk (blk_below (g := gb260) (o := .cells #[.slice A0_0 l0_0.length c0_0, .bool a0_1] 24 (0, 0)) bk_c hb); have n1_ := Aside0.mk (blk_below (g := gb261) (o := .cells #[.slice A1_0 l1_0.length c1_0, .bool a1_1] 24 (0, 0)) bk_c hb); have n2_ := Aside0.mk (blk_below (g := gb262) (o := .cells #[.slice none 0 0, .bool false] 24 (0, 0)) bk_c hb); have n3_ := Aside0.mk (below_step hb_c hb); clear BK260; clear BK261; clear BK262; clear HB; have BK260 := n0_; have BK261 := n1_; have BK262 := n2_; have HB := n3_; clear n0_ n1_ n2_ n3_; (try clear hb); (try clear hb2); (try clear hk); (try clear hi)))
      go_meet
      case rel => exact ⟨_, (true), (by first | rfl | (simp; done) | (simp [*]; done)), H', ⟨by first | omega | exact Nat.le_refl _⟩, ⟨bk_c⟩, ⟨bk_c⟩, ⟨bk_c⟩, ⟨hb_c⟩⟩
  case rest =>
    clear HC3; (try clear c1); (try clear c2); (try clear p2); (try clear c8); (try clear c8b0); (try clear c8b1); (try clear c10); (try clear c11); (try clear c14); (try clear c15); (try clear c17); (try clear c18); (try clear hcz12_0); (try clear hcz12_1); (try clear hcz15_0); (try clear hcz15_1); (try clear hcz19_0); (try clear hcz19_1); (try clear hfz12_0); (try clear hfz12_1); (try clear hfz15_0); (try clear hfz15_1); (try clear hfz19_0); (try clear hfz19_1)
    try clear BK260
    try clear BK261
    try clear BK262
    try clear HB
    obtain ⟨kq, x17_2, rfl, HA, HJ2, BK260, BK261, BK262, HB⟩ := hcut
    cases kq with
    | zero => exact absurd HA.out (by simp [stockyardref03_Meet.j0])
    | succ kj2 =>
      have H := HA.out
      clear HA
      simp only [stockyardref03_Meet.j0] at H
      by_cases c21 : x17_2 = true
      · subst c21
        have H1 : (some (([] : List ByteArray), false, false)) = some (r1, r2, r3) := by rw [if_pos rfl] at H; exact H
        clear H
        have H := H1
        clear H1
        simp only [Option.some.injEq, Prod.mk.injEq] at H
        obtain ⟨rfl, rfl, rfl⟩ := H
        have hnb22 := NB262_260.out
        have hnc22 := NB260_262.out
        have hnb23 := NB262_261.out
        have hnc23 := NB261_262.out
        have hcz24_0 : wc.cell? ⟨gb262, 0, none⟩ = some (.slice none 0 0) := (blk_cell BK262.out 0).trans rfl
        have hcz24_1 : wc.cell? ⟨gb262, 1, none⟩ = some (.bool false) := (blk_cell BK262.out 1).trans rfl
        have hfz24_0 := blk_frozen BK262.out 0
        have hfz24_1 := blk_frozen BK262.out 1
        go_wp2
        refine bodyPost_ret (results_ct rfl _ _ gb262 24 #[.slice none 0 0, .bool false] (0, 0) _ rfl (by (with_reducible repeat (first | refine blk_drewN ?_ _ | refine blk_drew ?_ | refine blk_alloc ?_ _)); refine blk_put (cs := #[.slice none 0 0, .bool false]) ?_ 1 _ rfl; (with_reducible repeat (first | refine blk_drewN ?_ _ | refine blk_drew ?_ | refine blk_alloc ?_ _)); refine blk_put (cs := #[.slice none 0 0, .bool false]) ?_ 0 _ rfl; (with_reducible repeat (first | refine blk_drewN ?_ _ | refine blk_drew ?_ | refine blk_alloc ?_ _)); exact BK262.out) Tryd.underlying24 rfl (by kernel_rfl)) rfl ?_
        exact ⟨_, by first | rfl | (simp [errW_none, errW_some] <;> rfl) | (simp [*, errW_none, errW_some] <;> rfl), by first | exact Kd.R_nil _ _ _ _ _ | exact Kd.N_nil _ _ _ _ _ | exact Kd.V_nil _ _ _ _ _ | exact Kd.Q_nil _ _ _ _ _ | exact Kd.S_nil _ _ _ _ _, hb_c⟩
      · replace c21 := Bool.eq_false_iff.mpr c21
        subst c21
        have H1 : (if (l0_0.length : Int) < (l1_0.length : Int) then (if (l1_0.length : Int) > (l0_0.length : Int) then (if a0_1 = true then (if (l1_0.length : Int) = (l0_0.length : Int) then (stockyardref03_Meet.j1 kj2 (l0_0.length : Int) (a1_1 != a0_1) l1_0 a1_1 l0_0 a0_1) else (stockyardref03_Meet.j1 kj2 (l0_0.length : Int) false l1_0 a1_1 l0_0 a0_1)) else (stockyardref03_Meet.j1 kj2 (l0_0.length : Int) true l1_0 a1_1 l0_0 a0_1)) else (if (l1_0.length : Int) = (l0_0.length : Int) then (stockyardref03_Meet.j1 kj2 (l0_0.length : Int) (a1_1 != a0_1) l1_0 a1_1 l0_0 a0_1) else (stockyardref03_Meet.j1 kj2 (l0_0.length : Int) false l1_0 a1_1 l0_0 a0_1))) else (if (l0_0.length : Int) > (l1_0.length : Int) then (if a1_1 = true then (if (l0_0.length : Int) = (l1_0.length : Int) then (stockyardref03_Meet.j4 kj2 (l1_0.length : Int) (a0_1 != a1_1) l0_0 a0_1 l1_0 a1_1) else (stockyardref03_Meet.j4 kj2 (l1_0.length : Int) false l0_0 a0_1 l1_0 a1_1)) else (stockyardref03_Meet.j4 kj2 (l1_0.length : Int) true l0_0 a0_1 l1_0 a1_1)) else (if (l0_0.length : Int) = (l1_0.length : Int) then (stockyardref03_Meet.j4 kj2 (l1_0.length : Int) (a0_1 != a1_1) l0_0 a0_1 l1_0 a1_1) else (stockyardref03_Meet.j4 kj2 (l1_0.length : Int) false l0_0 a0_1 l1_0 a1_1)))) = some (r1, r2, r3) := by rw [if_neg (show ¬ (false = true) by decide)] at H; exact H
        clear H
        have H := H1
        clear H1
        by_cases c25 : (l0_0.length : Int) < (l1_0.length : Int)
        · rw [if_pos c25] at H
          have c25b0 : decide ((l0_0.length : Int) < (l1_0.length : Int)) = true := decide_eq_true c25
          have c25b1 : decide (l0_0.length < l1_0.length) = true := decide_eq_true (Int.ofNat_lt.mp c25)
          clear c25
          have HC26 := Aside0.mk H
          clear H
          have hnb27 := NB260_261.out
          have hnc27 := NB261_260.out
          have hnb28 := NB260_262.out
          have hnc28 := NB262_260.out
          have hcz29_0 : wc.cell? ⟨gb260, 0, none⟩ = some (.slice A0_0 l0_0.length c0_0) := (blk_cell BK260.out 0).trans rfl
          have hcz29_1 : wc.cell? ⟨gb260, 1, none⟩ = some (.bool a0_1) := (blk_cell BK260.out 1).trans rfl
          have hfz29_0 := blk_frozen BK260.out 0
          have hfz29_1 := blk_frozen BK260.out 1
          have hnb30 := NB261_262.out
          have hnc30 := NB262_261.out
          have hcz31_0 : wc.cell? ⟨gb261, 0, none⟩ = some (.slice A1_0 l1_0.length c1_0) := (blk_cell BK261.out 0).trans rfl
          have hcz31_1 : wc.cell? ⟨gb261, 1, none⟩ = some (.bool a1_1) := (blk_cell BK261.out 1).trans rfl
          have hfz31_0 := blk_frozen BK261.out 0
          have hfz31_1 := blk_frozen BK261.out 1
          go_upto_region 6 with (fail)
          go_cut [54] (fun v54 wc => ∃ (kq : Nat) (x54_25 : Bool), v54 = .bool x54_25 ∧ Aside0 (stockyardref03_Meet.j1 kq (l0_0.length : Int) x54_25 l1_0 a1_1 l0_0 a0_1 = some (r1, r2, r3)) ∧ Aside0 (kq ≤ kj2) ∧ Aside0 (wc.heap[gb260]? = some (.cells #[(.slice A1_0 l1_0.length c1_0), .bool a1_1] 24 (0, 0))) ∧ Aside0 (wc.heap[gb261]? = some (.cells #[(.slice A0_0 l0_0.length c0_0), .bool a0_1] 24 (0, 0))) ∧ Aside0 (wc.heap[gb262]? = some (.cells #[(.slice none 0 0), .bool false] 24 (0, 0))) ∧ Aside0 (Below w.heap.size w wc))
          case first =>
            have H := HC26.out
            clear HC26
            by_cases c32 : (l1_0.length : Int) > (l0_0.length : Int)
            · rw [if_pos c32] at H
              have c32b0 : decide ((l0_0.length : Int) < (l1_0.length : Int)) = true := decide_eq_true c32
              have c32b1 : decide (l0_0.length < l1_0.length) = true := decide_eq_true (Int.ofNat_lt.mp c32)
              clear c32
              (first | rw [c32b0] | (simp only [i64_w, i32_w]; rw [c32b0]) | skip)
              by_cases c33 : a0_1 = true
              · subst c33
                have H1 : (if (l1_0.length : Int) = (l0_0.length : Int) then (stockyardref03_Meet.j1 kj2 (l0_0.length : Int) (a1_1 != true) l1_0 a1_1 l0_0 true) else (stockyardref03_Meet.j1 kj2 (l0_0.length : Int) false l1_0 a1_1 l0_0 true)) = some (r1, r2, r3) := by rw [if_pos rfl] at H; exact H
                clear H
                have H := H1
                clear H1
                by_cases c34 : (l1_0.length : Int) = (l0_0.length : Int)
                · rw [if_pos c34] at H
                  have c34b0 : ((l1_0.length : Int) == (l0_0.length : Int)) = true := beq_iff_eq.mpr c34
                  have c34b1 : ((l1_0.length : Int) != (l0_0.length : Int)) = false := bne_eq_false_iff_eq.mpr c34
                  have c34b2 : (l1_0.length == l0_0.length) = true := by first | simpa using c34 | (simp at c34 ⊢; omega)
                  clear c34
                  have H' := Aside0.mk H
                  clear H
                  have hnb35 := NB260_261.out
                  have hnc35 := NB261_260.out
                  have hnb36 := NB260_262.out
                  have hnc36 := NB262_260.out
                  have hcz37_0 : wc.cell? ⟨gb260, 0, none⟩ = some (.slice A0_0 l0_0.length c0_0) := (blk_cell BK260.out 0).trans rfl
                  have hcz37_1 : wc.cell? ⟨gb260, 1, none⟩ = some (.bool true) := (blk_cell BK260.out 1).trans rfl
                  have hfz37_0 := blk_frozen BK260.out 0
                  have hfz37_1 := blk_frozen BK260.out 1
                  have hnb38 := NB261_262.out
                  have hnc38 := NB262_261.out
                  have hcz39_0 : wc.cell? ⟨gb261, 0, none⟩ = some (.slice A1_0 l1_0.length c1_0) := (blk_cell BK261.out 0).trans rfl
                  have hcz39_1 : wc.cell? ⟨gb261, 1, none⟩ = some (.bool a1_1) := (blk_cell BK261.out 1).trans rfl
                  have hfz39_0 := blk_frozen BK261.out 0
                  have hfz39_1 := blk_frozen BK261.out 1
                  go_wp2
                  go_meet
                  case rel => exact ⟨_, ((a1_1 != true)), (by first | rfl | (simp; done) | (simp [*]; done)), H', ⟨by have := HJ2.out; first | omega | exact Nat.le_refl _⟩, ⟨by (with_reducible repeat (first | refine blk_drewN ?_ _ | refine blk_drew ?_ | refine blk_alloc ?_ _)); refine blk_far ?_ NB260_261.out _; (with_reducible repeat (first | refine blk_drewN ?_ _ | refine blk_drew ?_ | refine blk_alloc ?_ _)); refine blk_far ?_ NB260_261.out _; (with_reducible repeat (first | refine blk_drewN ?_ _ | refine blk_drew ?_ | refine blk_alloc ?_ _)); refine blk_put (cs := #[.slice A1_0 l1_0.length c1_0, .bool true]) ?_ 1 _ rfl; (with_reducible repeat (first | refine blk_drewN ?_ _ | refine blk_drew ?_ | refine blk_alloc ?_ _)); refine blk_put (cs := #[.slice A0_0 l0_0.length c0_0, .bool true]) ?_ 0 _ rfl; (with_reducible repeat (first | refine blk_drewN ?_ _ | refine blk_drew ?_ | refine blk_alloc ?_ _)); exact BK260.out⟩, ⟨by (with_reducible repeat (first | refine blk_drewN ?_ _ | refine blk_drew ?_ | refine blk_alloc ?_ _)); refine blk_put (cs := #[.slice A0_0 l0_0.length c0_0, .bool a1_1]) ?_ 1 _ rfl; (with_reducible repeat (first | refine blk_drewN ?_ _ | refine blk_drew ?_ | refine blk_alloc ?_ _)); refine blk_put (cs := #[.slice A1_0 l1_0.length c1_0, .bool a1_1]) ?_ 0 _ rfl; (with_reducible repeat (first | refine blk_drewN ?_ _ | refine blk_drew ?_ | refine blk_alloc ?_ _)); refine blk_far ?_ NB261_260.out _; (with_reducible repeat (first | refine blk_drewN ?_ _ | refine blk_drew ?_ | refine blk_alloc ?_ _)); refine blk_far ?_ NB261_260.out _; (with_reducible repeat (first | refine blk_drewN ?_ _ | refine blk_drew ?_ | refine blk_alloc ?_ _)); exact BK261.out⟩, ⟨by (with_reducible repeat (first | refine blk_drewN ?_ _ | refine blk_drew ?_ | refine blk_alloc ?_ _)); refine blk_far ?_ NB262_261.out _; (with_reducible repeat (first | refine blk_drewN ?_ _ | refine blk_drew ?_ | refine blk_alloc ?_ _)); refine blk_far ?_ NB262_261.out _; (with_reducible repeat (first | refine blk_drewN ?_ _ | refine blk_drew ?_ | refine blk_alloc ?_ _)); refine blk_far ?_ NB262_260.out _; (with_reducible repeat (first | refine blk_drewN ?_ _ | refine blk_drew ?_ | refine blk_alloc ?_ _)); refine blk_far ?_ NB262_260.out _; (with_reducible repeat (first | refine blk_drewN ?_ _ | refine blk_drew ?_ | refine blk_alloc ?_ _)); exact BK262.out⟩, ⟨hb_c⟩⟩
                · rw [if_neg c34] at H
                  have c34b0 : ((l1_0.length : Int) == (l0_0.length : Int)) = false := beq_eq_false_iff_ne.mpr c34
                  have c34b1 : ((l1_0.length : Int) != (l0_0.length : Int)) = true := bne_iff_ne.mpr c34
                  have c34b2 : (l1_0.length == l0_0.length) = false := by first | simpa using c34 | (simp at c34 ⊢; omega)
                  have H' := Aside0.mk H
                  clear H
                  have hnb40 := NB260_261.out
                  have hnc40 := NB261_260.out
                  have hnb41 := NB260_262.out
                  have hnc41 := NB262_260.out
                  have hcz42_0 : wc.cell? ⟨gb260, 0, none⟩ = some (.slice A0_0 l0_0.length c0_0) := (blk_cell BK260.out 0).trans rfl
                  have hcz42_1 : wc.cell? ⟨gb260, 1, none⟩ = some (.bool true) := (blk_cell BK260.out 1).trans rfl
                  have hfz42_0 := blk_frozen BK260.out 0
                  have hfz42_1 := blk_frozen BK260.out 1
                  have hnb43 := NB261_262.out
                  have hnc43 := NB262_261.out
                  have hcz44_0 : wc.cell? ⟨gb261, 0, none⟩ = some (.slice A1_0 l1_0.length c1_0) := (blk_cell BK261.out 0).trans rfl
                  have hcz44_1 : wc.cell? ⟨gb261, 1, none⟩ = some (.bool a1_1) := (blk_cell BK261.out 1).trans rfl
                  have hfz44_0 := blk_frozen BK261.out 0
                  have hfz44_1 := blk_frozen BK261.out 1
                  go_wp2
                  go_meet
                  case rel => exact ⟨_, (false), (by first | rfl | (simp; done) | (simp [*]; done)), H', ⟨by have := HJ2.out; first | omega | exact Nat.le_refl _⟩, ⟨by (with_reducible repeat (first | refine blk_drewN ?_ _ | refine blk_drew ?_ | refine blk_alloc ?_ _)); refine blk_far ?_ NB260_261.out _; (with_reducible repeat (first | refine blk_drewN ?_ _ | refine blk_drew ?_ | refine blk_alloc ?_ _)); refine blk_far ?_ NB260_261.out _; (with_reducible repeat (first | refine blk_drewN ?_ _ | refine blk_drew ?_ | refine blk_alloc ?_ _)); refine blk_put (cs := #[.slice A1_0 l1_0.length c1_0, .bool true]) ?_ 1 _ rfl; (with_reducible repeat (first | refine blk_drewN ?_ _ | refine blk_drew ?_ | refine blk_alloc ?_ _)); refine blk_put (cs := #[.slice A0_0 l0_0.length c0_0, .bool true]) ?_ 0 _ rfl; (with_reducible repeat (first | refine blk_drewN ?_ _ | refine blk_drew ?_ | refine blk_alloc ?_ _)); exact BK260.out⟩, ⟨by (with_reducible repeat (first | refine blk_drewN ?_ _ | refine blk_drew ?_ | refine blk_alloc ?_ _)); refine blk_put (cs := #[.slice A0_0 l0_0.length c0_0, .bool a1_1]) ?_ 1 _ rfl; (with_reducible repeat (first | refine blk_drewN ?_ _ | refine blk_drew ?_ | refine blk_alloc ?_ _)); refine blk_put (cs := #[.slice A1_0 l1_0.length c1_0, .bool a1_1]) ?_ 0 _ rfl; (with_reducible repeat (first | refine blk_drewN ?_ _ | refine blk_drew ?_ | refine blk_alloc ?_ _)); refine blk_far ?_ NB261_260.out _; (with_reducible repeat (first | refine blk_drewN ?_ _ | refine blk_drew ?_ | refine blk_alloc ?_ _)); refine blk_far ?_ NB261_260.out _; (with_reducible repeat (first | refine blk_drewN ?_ _ | refine blk_drew ?_ | refine blk_alloc ?_ _)); exact BK261.out⟩, ⟨by (with_reducible repeat (first | refine blk_drewN ?_ _ | refine blk_drew ?_ | refine blk_alloc ?_ _)); refine blk_far ?_ NB262_261.out _; (with_reducible repeat (first | refine blk_drewN ?_ _ | refine blk_drew ?_ | refine blk_alloc ?_ _)); refine blk_far ?_ NB262_261.out _; (with_reducible repeat (first | refine blk_drewN ?_ _ | refine blk_drew ?_ | refine blk_alloc ?_ _)); refine blk_far ?_ NB262_260.out _; (with_reducible repeat (first | refine blk_drewN ?_ _ | refine blk_drew ?_ | refine blk_alloc ?_ _)); refine blk_far ?_ NB262_260.out _; (with_reducible repeat (first | refine blk_drewN ?_ _ | refine blk_drew ?_ | refine blk_alloc ?_ _)); exact BK262.out⟩, ⟨hb_c⟩⟩
              · replace c33 := Bool.eq_false_iff.mpr c33
                subst c33
                have H1 : (stockyardref03_Meet.j1 kj2 (l0_0.length : Int) true l1_0 a1_1 l0_0 false) = some (r1, r2, r3) := by rw [if_neg (show ¬ (false = true) by decide)] at H; exact H
                clear H
                have H := H1
                clear H1
                have H' := Aside0.mk H
                clear H
                have hnb45 := NB260_261.out
                have hnc45 := NB261_260.out
                have hnb46 := NB260_262.out
                have hnc46 := NB262_260.out
                have hcz47_0 : wc.cell? ⟨gb260, 0, none⟩ = some (.slice A0_0 l0_0.length c0_0) := (blk_cell BK260.out 0).trans rfl
                have hcz47_1 : wc.cell? ⟨gb260, 1, none⟩ = some (.bool false) := (blk_cell BK260.out 1).trans rfl
                have hfz47_0 := blk_frozen BK260.out 0
                have hfz47_1 := blk_frozen BK260.out 1
                have hnb48 := NB261_262.out
                have hnc48 := NB262_261.out
                have hcz49_0 : wc.cell? ⟨gb261, 0, none⟩ = some (.slice A1_0 l1_0.length c1_0) := (blk_cell BK261.out 0).trans rfl
                have hcz49_1 : wc.cell? ⟨gb261, 1, none⟩ = some (.bool a1_1) := (blk_cell BK261.out 1).trans rfl
                have hfz49_0 := blk_frozen BK261.out 0
                have hfz49_1 := blk_frozen BK261.out 1
                go_wp2
                go_meet
                case rel => exact ⟨_, (true), (by first | rfl | (simp; done) | (simp [*]; done)), H', ⟨by have := HJ2.out; first | omega | exact Nat.le_refl _⟩, ⟨by (with_reducible repeat (first | refine blk_drewN ?_ _ | refine blk_drew ?_ | refine blk_alloc ?_ _)); refine blk_far ?_ NB260_261.out _; (with_reducible repeat (first | refine blk_drewN ?_ _ | refine blk_drew ?_ | refine blk_alloc ?_ _)); refine blk_far ?_ NB260_261.out _; (with_reducible repeat (first | refine blk_drewN ?_ _ | refine blk_drew ?_ | refine blk_alloc ?_ _)); refine blk_put (cs := #[.slice A1_0 l1_0.length c1_0, .bool false]) ?_ 1 _ rfl; (with_reducible repeat (first | refine blk_drewN ?_ _ | refine blk_drew ?_ | refine blk_alloc ?_ _)); refine blk_put (cs := #[.slice A0_0 l0_0.length c0_0, .bool false]) ?_ 0 _ rfl; (with_reducible repeat (first | refine blk_drewN ?_ _ | refine blk_drew ?_ | refine blk_alloc ?_ _)); exact BK260.out⟩, ⟨by (with_reducible repeat (first | refine blk_drewN ?_ _ | refine blk_drew ?_ | refine blk_alloc ?_ _)); refine blk_put (cs := #[.slice A0_0 l0_0.length c0_0, .bool a1_1]) ?_ 1 _ rfl; (with_reducible repeat (first | refine blk_drewN ?_ _ | refine blk_drew ?_ | refine blk_alloc ?_ _)); refine blk_put (cs := #[.slice A1_0 l1_0.length c1_0, .bool a1_1]) ?_ 0 _ rfl; (with_reducible repeat (first | refine blk_drewN ?_ _ | refine blk_drew ?_ | refine blk_alloc ?_ _)); refine blk_far ?_ NB261_260.out _; (with_reducible repeat (first | refine blk_drewN ?_ _ | refine blk_drew ?_ | refine blk_alloc ?_ _)); refine blk_far ?_ NB261_260.out _; (with_reducible repeat (first | refine blk_drewN ?_ _ | refine blk_drew ?_ | refine blk_alloc ?_ _)); exact BK261.out⟩, ⟨by (with_reducible repeat (first | refine blk_drewN ?_ _ | refine blk_drew ?_ | refine blk_alloc ?_ _)); refine blk_far ?_ NB262_261.out _; (with_reducible repeat (first | refine blk_drewN ?_ _ | refine blk_drew ?_ | refine blk_alloc ?_ _)); refine blk_far ?_ NB262_261.out _; (with_reducible repeat (first | refine blk_drewN ?_ _ | refine blk_drew ?_ | refine blk_alloc ?_ _)); refine blk_far ?_ NB262_260.out _; (with_reducible repeat (first | refine blk_drewN ?_ _ | refine blk_drew ?_ | refine blk_alloc ?_ _)); refine blk_far ?_ NB262_260.out _; (with_reducible repeat (first | refine blk_drewN ?_ _ | refine blk_drew ?_ | refine blk_alloc ?_ _)); exact BK262.out⟩, ⟨hb_c⟩⟩
            · exact absurd (show (l0_0.length : Int) < (l1_0.length : Int) from (of_decide_eq_true (by first | (with_reducible assumption) | assumption))) c32
          case rest =>
            clear HC26; (try clear c1); (try clear c2); (try clear p2); (try clear c3); (try clear c4); (try clear c5); (try clear c8); (try clear c8b0); (try clear c8b1); (try clear c10); (try clear c11); (try clear c14); (try clear c15); (try clear c17); (try clear c18); (try clear c21); (try clear c22); (try clear c23); (try clear c25); (try clear c25b0); (try clear c25b1); (try clear c27); (try clear c28); (try clear c29); (try clear c30); (try clear c32); (try clear c32b0); (try clear c32b1); (try clear c33); (try clear c34); (try clear c34b0); (try clear c34b1); (try clear c34b2); (try clear c35); (try clear c36); (try clear c38); (try clear c40); (try clear c41); (try clear c43); (try clear c45); (try clear c46); (try clear c48); (try clear c50); (try clear c50b0); (try clear c50b1); (try clear c50b2); (try clear c51); (try clear c52); (try clear c54); (try clear c56); (try clear c57); (try clear hcz12_0); (try clear hcz12_1); (try clear hcz15_0); (try clear hcz15_1); (try clear hcz19_0); (try clear hcz19_1); (try clear hcz24_0); (try clear hcz24_1); (try clear hcz29_0); (try clear hcz29_1); (try clear hcz31_0); (try clear hcz31_1); (try clear hcz37_0); (try clear hcz37_1); (try clear hcz39_0); (try clear hcz39_1); (try clear hcz42_0); (try clear hcz42_1); (try clear hcz44_0); (try clear hcz44_1); (try clear hcz47_0); (try clear hcz47_1); (try clear hcz49_0); (try clear hcz49_1); (try clear hcz53_0); (try clear hcz53_1); (try clear hcz55_0); (try clear hcz55_1); (try clear hcz58_0); (try clear hcz58_1); (try clear hfz12_0); (try clear hfz12_1); (try clear hfz15_0); (try clear hfz15_1); (try clear hfz19_0); (try clear hfz19_1); (try clear hfz24_0); (try clear hfz24_1); (try clear hfz29_0); (try clear hfz29_1); (try clear hfz31_0); (try clear hfz31_1); (try clear hfz37_0); (try clear hfz37_1); (try clear hfz39_0); (try clear hfz39_1); (try clear hfz42_0); (try clear hfz42_1); (try clear hfz44_0); (try clear hfz44_1); (try clear hfz47_0); (try clear hfz47_1); (try clear hfz49_0); (try clear hfz49_1); (try clear hfz53_0); (try clear hfz53_1); (try clear hfz55_0); (try clear hfz55_1); (try clear hfz58_0); (try clear hfz58_1); (try clear p2)
            try clear BK260
            try clear BK261
            try clear BK262
            try clear HB
            obtain ⟨kq, x54_25, rfl, HA, HJ25, BK260, BK261, BK262, HB⟩ := hcut
            cases kq with
            | zero => exact absurd HA.out (by simp [stockyardref03_Meet.j1])
            | succ kj25 =>
              have H := HA.out
              clear HA
              simp only [stockyardref03_Meet.j1] at H
              by_cases c59 : x54_25 = true
              · subst c59
                have H1 : (some (([] : List ByteArray), false, false)) = some (r1, r2, r3) := by rw [if_pos rfl] at H; exact H
                clear H
                have H := H1
                clear H1
                simp only [Option.some.injEq, Prod.mk.injEq] at H
                obtain ⟨rfl, rfl, rfl⟩ := H
                have hnb60 := NB262_260.out
                have hnc60 := NB260_262.out
                have hnb61 := NB262_261.out
                have hnc61 := NB261_262.out
                have hcz62_0 : wc.cell? ⟨gb262, 0, none⟩ = some (.slice none 0 0) := (blk_cell BK262.out 0).trans rfl
                have hcz62_1 : wc.cell? ⟨gb262, 1, none⟩ = some (.bool false) := (blk_cell BK262.out 1).trans rfl
                have hfz62_0 := blk_frozen BK262.out 0
                have hfz62_1 := blk_frozen BK262.out 1
                go_wp2
                refine bodyPost_ret (results_ct rfl _ _ gb262 24 #[.slice none 0 0, .bool false] (0, 0) _ rfl (by (with_reducible repeat (first | refine blk_drewN ?_ _ | refine blk_drew ?_ | refine blk_alloc ?_ _)); refine blk_put (cs := #[.slice none 0 0, .bool false]) ?_ 1 _ rfl; (with_reducible repeat (first | refine blk_drewN ?_ _ | refine blk_drew ?_ | refine blk_alloc ?_ _)); refine blk_put (cs := #[.slice none 0 0, .bool false]) ?_ 0 _ rfl; (with_reducible repeat (first | refine blk_drewN ?_ _ | refine blk_drew ?_ | refine blk_alloc ?_ _)); exact BK262.out) Tryd.underlying24 rfl (by kernel_rfl)) rfl ?_
                exact ⟨_, by first | rfl | (simp [errW_none, errW_some] <;> rfl) | (simp [*, errW_none, errW_some] <;> rfl), by first | exact Kd.R_nil _ _ _ _ _ | exact Kd.N_nil _ _ _ _ _ | exact Kd.V_nil _ _ _ _ _ | exact Kd.Q_nil _ _ _ _ _ | exact Kd.S_nil _ _ _ _ _, hb_c⟩
              · replace c59 := Bool.eq_false_iff.mpr c59
                subst c59
                have H1 : (stockyardref03_Meet.l0 kj25 (l0_0.length : Int) l1_0 (l1_0.length : Int) 0 l0_0 a0_1 ([] : List ByteArray) a1_1) = some (r1, r2, r3) := by rw [if_neg (show ¬ (false = true) by decide)] at H; exact H
                clear H
                have H := H1
                clear H1
                have H' := Aside0.mk H
                clear H
                have hnb63 := NB260_261.out
                have hnc63 := NB261_260.out
                have hnb64 := NB260_262.out
                have hnc64 := NB262_260.out
                have hcz65_0 : wc.cell? ⟨gb260, 0, none⟩ = some (.slice A1_0 l1_0.length c1_0) := (blk_cell BK260.out 0).trans rfl
                have hcz65_1 : wc.cell? ⟨gb260, 1, none⟩ = some (.bool a1_1) := (blk_cell BK260.out 1).trans rfl
                have hfz65_0 := blk_frozen BK260.out 0
                have hfz65_1 := blk_frozen BK260.out 1
                go_wp2_with (first | ((with_reducible refine gate_dst (N := 7) rfl ?_); (try (refine gate_guard (by rfl) ?_; dsimp only)); refine box_event ?hg (N := 7) ?hd (cs := #[.slice none 0 0, .bool false]) (t := 24) ?hr ?_; (case hd => rfl); (case hg => rfl); (case hr => first | (go_simp; done) | (go_simp; rfl)); intro gb265 hg w66 hbox hb; have n0_ := Aside0.mk (blk_below (g := gb260) (o := .cells #[.slice A1_0 l1_0.length c1_0, .bool a1_1] 24 (0, 0)) bk_c hb); have n1_ := Aside0.mk (blk_below (g := gb261) (o := .cells #[.slice A0_0 l0_0.length c0_0, .bool a0_1] 24 (0, 0)) bk_c hb); have n2_ := Aside0.mk (blk_below (g := gb262) (o := .cells #[.slice none 0 0, .bool false] 24 (0, 0)) bk_c hb); have n3_ := Aside0.mk (below_step hb_c hb); have n4_ := Aside0.mk (hbox); have n5_ := Aside0.mk ((by rw [hg]; exact (below_size hb_c) : w.heap.size ≤ gb265)); have n6_ := Aside0.mk ((by rw [hg]; exact (below_size hb_c) : w.heap.size ≤ gb265)); have n7_ := Aside0.mk ((by rw [hg]; exact Nat.ne_of_lt (blk_lt (g := gb260) (o := .cells #[.slice A1_0 l1_0.length c1_0, .bool a1_1] 24 (0, 0)) bk_c) : gb260 ≠ gb265)); have n8_ := Aside0.mk ((by rw [hg]; exact Nat.ne_of_gt (blk_lt (g := gb260) (o := .cells #[.slice A1_0 l1_0.length c1_0, .bool a1_1] 24 (0, 0)) bk_c) : gb265 ≠ gb260)); have n9_ := Aside0.mk ((by rw [hg]; exact Nat.ne_of_lt (blk_lt (g := gb261) (o := .cells #[.slice A0_0 l0_0.length c0_0, .bool a0_1] 24 (0, 0)) bk_c) : gb261 ≠ gb265)); have n10_ := Aside0.mk ((by rw [hg]; exact Nat.ne_of_gt (blk_lt (g := gb261) (o := .cells #[.slice A0_0 l0_0.length c0_0, .bool a0_1] 24 (0, 0)) bk_c) : gb265 ≠ gb261)); have n11_ := Aside0.mk ((by rw [hg]; exact Nat.ne_of_lt (blk_lt (g := gb262) (o := .cells #[.slice none 0 0, .bool false] 24 (0, 0)) bk_c) : gb262 ≠ gb265)); have n12_ := Aside0.mk ((by rw [hg]; exact Nat.ne_of_gt (blk_lt (g := gb262) (o := .cells #[.slice none 0 0, .bool false] 24 (0, 0)) bk_c) : gb265 ≠ gb262)); clear BK260; clear BK261; clear BK262; clear HB; have BK260 := n0_; have BK261 := n1_; have BK262 := n2_; have HB := n3_; have BK265 := n4_; have GW265 := n5_; have GE265 := n6_; have NB260_265 := n7_; have NB265_260 := n8_; have NB261_265 := n9_; have NB265_261 := n10_; have NB262_265 := n11_; have NB265_262 := n12_; clear n0_ n1_ n2_ n3_ n4_ n5_ n6_ n7_ n8_ n9_ n10_ n11_ n12_; clear hb hbox hg; have hnb67 := NB265_260.out; have hnc67 := NB260_265.out; have hnb68 := NB265_261.out; have hnc68 := NB261_265.out; have hnb69 := NB265_262.out; have hnc69 := NB262_265.out; have hcz70_0 : w66.cell? ⟨gb265, 0, none⟩ = some (.slice none 0 0) := (blk_cell BK265.out 0).trans rfl; have hcz70_1 : w66.cell? ⟨gb265, 1, none⟩ = some (.bool false) := (blk_cell BK265.out 1).trans rfl; have hfz70_0 := blk_frozen BK265.out 0; have hfz70_1 := blk_frozen BK265.out 1; have hcz71_0 : w66.cell? ⟨gb260, 0, none⟩ = some (.slice A1_0 l1_0.length c1_0) := (blk_cell BK260.out 0).trans rfl; have hcz71_1 : w66.cell? ⟨gb260, 1, none⟩ = some (.bool a1_1) := (blk_cell BK260.out 1).trans rfl; have hfz71_0 := blk_frozen BK260.out 0; have hfz71_1 := blk_frozen BK260.out 1))
                go_loopg [62] kj25 (fun kq v62 w' => ∃ (x62_3 : Int) (x263001_3 : Bool) (x266000_3 : List ByteArray) (u266000 : Value), v62 = .int .i64 x62_3 ∧ Aside0 (stockyardref03_Meet.l0 kq (l0_0.length : Int) l1_0 (l1_0.length : Int) x62_3 l0_0 a0_1 x266000_3 a1_1 = some (r1, r2, r3)) ∧ Aside0 (kq ≤ kj25) ∧ Aside0 (Kd.R Kd.string 9 w' w.heap.size (fun _ => True) u266000 x266000_3) ∧ Aside0 (w'.heap[gb260]? = some (.cells #[(.slice A1_0 l1_0.length c1_0), .bool a1_1] 24 (0, 0))) ∧ Aside0 (w'.heap[gb261]? = some (.cells #[(.slice A0_0 l0_0.length c0_0), .bool a0_1] 24 (0, 0))) ∧ Aside0 (w'.heap[gb262]? = some (.cells #[(.slice none 0 0), .bool x263001_3] 24 (0, 0))) ∧ Aside0 (w'.heap[gb265]? = some (.cells #[u266000, .bool a1_1] 24 (0, 0))) ∧ Aside0 (Below w.heap.size w w'))
                case atStart => exact ⟨(0), (false), (([] : List ByteArray)), (.slice none 0 0), (by first | rfl | (simp; done) | (simp [*]; done)), H', ⟨Nat.le_refl _⟩, ⟨by first | exact Kd.R_nil _ _ _ _ _ | exact Kd.N_nil _ _ _ _ _ | exact Kd.V_nil _ _ _ _ _ | exact Kd.Q_nil _ _ _ _ _ | exact Kd.S_nil _ _ _ _ _⟩, ⟨by (with_reducible repeat (first | refine blk_drewN ?_ _ | refine blk_drew ?_ | refine blk_alloc ?_ _)); refine blk_far ?_ NB260_265.out _; (with_reducible repeat (first | refine blk_drewN ?_ _ | refine blk_drew ?_ | refine blk_alloc ?_ _)); refine blk_far ?_ NB260_265.out _; (with_reducible repeat (first | refine blk_drewN ?_ _ | refine blk_drew ?_ | refine blk_alloc ?_ _)); exact BK260.out⟩, ⟨by (with_reducible repeat (first | refine blk_drewN ?_ _ | refine blk_drew ?_ | refine blk_alloc ?_ _)); refine blk_far ?_ NB261_265.out _; (with_reducible repeat (first | refine blk_drewN ?_ _ | refine blk_drew ?_ | refine blk_alloc ?_ _)); refine blk_far ?_ NB261_265.out _; (with_reducible repeat (first | refine blk_drewN ?_ _ | refine blk_drew ?_ | refine blk_alloc ?_ _)); exact BK261.out⟩, ⟨by (with_reducible repeat (first | refine blk_drewN ?_ _ | refine blk_drew ?_ | refine blk_alloc ?_ _)); refine blk_far ?_ NB262_265.out _; (with_reducible repeat (first | refine blk_drewN ?_ _ | refine blk_drew ?_ | refine blk_alloc ?_ _)); refine blk_far ?_ NB262_265.out _; (with_reducible repeat (first | refine blk_drewN ?_ _ | refine blk_drew ?_ | refine blk_alloc ?_ _)); exact BK262.out⟩, ⟨by (with_reducible repeat (first | refine blk_drewN ?_ _ | refine blk_drew ?_ | refine blk_alloc ?_ _)); refine blk_put (cs := #[.slice none 0 0, .bool false]) ?_ 1 _ rfl; (with_reducible repeat (first | refine blk_drewN ?_ _ | refine blk_drew ?_ | refine blk_alloc ?_ _)); refine blk_put (cs := #[.slice none 0 0, .bool false]) ?_ 0 _ rfl; (with_reducible repeat (first | refine blk_drewN ?_ _ | refine blk_drew ?_ | refine blk_alloc ?_ _)); exact BK265.out⟩, ⟨hb_c⟩⟩
                case round =>
                  clear H'
                  (try clear c1); (try clear c2); (try clear p2); (try clear c3); (try clear c4); (try clear c5); (try clear c6); (try clear c8); (try clear c8b0); (try clear c8b1); (try clear c10); (try clear c11); (try clear c14); (try clear c15); (try clear c17); (try clear c18); (try clear c21); (try clear c22); (try clear c23); (try clear c25); (try clear c25b0); (try clear c25b1); (try clear c27); (try clear c28); (try clear c29); (try clear c30); (try clear c32); (try clear c32b0); (try clear c32b1); (try clear c33); (try clear c34); (try clear c34b0); (try clear c34b1); (try clear c34b2); (try clear c35); (try clear c36); (try clear c38); (try clear c40); (try clear c41); (try clear c43); (try clear c45); (try clear c46); (try clear c48); (try clear c50); (try clear c50b0); (try clear c50b1); (try clear c50b2); (try clear c51); (try clear c52); (try clear c54); (try clear c56); (try clear c57); (try clear c59); (try clear c60); (try clear c61); (try clear c63); (try clear c64); (try clear c67); (try clear c68); (try clear c69); (try clear hcz12_0); (try clear hcz12_1); (try clear hcz15_0); (try clear hcz15_1); (try clear hcz19_0); (try clear hcz19_1); (try clear hcz24_0); (try clear hcz24_1); (try clear hcz29_0); (try clear hcz29_1); (try clear hcz31_0); (try clear hcz31_1); (try clear hcz37_0); (try clear hcz37_1); (try clear hcz39_0); (try clear hcz39_1); (try clear hcz42_0); (try clear hcz42_1); (try clear hcz44_0); (try clear hcz44_1); (try clear hcz47_0); (try clear hcz47_1); (try clear hcz49_0); (try clear hcz49_1); (try clear hcz53_0); (try clear hcz53_1); (try clear hcz55_0); (try clear hcz55_1); (try clear hcz58_0); (try clear hcz58_1); (try clear hcz62_0); (try clear hcz62_1); (try clear hcz65_0); (try clear hcz65_1); (try clear hcz70_0); (try clear hcz70_1); (try clear hcz71_0); (try clear hcz71_1); (try clear hfz12_0); (try clear hfz12_1); (try clear hfz15_0); (try clear hfz15_1); (try clear hfz19_0); (try clear hfz19_1); (try clear hfz24_0); (try clear hfz24_1); (try clear hfz29_0); (try clear hfz29_1); (try clear hfz31_0); (try clear hfz31_1); (try clear hfz37_0); (try clear hfz37_1); (try clear hfz39_0); (try clear hfz39_1); (try clear hfz42_0); (try clear hfz42_1); (try clear hfz44_0); (try clear hfz44_1); (try clear hfz47_0); (try clear hfz47_1); (try clear hfz49_0); (try clear hfz49_1); (try clear hfz53_0); (try clear hfz53_1); (try clear hfz55_0); (try clear hfz55_1); (try clear hfz58_0); (try clear hfz58_1); (try clear hfz62_0); (try clear hfz62_1); (try clear hfz65_0); (try clear hfz65_1); (try clear hfz70_0); (try clear hfz70_1); (try clear hfz71_0); (try clear hfz71_1); (try clear p2)
                  try clear BK260
                  try clear BK261
                  try clear BK262
                  try clear BK265
                  try clear HB
                  obtain ⟨x62_3, x263001_3, x266000_3, u266000, rfl, HA, HK3, HO_266000, BK260, BK261, BK262, BK265, HB⟩ := hrel
                  cases gk with
                  | zero => exact absurd HA.out (by simp [stockyardref03_Meet.l0])
                  | succ k3 =>
                    have H := HA.out
                    clear HA
                    simp only [stockyardref03_Meet.l0] at H
                    by_cases c72 : x62_3 < (l1_0.length : Int)
                    · rw [if_pos c72] at H
                      have c72b0 : decide (x62_3 < (l1_0.length : Int)) = true := decide_eq_true c72
                      clear c72
                      by_cases c73 : 0 ≤ x62_3
                      · rw [if_pos c73] at H
                        have c73b0 : decide (0 ≤ x62_3) = true := decide_eq_true c73
                        clear c73
                        by_cases c74 : x62_3 < (l1_0.length : Int)
                        · rw [if_pos c74] at H
                          have c74b0 : decide (x62_3 < (l1_0.length : Int)) = true := decide_eq_true c74
                          clear c74
                          have HC75 := Aside0.mk H
                          clear H
                          have p266 : 0 ≤ (x62_3 : Int) := of_decide_eq_true (by first | (with_reducible assumption) | assumption)
                          have q266 : x62_3 < (l1_0.length : Int) := of_decide_eq_true (by first | (with_reducible assumption) | assumption)
                          obtain ⟨ad266, e266, hx266_0⟩ := Kd.at_string HR1_0.out x62_3 p266 q266
                          cases e266
                          replace hx266_0 := (HB.out.cell (World.block_lt_of_cell? w _ hx266_0)).trans hx266_0
                          replace p266 := eq_true p266
                          replace q266 := eq_true q266
                          go_upto_region 13 with (fail)
                          go_cut [68] (fun v68 wc => ∃ (kq : Nat) (x68_74 : Bool), v68 = .bool x68_74 ∧ Aside0 (stockyardref03_Meet.j3 kq (l0_0.length : Int) x62_3 (rdOf ByteArray.empty l1_0 x62_3) l1_0 (l1_0.length : Int) x62_3 x68_74 l0_0 a0_1 x266000_3 a1_1 = some (r1, r2, r3)) ∧ Aside0 (kq ≤ k3) ∧ Aside0 (Kd.R Kd.string 9 wc w.heap.size (fun _ => True) u266000 x266000_3) ∧ Aside0 (wc.heap[gb260]? = some (.cells #[(.slice (some ad266) l1_0.length c1_0), .bool a1_1] 24 (0, 0))) ∧ Aside0 (wc.heap[gb261]? = some (.cells #[(.slice A0_0 l0_0.length c0_0), .bool a0_1] 24 (0, 0))) ∧ Aside0 (wc.heap[gb262]? = some (.cells #[(.slice none 0 0), .bool x263001_3] 24 (0, 0))) ∧ Aside0 (wc.heap[gb265]? = some (.cells #[u266000, .bool a1_1] 24 (0, 0))) ∧ Aside0 (Below w.heap.size w wc))
                          case first =>
                            have H := HC75.out
                            clear HC75
                            by_cases c76 : x62_3 ≥ (l0_0.length : Int)
                            · rw [if_pos c76] at H
                              have c76b0 : decide ((l0_0.length : Int) ≤ x62_3) = true := decide_eq_true c76
                              clear c76
                              (first | rw [c76b0] | (simp only [i64_w, i32_w]; rw [c76b0]) | skip)
                              have H' := Aside0.mk H
                              clear H
                              go_wp2
                              go_meet
                              case rel => exact ⟨_, (true), (by first | rfl | (simp; done) | (simp [*]; done)), H', ⟨by have := HJ2.out; have := HJ25.out; have := HK3.out; first | omega | exact Nat.le_refl _⟩, ⟨by (with_reducible repeat (first | apply Kd.R_alloc | apply Kd.R_drewN | apply Kd.R_drew)); exact HO_266000.out⟩, ⟨bk_c⟩, ⟨bk_c⟩, ⟨bk_c⟩, ⟨bk_c⟩, ⟨hb_c⟩⟩
                            · rw [if_neg c76] at H
                              have c76b0 : decide ((l0_0.length : Int) ≤ x62_3) = false := decide_eq_false c76
                              clear c76
                              (first | rw [c76b0] | (simp only [i64_w, i32_w]; rw [c76b0]) | skip)
                              by_cases c77 : x62_3 < (l0_0.length : Int)
                              · rw [if_pos c77] at H
                                have c77b0 : decide (x62_3 < (l0_0.length : Int)) = true := decide_eq_true c77
                                clear c77
                                replace H := Option.bind_eq_some_iff.mp H
                                obtain ⟨t268, A780, H⟩ := H
                                replace H : (stockyardref03_Meet.j3 k3 (l0_0.length : Int) x62_3 (rdOf ByteArray.empty l1_0 x62_3) l1_0 (l1_0.length : Int) x62_3 t268 l0_0 a0_1 x266000_3 a1_1) = some (r1, r2, r3) := H
                                have A78 := Aside0.mk A780
                                clear A780
                                have H' := Aside0.mk H
                                clear H
                                have hnb79 := NB261_260.out
                                have hnc79 := NB260_261.out
                                have hnb80 := NB261_262.out
                                have hnc80 := NB262_261.out
                                have hnb81 := NB261_265.out
                                have hnc81 := NB265_261.out
                                have hcz82_0 : wr.cell? ⟨gb261, 0, none⟩ = some (.slice A0_0 l0_0.length c0_0) := (blk_cell BK261.out 0).trans rfl
                                have hcz82_1 : wr.cell? ⟨gb261, 1, none⟩ = some (.bool a0_1) := (blk_cell BK261.out 1).trans rfl
                                have hfz82_0 := blk_frozen BK261.out 0
                                have hfz82_1 := blk_frozen BK261.out 1
                                have p267 : 0 ≤ (x62_3 : Int) := of_decide_eq_true (by first | (with_reducible assumption) | assumption)
                                have q267 : x62_3 < (l0_0.length : Int) := of_decide_eq_true (by first | (with_reducible assumption) | assumption)
                                obtain ⟨ad267, e267, hx267_0⟩ := Kd.at_string HR0_0.out x62_3 p267 q267
                                cases e267
                                replace hx267_0 := (HB.out.cell (World.block_lt_of_cell? w _ hx267_0)).trans hx267_0
                                replace p267 := eq_true p267
                                replace q267 := eq_true q267
                                go_wp2_with (first | (go_at_call 30; (with_reducible refine (stockyardref03_Inside.calls k3 (rdOf ByteArray.empty l1_0 x62_3) (rdOf ByteArray.empty l0_0 x62_3) t268 _ A78.out).mono ?_); rintro e w' ⟨rfl, ⟨nd, rfl⟩⟩))
                                go_meet
                                case rel => exact ⟨_, (t268), (by first | rfl | (simp; done) | (simp [*]; done)), H', ⟨by have := HJ2.out; have := HJ25.out; have := HK3.out; first | omega | exact Nat.le_refl _⟩, ⟨by (with_reducible repeat (first | apply Kd.R_alloc | apply Kd.R_drewN | apply Kd.R_drew)); exact HO_266000.out⟩, ⟨bk_c⟩, ⟨bk_c⟩, ⟨bk_c⟩, ⟨bk_c⟩, ⟨hb_c⟩⟩
                              · rw [if_neg c77] at H
                                exact absurd H (by simp)
                          case rest =>
                            clear HC75; (try clear c1); (try clear c2); (try clear p2); (try clear q2); (try clear hx2); (try clear c3); (try clear c4); (try clear c5); (try clear c6); (try clear c7); (try clear c8); (try clear c8b0); (try clear c8b1); (try clear c10); (try clear c11); (try clear c14); (try clear c15); (try clear c17); (try clear c18); (try clear c21); (try clear c22); (try clear c23); (try clear c25); (try clear c25b0); (try clear c25b1); (try clear p26); (try clear q26); (try clear hx26); (try clear c27); (try clear c28); (try clear c29); (try clear c30); (try clear c32); (try clear c32b0); (try clear c32b1); (try clear c33); (try clear c34); (try clear c34b0); (try clear c34b1); (try clear c34b2); (try clear c35); (try clear c36); (try clear c38); (try clear c40); (try clear c41); (try clear c43); (try clear c45); (try clear c46); (try clear c48); (try clear c50); (try clear c50b0); (try clear c50b1); (try clear c50b2); (try clear c51); (try clear c52); (try clear c54); (try clear c56); (try clear c57); (try clear c59); (try clear c60); (try clear c61); (try clear c63); (try clear c64); (try clear c67); (try clear c68); (try clear c69); (try clear c72); (try clear c72b0); (try clear c73); (try clear c73b0); (try clear c74); (try clear c74b0); (try clear c76); (try clear c76b0); (try clear c77); (try clear c77b0); (try clear c79); (try clear c80); (try clear c81); (try clear hcz12_0); (try clear hcz12_1); (try clear hcz15_0); (try clear hcz15_1); (try clear hcz19_0); (try clear hcz19_1); (try clear hcz24_0); (try clear hcz24_1); (try clear hcz29_0); (try clear hcz29_1); (try clear hcz31_0); (try clear hcz31_1); (try clear hcz37_0); (try clear hcz37_1); (try clear hcz39_0); (try clear hcz39_1); (try clear hcz42_0); (try clear hcz42_1); (try clear hcz44_0); (try clear hcz44_1); (try clear hcz47_0); (try clear hcz47_1); (try clear hcz49_0); (try clear hcz49_1); (try clear hcz53_0); (try clear hcz53_1); (try clear hcz55_0); (try clear hcz55_1); (try clear hcz58_0); (try clear hcz58_1); (try clear hcz62_0); (try clear hcz62_1); (try clear hcz65_0); (try clear hcz65_1); (try clear hcz70_0); (try clear hcz70_1); (try clear hcz71_0); (try clear hcz71_1); (try clear hcz82_0); (try clear hcz82_1); (try clear hfz12_0); (try clear hfz12_1); (try clear hfz15_0); (try clear hfz15_1); (try clear hfz19_0); (try clear hfz19_1); (try clear hfz24_0); (try clear hfz24_1); (try clear hfz29_0); (try clear hfz29_1); (try clear hfz31_0); (try clear hfz31_1); (try clear hfz37_0); (try clear hfz37_1); (try clear hfz39_0); (try clear hfz39_1); (try clear hfz42_0); (try clear hfz42_1); (try clear hfz44_0); (try clear hfz44_1); (try clear hfz47_0); (try clear hfz47_1); (try clear hfz49_0); (try clear hfz49_1); (try clear hfz53_0); (try clear hfz53_1); (try clear hfz55_0); (try clear hfz55_1); (try clear hfz58_0); (try clear hfz58_1); (try clear hfz62_0); (try clear hfz62_1); (try clear hfz65_0); (try clear hfz65_1); (try clear hfz70_0); (try clear hfz70_1); (try clear hfz71_0); (try clear hfz71_1); (try clear hfz82_0); (try clear hfz82_1); (try clear hx266_0); (try clear hx267_0); (try clear p2); (try clear p266); (try clear p267); (try clear q266); (try clear q267)
                            try clear BK260
                            try clear BK261
                            try clear BK262
                            try clear BK265
                            try clear HB
                            obtain ⟨kq, x68_74, rfl, HA, HJ74, HO_266000, BK260, BK261, BK262, BK265, HB⟩ := hcut
                            cases kq with
                            | zero => exact absurd HA.out (by simp [stockyardref03_Meet.j3])
                            | succ kj74 =>
                              have H := HA.out
                              clear HA
                              simp only [stockyardref03_Meet.j3] at H
                              by_cases c83 : x68_74 = true
                              · subst c83
                                have H1 : (if x266000_3.length < 8796093022208 then (stockyardref03_Meet.l0 kj74 (l0_0.length : Int) l1_0 (l1_0.length : Int) (wrap64 (x62_3 + 1)) l0_0 a0_1 (x266000_3 ++ [(rdOf ByteArray.empty l1_0 x62_3)]) a1_1) else (none)) = some (r1, r2, r3) := by rw [if_pos rfl] at H; exact H
                                clear H
                                have H := H1
                                clear H1
                                by_cases c84 : x266000_3.length < 8796093022208
                                · rw [if_pos c84] at H
                                  have LMc84 := Aside0.mk c84
                                  clear c84
                                  obtain ⟨y269, hy269⟩ : ∃ y_ : List ByteArray, y_ = (x266000_3 ++ [(rdOf ByteArray.empty l1_0 x62_3)]) := ⟨_, rfl⟩
                                  replace H : (stockyardref03_Meet.l0 kj74 (l0_0.length : Int) l1_0 (l1_0.length : Int) (wrap64 (x62_3 + 1)) l0_0 a0_1 y269 a1_1) = some (r1, r2, r3) := by first | (rw [hy269]; with_reducible exact H) | (have H2_ := (Option.bind_some _ _).symm.trans H; rw [hy269]; with_reducible exact H2_) | (have H2_ := (Option.bind_some _ _).symm.trans H; with_reducible exact H2_) | with_reducible exact H | (rw [hy269]; exact H) | exact H
                                  have Ny269 := Aside0.mk hy269
                                  clear hy269
                                  have H' := Aside0.mk H
                                  clear H
                                  have hnb85 := NB265_260.out
                                  have hnc85 := NB260_265.out
                                  have hnb86 := NB265_261.out
                                  have hnc86 := NB261_265.out
                                  have hnb87 := NB265_262.out
                                  have hnc87 := NB262_265.out
                                  have hcz88_0 : wc.cell? ⟨gb265, 0, none⟩ = some (u266000) := (blk_cell BK265.out 0).trans rfl
                                  have hcz88_1 : wc.cell? ⟨gb265, 1, none⟩ = some (.bool a1_1) := (blk_cell BK265.out 1).trans rfl
                                  have hfz88_0 := blk_frozen BK265.out 0
                                  have hfz88_1 := blk_frozen BK265.out 1
                                  go_wp2_with (first | ((with_reducible refine gate_builtin (b := .append) (xs := #[.tmp 82, .tmp 84]) rfl ?_); (try (refine gate_guard (by rfl) ?_; dsimp only)); at_builtin; refine Kd.R_append Kd.string (w0 := w) w.heap.size rfl (.tmp 82) (.tmp 84) 22 9 (.string ⟨#[]⟩) 16 rfl Tryd.underlying22 info9 rfl (by decide) (by omega) u266000 x266000_3 (rdOf ByteArray.empty l1_0 x62_3) [.string (rdOf ByteArray.empty l1_0 x62_3)] (fun _ => True) (fun _ => False) rfl rfl ?aP (fun _ hk => hk.elim) ?aF ?aO ?aB ?aS ?aL ?_; (case aP => exact rfl); (case aB => exact hb_c); (case aF => exact (fun _ _ => trivial)); (case aO => exact (by (with_reducible repeat (first | apply Kd.R_alloc | apply Kd.R_drewN | apply Kd.R_drew)); exact HO_266000.out)); (case aS => exact (below_size hb_c)); (case aL => have := LMc84.out; omega); intro v270 w89 ho hb hg hat; rw [← Ny269.out] at ho; have n0_ := Aside0.mk (blk_grown (g := gb260) (o := .cells #[.slice (some ad266) l1_0.length c1_0, .bool a1_1] 24 (0, 0)) bk_c hg (Kd.R_ne HO_266000.out BK260.out (by decide))); have n1_ := Aside0.mk (blk_grown (g := gb261) (o := .cells #[.slice A0_0 l0_0.length c0_0, .bool a0_1] 24 (0, 0)) bk_c hg (Kd.R_ne HO_266000.out BK261.out (by decide))); have n2_ := Aside0.mk (blk_grown (g := gb262) (o := .cells #[.slice none 0 0, .bool x263001_3] 24 (0, 0)) bk_c hg (Kd.R_ne HO_266000.out BK262.out (by decide))); have n3_ := Aside0.mk (blk_grown (g := gb265) (o := .cells #[u266000, .bool a1_1] 24 (0, 0)) bk_c hg (Kd.R_ne HO_266000.out BK265.out (by decide))); have n4_ := Aside0.mk (hb); have n5_ := Aside0.mk (ho); clear BK260; clear BK261; clear BK262; clear BK265; clear HB; clear HO_266000; have BK260 := n0_; have BK261 := n1_; have BK262 := n2_; have BK265 := n3_; have HB := n4_; have HO271 := n5_; clear n0_ n1_ n2_ n3_ n4_ n5_; clear ho hb hg hat; obtain ⟨Ao90, co90, eo90⟩ := Kd.R_slice HO271.out; subst eo90; have hcz91_0 : w89.cell? ⟨gb265, 0, none⟩ = some (u266000) := (blk_cell BK265.out 0).trans rfl; have hcz91_1 : w89.cell? ⟨gb265, 1, none⟩ = some (.bool a1_1) := (blk_cell BK265.out 1).trans rfl; have hfz91_0 := blk_frozen BK265.out 0; have hfz91_1 := blk_frozen BK265.out 1))
                                  go_roundg kj74
                                  case measure => have := HJ2.out; have := HJ25.out; have := HK3.out; have := HJ74.out; omega
                                  case rel => exact ⟨(wrap64 (x62_3 + 1)), (x263001_3), (y269), (.slice Ao90 y269.length co90), (by first | rfl | (simp; done) | (simp [*]; done)), H', ⟨by have := HJ2.out; have := HJ25.out; have := HK3.out; have := HJ74.out; omega⟩, ⟨by (with_reducible repeat (first | apply Kd.R_alloc | apply Kd.R_drewN | apply Kd.R_drew)); exact Kd.R_mono (Kd.R_far (p := ⟨gb265, 0, none⟩) (Kd.R_types HO271.out BK265.out (by decide)) (fun _ hk => hk.2) (.slice Ao90 y269.length co90)) (fun _ hk => trivial)⟩, ⟨by (with_reducible repeat (first | refine blk_drewN ?_ _ | refine blk_drew ?_ | refine blk_alloc ?_ _)); refine blk_far ?_ NB260_265.out _; (with_reducible repeat (first | refine blk_drewN ?_ _ | refine blk_drew ?_ | refine blk_alloc ?_ _)); exact BK260.out⟩, ⟨by (with_reducible repeat (first | refine blk_drewN ?_ _ | refine blk_drew ?_ | refine blk_alloc ?_ _)); refine blk_far ?_ NB261_265.out _; (with_reducible repeat (first | refine blk_drewN ?_ _ | refine blk_drew ?_ | refine blk_alloc ?_ _)); exact BK261.out⟩, ⟨by (with_reducible repeat (first | refine blk_drewN ?_ _ | refine blk_drew ?_ | refine blk_alloc ?_ _)); refine blk_far ?_ NB262_265.out _; (with_reducible repeat (first | refine blk_drewN ?_ _ | refine blk_drew ?_ | refine blk_alloc ?_ _)); exact BK262.out⟩, ⟨by (with_reducible repeat (first | refine blk_drewN ?_ _ | refine blk_drew ?_ | refine blk_alloc ?_ _)); refine blk_put (cs := #[u266000, .bool a1_1]) ?_ 0 _ rfl; (with_reducible repeat (first | refine blk_drewN ?_ _ | refine blk_drew ?_ | refine blk_alloc ?_ _)); exact BK265.out⟩, ⟨hb_c⟩⟩
                                · rw [if_neg c84] at H
                                  exact absurd H (by simp)
                              · replace c83 := Bool.eq_false_iff.mpr c83
                                subst c83
                                have H1 : (if 0 ≤ x62_3 then (if x62_3 < (l0_0.length : Int) then ((stockyardref03_Inside.f kj74 (rdOf ByteArray.empty l0_0 x62_3) (rdOf ByteArray.empty l1_0 x62_3)).bind fun t273 => (if t273 = true then (if x266000_3.length < 8796093022208 then (stockyardref03_Meet.l0 kj74 (l0_0.length : Int) l1_0 (l1_0.length : Int) (wrap64 (x62_3 + 1)) l0_0 a0_1 (x266000_3 ++ [rdOf ByteArray.empty l0_0 x62_3]) a1_1) else (none)) else (some (([] : List ByteArray), false, false)))) else (none)) else (none)) = some (r1, r2, r3) := by rw [if_neg (show ¬ (false = true) by decide)] at H; exact H
                                clear H
                                have H := H1
                                clear H1
                                by_cases c92 : 0 ≤ x62_3
                                · rw [if_pos c92] at H
                                  have c92b0 : decide (0 ≤ x62_3) = true := decide_eq_true c92
                                  clear c92
                                  by_cases c93 : x62_3 < (l0_0.length : Int)
                                  · rw [if_pos c93] at H
                                    have c93b0 : decide (x62_3 < (l0_0.length : Int)) = true := decide_eq_true c93
                                    clear c93
                                    replace H := Option.bind_eq_some_iff.mp H
                                    obtain ⟨t273, A940, H⟩ := H
                                    replace H : (if t273 = true then (if x266000_3.length < 8796093022208 then (stockyardref03_Meet.l0 kj74 (l0_0.length : Int) l1_0 (l1_0.length : Int) (wrap64 (x62_3 + 1)) l0_0 a0_1 (x266000_3 ++ [rdOf ByteArray.empty l0_0 x62_3]) a1_1) else (none)) else (some (([] : List ByteArray), false, false))) = some (r1, r2, r3) := H
                                    have A94 := Aside0.mk A940
                                    clear A940
                                    by_cases c95 : t273 = true
                                    · subst c95
                                      have H1 : (if x266000_3.length < 8796093022208 then (stockyardref03_Meet.l0 kj74 (l0_0.length : Int) l1_0 (l1_0.length : Int) (wrap64 (x62_3 + 1)) l0_0 a0_1 (x266000_3 ++ [rdOf ByteArray.empty l0_0 x62_3]) a1_1) else (none)) = some (r1, r2, r3) := by rw [if_pos rfl] at H; exact H
                                      clear H
                                      have H := H1
                                      clear H1
                                      by_cases c96 : x266000_3.length < 8796093022208
                                      · rw [if_pos c96] at H
                                        have LMc96 := Aside0.mk c96
                                        clear c96
                                        obtain ⟨y275, hy275⟩ : ∃ y_ : List ByteArray, y_ = (x266000_3 ++ [rdOf ByteArray.empty l0_0 x62_3]) := ⟨_, rfl⟩
                                        replace H : (stockyardref03_Meet.l0 kj74 (l0_0.length : Int) l1_0 (l1_0.length : Int) (wrap64 (x62_3 + 1)) l0_0 a0_1 y275 a1_1) = some (r1, r2, r3) := by first | (rw [hy275]; with_reducible exact H) | (have H2_ := (Option.bind_some _ _).symm.trans H; rw [hy275]; with_reducible exact H2_) | (have H2_ := (Option.bind_some _ _).symm.trans H; with_reducible exact H2_) | with_reducible exact H | (rw [hy275]; exact H) | exact H
                                        have Ny275 := Aside0.mk hy275
                                        clear hy275
                                        have H' := Aside0.mk H
                                        clear H
                                        have hnb97 := NB261_260.out
                                        have hnc97 := NB260_261.out
                                        have hnb98 := NB261_262.out
                                        have hnc98 := NB262_261.out
                                        have hnb99 := NB261_265.out
                                        have hnc99 := NB265_261.out
                                        have hcz100_0 : wc.cell? ⟨gb261, 0, none⟩ = some (.slice A0_0 l0_0.length c0_0) := (blk_cell BK261.out 0).trans rfl
                                        have hcz100_1 : wc.cell? ⟨gb261, 1, none⟩ = some (.bool a0_1) := (blk_cell BK261.out 1).trans rfl
                                        have hfz100_0 := blk_frozen BK261.out 0
                                        have hfz100_1 := blk_frozen BK261.out 1
                                        have p272 : 0 ≤ (x62_3 : Int) := of_decide_eq_true (by first | (with_reducible assumption) | assumption)
                                        have q272 : x62_3 < (l0_0.length : Int) := of_decide_eq_true (by first | (with_reducible assumption) | assumption)
                                        obtain ⟨ad272, e272, hx272_0⟩ := Kd.at_string HR0_0.out x62_3 p272 q272
                                        cases e272
                                        replace hx272_0 := (HB.out.cell (World.block_lt_of_cell? w _ hx272_0)).trans hx272_0
                                        replace p272 := eq_true p272
                                        replace q272 := eq_true q272
                                        try go_wp2_with (first | ((with_reducible refine gate_callee (f := 30) rfl ?_); refine goesL_ (some 94) rfl rfl Tryd.func30 (by kernel_rfl) rfl #[.string (rdOf ByteArray.empty l0_0 x62_3), .string (rdOf ByteArray.empty l1_0 x62_3)] rfl (by (try simp only [List.map_toArray, List.map_cons, List.map_nil]); first | done | rfl | (simp only [List.length_drop, List.length_take]; rfl)) ?_; (with_reducible refine (stockyardref03_Inside.calls kj74 (rdOf ByteArray.empty l0_0 x62_3) (rdOf ByteArray.empty l1_0 x62_3) true _ A94.out).mono ?_); rintro e w' ⟨rfl, ⟨nd, rfl⟩⟩; refine ⟨_, rfl, ?_⟩; (try (rw [drewN_self wc]; generalize hq_ : World.drewN wc _ = wc; have n0_ : Aside0 (Kd.R Kd.string 9 wc w.heap.size (fun _ => True) u266000 x266000_3) := ⟨by rw [← hq_]; exact (by (with_reducible repeat (first | apply Kd.R_alloc | apply Kd.R_drewN | apply Kd.R_drew)); exact HO_266000.out)⟩; have n1_ : Aside0 (wc.heap[gb260]? = some (.cells #[.slice (some ad266) l1_0.length c1_0, .bool a1_1] 24 (0, 0))) := ⟨by rw [← hq_]; exact bk_c⟩; have n2_ : Aside0 (wc.heap[gb261]? = some (.cells #[.slice (some ad272) l0_0.length c0_0, .bool a0_1] 24 (0, 0))) := ⟨by rw [← hq_]; exact bk_c⟩; have n3_ : Aside0 (wc.heap[gb262]? = some (.cells #[.slice none 0 0, .bool x263001_3] 24 (0, 0))) := ⟨by rw [← hq_]; exact bk_c⟩; have n4_ : Aside0 (wc.heap[gb265]? = some (.cells #[u266000, .bool a1_1] 24 (0, 0))) := ⟨by rw [← hq_]; exact bk_c⟩; have n5_ : Aside0 (Below w.heap.size w wc) := ⟨by rw [← hq_]; exact hb_c⟩; clear HO_266000 BK260 BK261 BK262 BK265 HB hq_; have HO_266000 := n0_; have BK260 := n1_; have BK261 := n2_; have BK262 := n3_; have BK265 := n4_; have HB := n5_; clear n0_ n1_ n2_ n3_ n4_ n5_))))
                                        have n0_ := Aside0.mk (Kd.R_drew HO_266000.out)
                                        have n1_ := Aside0.mk (blk_drew BK260.out)
                                        have n2_ := Aside0.mk (blk_drew BK261.out)
                                        have n3_ := Aside0.mk (blk_drew BK262.out)
                                        have n4_ := Aside0.mk (blk_drew BK265.out)
                                        have n5_ := Aside0.mk (below_drew1 HB.out)
                                        clear HO_266000; clear BK260; clear BK261; clear BK262; clear BK265; clear HB
                                        have HO_266000 := n0_
                                        have BK260 := n1_
                                        have BK261 := n2_
                                        have BK262 := n3_
                                        have BK265 := n4_
                                        have HB := n5_
                                        clear n0_ n1_ n2_ n3_ n4_ n5_
                                        have p274 : 0 ≤ (x62_3 : Int) := of_decide_eq_true (by first | (with_reducible assumption) | assumption)
                                        have q274 : x62_3 < (l0_0.length : Int) := of_decide_eq_true (by first | (with_reducible assumption) | assumption)
                                        obtain ⟨ad274, e274, hx274_0⟩ := Kd.at_string HR0_0.out x62_3 p274 q274
                                        have hw274_0 := hx274_0
                                        obtain rfl : ad272 = ad274 := (by injection e274)
                                        replace hx274_0 := (HB.out.cell (World.block_lt_of_cell? w _ hx274_0)).trans hx274_0
                                        replace p274 := eq_true p274
                                        replace q274 := eq_true q274
                                        refine start_ (n := 11) (S := fun w' => w'.cell? ⟨gb265, 0, none⟩ = some (u266000) ∧ w'.cell? ⟨gb265, 1, none⟩ = some (.bool a1_1) ∧ w'.cell? ⟨gb261, 0, none⟩ = some (.slice (some ad272) l0_0.length c0_0) ∧ w'.cell? ⟨gb261, 1, none⟩ = some (.bool a0_1) ∧ w'.cell? (ad272.add (x62_3).toNat) = some (.string (rdOf ByteArray.empty l0_0 x62_3))) (ds := [10]) #[false, false, false, false, false, false, false, false, false, false, false] (by kernel_rfl) rfl rfl ⟨(blk_cell BK265.out 0).trans rfl, (blk_cell BK265.out 1).trans rfl, (blk_cell BK261.out 0).trans rfl, (blk_cell BK261.out 1).trans rfl, ((HB.out.cell (World.block_lt_of_cell? w _ hw274_0)).trans hw274_0)⟩ (fun hHeld => ?_); refine with_tabW stockyardref03_Meet.tab16 stockyardref03_Meet.bits16 (fun HT_ HW_ => ?_)
                                        generalize wc.drew = w101 at HO_266000 BK260 BK261 BK262 BK265 HB hx274_0 hHeld ⊢
                                        refine pure_ (i := 0) (N := some 95) (v := ?_) (a' := ?_) #[true, false, false, false, false, false, false, false, false, false, false] rfl rfl (any_of HT_.out (by kernel_rfl)) (fun _ _ _ h => h) (Or.inl ⟨by rfl, ?_⟩) ?_ ?_
                                        rotate_left
                                        · intro w'
                                          go_simp
                                          with_reducible rfl
                                        rotate_left
                                        · simp only [Act.put, List.setIfInBounds_toArray, List.set_cons_zero, List.set_cons_succ, i64_w, i32_w]
                                          rfl
                                        refine pure_ (i := 2) (N := some 97) (v := ?_) (a' := ?_) #[true, false, true, false, false, false, false, false, false, false, false] rfl rfl (any_of HT_.out (by kernel_rfl)) (fun _ _ _ h => h) (Or.inl ⟨by rfl, ?_⟩) ?_ ?_
                                        rotate_left
                                        · intro w'
                                          go_simp
                                          with_reducible rfl
                                        rotate_left
                                        · simp only [Act.put, List.setIfInBounds_toArray, List.set_cons_zero, List.set_cons_succ, i64_w, i32_w]
                                          rfl
                                        refine pure_ (i := 4) (N := some 99) (v := ?_) (a' := ?_) #[true, false, true, false, true, false, false, false, false, false, false] rfl rfl (any_of HT_.out (by kernel_rfl)) (fun _ _ _ h => h) (Or.inl ⟨by rfl, ?_⟩) ?_ ?_
                                        rotate_left
                                        · intro w'
                                          go_simp
                                          with_reducible rfl
                                        rotate_left
                                        · simp only [Act.put, List.setIfInBounds_toArray, List.set_cons_zero, List.set_cons_succ, i64_w, i32_w]
                                          rfl
                                        refine take_ (i := 1) (N := some 96) (v := ?_) (a' := ?_) #[true, true, true, false, true, false, false, false, false, false, false] rfl rfl (take_ofW HT_.out HW_.out (by kernel_rfl)) (fun _ _ _ h => h) (Or.inl ⟨by rfl, ?_⟩) hHeld ?_ ?_
                                        rotate_left
                                        · rintro w' ⟨s0, s1, s2, s3, s4⟩
                                          go_simp
                                          with_reducible rfl
                                        rotate_left
                                        · simp only [Act.put, List.setIfInBounds_toArray, List.set_cons_zero, List.set_cons_succ, i64_w, i32_w]
                                          rfl
                                        refine take_ (i := 3) (N := some 98) (v := ?_) (a' := ?_) #[true, true, true, true, true, false, false, false, false, false, false] rfl rfl (take_ofW HT_.out HW_.out (by kernel_rfl)) (fun _ _ _ h => h) (Or.inl ⟨by rfl, ?_⟩) hHeld ?_ ?_
                                        rotate_left
                                        · rintro w' ⟨s0, s1, s2, s3, s4⟩
                                          go_simp
                                          with_reducible rfl
                                        rotate_left
                                        · simp only [Act.put, List.setIfInBounds_toArray, List.set_cons_zero, List.set_cons_succ, i64_w, i32_w]
                                          rfl
                                        refine pure_ (i := 5) (N := some 100) (v := ?_) (a' := ?_) #[true, true, true, true, true, true, false, false, false, false, false] rfl rfl (any_of HT_.out (by kernel_rfl)) (fun _ _ _ h => h) (Or.inl ⟨by rfl, ?_⟩) ?_ ?_
                                        rotate_left
                                        · intro w'
                                          go_simp
                                          with_reducible rfl
                                        rotate_left
                                        · simp only [Act.put, List.setIfInBounds_toArray, List.set_cons_zero, List.set_cons_succ, i64_w, i32_w]
                                          rfl
                                        refine take_ (i := 6) (N := some 101) (v := ?_) (a' := ?_) #[true, true, true, true, true, true, true, false, false, false, false] rfl rfl (take_ofW HT_.out HW_.out (by kernel_rfl)) (fun _ _ _ h => h) (Or.inl ⟨by rfl, ?_⟩) hHeld ?_ ?_
                                        rotate_left
                                        · rintro w' ⟨s0, s1, s2, s3, s4⟩
                                          go_simp
                                          with_reducible rfl
                                        rotate_left
                                        · simp only [Act.put, List.setIfInBounds_toArray, List.set_cons_zero, List.set_cons_succ, i64_w, i32_w]
                                          rfl
                                        refine one_ (i := 7) (N := some 102) #[true, true, true, true, true, true, true, true, false, false, false] rfl rfl (one_of HT_.out (by kernel_rfl)) (by decide) (fun K hK => ?_)
                                        refine value_ (w1 := ?_) (v := ?_) (by rfl) rfl ?_ ?_
                                        rotate_left 2
                                        · go_simp
                                          constructor
                                          · rfl
                                          · rfl
                                        refine hK.out _ _ ⟨(blk_cell (blk_alloc BK265.out _) 0).trans rfl, (blk_cell (blk_alloc BK265.out _) 1).trans rfl, (blk_cell (blk_alloc BK261.out _) 0).trans rfl, (blk_cell (blk_alloc BK261.out _) 1).trans rfl, (World.cell?_alloc_lt _ _ _ (World.block_lt_of_cell? _ _ (((HB.out.cell (World.block_lt_of_cell? w _ hw274_0)).trans hw274_0)))).trans (((HB.out.cell (World.block_lt_of_cell? w _ hw274_0)).trans hw274_0))⟩ (fun hHeld => ?_)
                                        clear hK K
                                        refine norm_ (a' := ?_) ?_ ?_
                                        rotate_left
                                        · show Act.put _ (some 102) _ = _
                                          simp only [Act.put, List.setIfInBounds_toArray, List.set_cons_zero, List.set_cons_succ, i64_w, i32_w]
                                          rfl
                                        refine one_ (i := 8) (N := some 103) #[true, true, true, true, true, true, true, true, true, false, false] rfl rfl (one_of HT_.out (by kernel_rfl)) (by decide) (fun K hK => ?_)
                                        refine Kd.R_append_step Kd.string (w0 := w) w.heap.size (by rfl) (.tmp 96) (.tmp 102) 22 9 (.string ⟨#[]⟩) 16 rfl Tryd.underlying22 info9 rfl (by decide) (by omega) u266000 x266000_3 (rdOf ByteArray.empty l0_0 x62_3) [.string (rdOf ByteArray.empty l0_0 x62_3)] (fun _ => True) (fun _ => False) rfl rfl ?aP (fun _ hk => hk.elim) ?aF ?aO ?aB ?aS ?aL ?_
                                        (case aP => exact rfl)
                                        (case aB => exact hb_c)
                                        (case aF => exact (fun _ _ => trivial))
                                        (case aO => exact (by (with_reducible repeat (first | apply Kd.R_alloc | apply Kd.R_drewN | apply Kd.R_drew)); exact HO_266000.out))
                                        (case aS => exact (below_size hb_c))
                                        (case aL => have := LMc96.out; omega)
                                        intro v276 w102 ho hb hg hat
                                        rw [← Ny275.out] at ho
                                        have n0_ := Aside0.mk (blk_grown (g := gb260) (o := .cells #[.slice (some ad266) l1_0.length c1_0, .bool a1_1] 24 (0, 0)) bk_c hg (Kd.R_ne HO_266000.out BK260.out (by decide)))
                                        have n1_ := Aside0.mk (blk_grown (g := gb261) (o := .cells #[.slice (some ad272) l0_0.length c0_0, .bool a0_1] 24 (0, 0)) bk_c hg (Kd.R_ne HO_266000.out BK261.out (by decide)))
                                        have n2_ := Aside0.mk (blk_grown (g := gb262) (o := .cells #[.slice none 0 0, .bool x263001_3] 24 (0, 0)) bk_c hg (Kd.R_ne HO_266000.out BK262.out (by decide)))
                                        have n3_ := Aside0.mk (blk_grown (g := gb265) (o := .cells #[u266000, .bool a1_1] 24 (0, 0)) bk_c hg (Kd.R_ne HO_266000.out BK265.out (by decide)))
                                        have n4_ := Aside0.mk (hb)
                                        have n5_ := Aside0.mk (ho)
                                        clear BK260; clear BK261; clear BK262; clear BK265; clear HB; clear HO_266000
                                        have BK260 := n0_
                                        have BK261 := n1_
                                        have BK262 := n2_
                                        have BK265 := n3_
                                        have HB := n4_
                                        have HO277 := n5_
                                        clear n0_ n1_ n2_ n3_ n4_ n5_
                                        clear ho hb hg hat
                                        obtain ⟨Ao103, co103, eo103⟩ := Kd.R_slice HO277.out
                                        (first | subst eo103 | (injection eo103 with f1_ f2_ f3_; have f4_ := f1_.symm; have f5_ := f3_.symm; clear f1_ f2_ f3_; subst f4_; subst f5_))
                                        refine hK.out _ _ ⟨(blk_cell BK265.out 0).trans rfl, (blk_cell BK265.out 1).trans rfl, (blk_cell BK261.out 0).trans rfl, (blk_cell BK261.out 1).trans rfl, ((HB.out.cell (World.block_lt_of_cell? w _ hw274_0)).trans hw274_0)⟩ (fun hHeld => ?_)
                                        clear hK K
                                        refine norm_ (a' := ?_) ?_ ?_
                                        rotate_left
                                        · show Act.put _ (some 103) _ = _
                                          simp only [Act.put, List.setIfInBounds_toArray, List.set_cons_zero, List.set_cons_succ, i64_w, i32_w]
                                          rfl
                                        refine pure_ (i := 9) (N := some 104) (v := ?_) (a' := ?_) #[true, true, true, true, true, true, true, true, true, true, false] rfl rfl (any_of HT_.out (by kernel_rfl)) (fun _ _ _ h => h) (Or.inl ⟨by rfl, ?_⟩) ?_ ?_
                                        rotate_left
                                        · intro w'
                                          go_simp
                                          with_reducible rfl
                                        rotate_left
                                        · simp only [Act.put, List.setIfInBounds_toArray, List.set_cons_zero, List.set_cons_succ, i64_w, i32_w]
                                          rfl
                                        refine last_ (i := 10) (N := none) #[true, true, true, true, true, true, true, true, true, true, true] rfl rfl (one_of HT_.out (by kernel_rfl)) (by decide) (fun K hK => ?_)
                                        have hs104 : w102.cell? ⟨gb265, 0, none⟩ = some (u266000) := (blk_cell BK265.out 0).trans rfl
                                        have hfs104 := blk_frozen BK265.out 0
                                        have hns104_0 := NB260_265.out
                                        have hns104_1 := NB261_265.out
                                        have hns104_2 := NB262_265.out
                                        have hms104_0 := NB265_260.out
                                        have hms104_1 := NB265_261.out
                                        have hms104_2 := NB265_262.out
                                        refine skip_ (w1 := ?_) (by rfl) rfl ?_ ?_
                                        rotate_left
                                        · go_simp
                                          rfl
                                        refine hK.out _ _ ?_
                                        clear hK K
                                        refine done_ (done_of HT_.out (by kernel_rfl)) ?_
                                        try go_wp2
                                        go_roundg kj74
                                        case measure => have := HJ2.out; have := HJ25.out; have := HK3.out; have := HJ74.out; omega
                                        case rel => exact ⟨(wrap64 (x62_3 + 1)), (x263001_3), (y275), (.slice Ao103 y275.length co103), (by first | rfl | (simp; done) | (simp [*]; done)), H', ⟨by have := HJ2.out; have := HJ25.out; have := HK3.out; have := HJ74.out; omega⟩, ⟨by (with_reducible repeat (first | apply Kd.R_alloc | apply Kd.R_drewN | apply Kd.R_drew)); exact Kd.R_mono (Kd.R_far (p := ⟨gb265, 0, none⟩) (Kd.R_types HO277.out BK265.out (by decide)) (fun _ hk => hk.2) (.slice Ao103 y275.length co103)) (fun _ hk => trivial)⟩, ⟨by (with_reducible repeat (first | refine blk_drewN ?_ _ | refine blk_drew ?_ | refine blk_alloc ?_ _)); refine blk_far ?_ NB260_265.out _; (with_reducible repeat (first | refine blk_drewN ?_ _ | refine blk_drew ?_ | refine blk_alloc ?_ _)); exact BK260.out⟩, ⟨by (with_reducible repeat (first | refine blk_drewN ?_ _ | refine blk_drew ?_ | refine blk_alloc ?_ _)); refine blk_far ?_ NB261_265.out _; (with_reducible repeat (first | refine blk_drewN ?_ _ | refine blk_drew ?_ | refine blk_alloc ?_ _)); exact BK261.out⟩, ⟨by (with_reducible repeat (first | refine blk_drewN ?_ _ | refine blk_drew ?_ | refine blk_alloc ?_ _)); refine blk_far ?_ NB262_265.out _; (with_reducible repeat (first | refine blk_drewN ?_ _ | refine blk_drew ?_ | refine blk_alloc ?_ _)); exact BK262.out⟩, ⟨by (with_reducible repeat (first | refine blk_drewN ?_ _ | refine blk_drew ?_ | refine blk_alloc ?_ _)); refine blk_put (cs := #[u266000, .bool a1_1]) ?_ 0 _ rfl; (with_reducible repeat (first | refine blk_drewN ?_ _ | refine blk_drew ?_ | refine blk_alloc ?_ _)); exact BK265.out⟩, ⟨hb_c⟩⟩
                                      · rw [if_neg c96] at H
                                        exact absurd H (by simp)
                                    · replace c95 := Bool.eq_false_iff.mpr c95
                                      subst c95
                                      have H1 : (some (([] : List ByteArray), false, false)) = some (r1, r2, r3) := by rw [if_neg (show ¬ (false = true) by decide)] at H; exact H
                                      clear H
                                      have H := H1
                                      clear H1
                                      simp only [Option.some.injEq, Prod.mk.injEq] at H
                                      obtain ⟨rfl, rfl, rfl⟩ := H
                                      have hnb105 := NB261_260.out
                                      have hnc105 := NB260_261.out
                                      have hnb106 := NB261_262.out
                                      have hnc106 := NB262_261.out
                                      have hnb107 := NB261_265.out
                                      have hnc107 := NB265_261.out
                                      have hcz108_0 : wc.cell? ⟨gb261, 0, none⟩ = some (.slice A0_0 l0_0.length c0_0) := (blk_cell BK261.out 0).trans rfl
                                      have hcz108_1 : wc.cell? ⟨gb261, 1, none⟩ = some (.bool a0_1) := (blk_cell BK261.out 1).trans rfl
                                      have hfz108_0 := blk_frozen BK261.out 0
                                      have hfz108_1 := blk_frozen BK261.out 1
                                      have p272 : 0 ≤ (x62_3 : Int) := of_decide_eq_true (by first | (with_reducible assumption) | assumption)
                                      have q272 : x62_3 < (l0_0.length : Int) := of_decide_eq_true (by first | (with_reducible assumption) | assumption)
                                      obtain ⟨ad272, e272, hx272_0⟩ := Kd.at_string HR0_0.out x62_3 p272 q272
                                      cases e272
                                      replace hx272_0 := (HB.out.cell (World.block_lt_of_cell? w _ hx272_0)).trans hx272_0
                                      replace p272 := eq_true p272
                                      replace q272 := eq_true q272
                                      go_wp2_with (first | ((with_reducible refine gate_callee (f := 30) rfl ?_); refine goesL_ (some 94) rfl rfl Tryd.func30 (by kernel_rfl) rfl #[.string (rdOf ByteArray.empty l0_0 x62_3), .string (rdOf ByteArray.empty l1_0 x62_3)] rfl (by (try simp only [List.map_toArray, List.map_cons, List.map_nil]); first | done | rfl | (simp only [List.length_drop, List.length_take]; rfl)) ?_; (with_reducible refine (stockyardref03_Inside.calls kj74 (rdOf ByteArray.empty l0_0 x62_3) (rdOf ByteArray.empty l1_0 x62_3) false _ A94.out).mono ?_); rintro e w' ⟨rfl, ⟨nd, rfl⟩⟩; refine ⟨_, rfl, ?_⟩; (try (rw [drewN_self wc]; generalize hq_ : World.drewN wc _ = wc; have n0_ : Aside0 (Kd.R Kd.string 9 wc w.heap.size (fun _ => True) u266000 x266000_3) := ⟨by rw [← hq_]; exact (by (with_reducible repeat (first | apply Kd.R_alloc | apply Kd.R_drewN | apply Kd.R_drew)); exact HO_266000.out)⟩; have n1_ : Aside0 (wc.heap[gb260]? = some (.cells #[.slice (some ad266) l1_0.length c1_0, .bool a1_1] 24 (0, 0))) := ⟨by rw [← hq_]; exact bk_c⟩; have n2_ : Aside0 (wc.heap[gb261]? = some (.cells #[.slice (some ad272) l0_0.length c0_0, .bool a0_1] 24 (0, 0))) := ⟨by rw [← hq_]; exact bk_c⟩; have n3_ : Aside0 (wc.heap[gb262]? = some (.cells #[.slice none 0 0, .bool x263001_3] 24 (0, 0))) := ⟨by rw [← hq_]; exact bk_c⟩; have n4_ : Aside0 (wc.heap[gb265]? = some (.cells #[u266000, .bool a1_1] 24 (0, 0))) := ⟨by rw [← hq_]; exact bk_c⟩; have n5_ : Aside0 (Below w.heap.size w wc) := ⟨by rw [← hq_]; exact hb_c⟩; clear HO_266000 BK260 BK261 BK262 BK265 HB hq_; have HO_266000 := n0_; have BK260 := n1_; have BK261 := n2_; have BK262 := n3_; have BK265 := n4_; have HB := n5_; clear n0_ n1_ n2_ n3_ n4_ n5_)); have hnb109 := NB262_260.out; have hnc109 := NB260_262.out; have hnb110 := NB262_265.out; have hnc110 := NB265_262.out; have hcz111_0 : wc.cell? ⟨gb262, 0, none⟩ = some (.slice none 0 0) := (blk_cell BK262.out 0).trans rfl; have hcz111_1 : wc.cell? ⟨gb262, 1, none⟩ = some (.bool x263001_3) := (blk_cell BK262.out 1).trans rfl; have hfz111_0 := blk_frozen BK262.out 0; have hfz111_1 := blk_frozen BK262.out 1))
                                      refine bodyPost_ret (results_ct rfl _ _ gb262 24 #[.slice none 0 0, .bool false] (0, 0) _ rfl (by (with_reducible repeat (first | refine blk_drewN ?_ _ | refine blk_drew ?_ | refine blk_alloc ?_ _)); refine blk_put (cs := #[.slice none 0 0, .bool x263001_3]) ?_ 1 _ rfl; (with_reducible repeat (first | refine blk_drewN ?_ _ | refine blk_drew ?_ | refine blk_alloc ?_ _)); refine blk_put (cs := #[.slice none 0 0, .bool x263001_3]) ?_ 0 _ rfl; (with_reducible repeat (first | refine blk_drewN ?_ _ | refine blk_drew ?_ | refine blk_alloc ?_ _)); exact BK262.out) Tryd.underlying24 rfl (by kernel_rfl)) rfl ?_
                                      exact ⟨_, by first | rfl | (simp [errW_none, errW_some] <;> rfl) | (simp [*, errW_none, errW_some] <;> rfl), by first | exact Kd.R_nil _ _ _ _ _ | exact Kd.N_nil _ _ _ _ _ | exact Kd.V_nil _ _ _ _ _ | exact Kd.Q_nil _ _ _ _ _ | exact Kd.S_nil _ _ _ _ _, hb_c⟩
                                  · rw [if_neg c93] at H
                                    exact absurd H (by simp)
                                · rw [if_neg c92] at H
                                  exact absurd H (by simp)
                        · rw [if_neg c74] at H
                          exact absurd H (by simp)
                      · rw [if_neg c73] at H
                        exact absurd H (by simp)
                    · rw [if_neg c72] at H
                      have c72b0 : decide (x62_3 < (l1_0.length : Int)) = false := decide_eq_false c72
                      clear c72
                      simp only [Option.some.injEq, Prod.mk.injEq] at H
                      obtain ⟨rfl, rfl, rfl⟩ := H
                      have hnb112 := NB265_260.out
                      have hnc112 := NB260_265.out
                      have hnb113 := NB265_261.out
                      have hnc113 := NB261_265.out
                      have hnb114 := NB265_262.out
                      have hnc114 := NB262_265.out
                      have hcz115_0 : wr.cell? ⟨gb265, 0, none⟩ = some (u266000) := (blk_cell BK265.out 0).trans rfl
                      have hcz115_1 : wr.cell? ⟨gb265, 1, none⟩ = some (.bool a1_1) := (blk_cell BK265.out 1).trans rfl
                      have hfz115_0 := blk_frozen BK265.out 0
                      have hfz115_1 := blk_frozen BK265.out 1
                      obtain ⟨Ao116, co116, eo116⟩ := Kd.R_slice HO_266000.out
                      subst eo116
                      have hnb117 := NB262_260.out
                      have hnc117 := NB260_262.out
                      have hnb118 := NB262_261.out
                      have hnc118 := NB261_262.out
                      have hcz119_0 : wr.cell? ⟨gb262, 0, none⟩ = some (.slice none 0 0) := (blk_cell BK262.out 0).trans rfl
                      have hcz119_1 : wr.cell? ⟨gb262, 1, none⟩ = some (.bool x263001_3) := (blk_cell BK262.out 1).trans rfl
                      have hfz119_0 := blk_frozen BK262.out 0
                      have hfz119_1 := blk_frozen BK262.out 1
                      go_wp2
                      refine bodyPost_ret (results_ct rfl _ _ gb262 24 #[.slice Ao116 x266000_3.length co116, .bool a1_1] (0, 0) _ rfl (by (with_reducible repeat (first | refine blk_drewN ?_ _ | refine blk_drew ?_ | refine blk_alloc ?_ _)); refine blk_put (cs := #[.slice Ao116 x266000_3.length co116, .bool x263001_3]) ?_ 1 _ rfl; (with_reducible repeat (first | refine blk_drewN ?_ _ | refine blk_drew ?_ | refine blk_alloc ?_ _)); refine blk_put (cs := #[.slice none 0 0, .bool x263001_3]) ?_ 0 _ rfl; (with_reducible repeat (first | refine blk_drewN ?_ _ | refine blk_drew ?_ | refine blk_alloc ?_ _)); exact BK262.out) Tryd.underlying24 rfl (by kernel_rfl)) rfl ?_
                      exact ⟨_, by first | rfl | (simp [errW_none, errW_some] <;> rfl) | (simp [*, errW_none, errW_some] <;> rfl), by (with_reducible repeat (first | apply Kd.R_alloc | apply Kd.R_drewN | apply Kd.R_drew)); exact Kd.R_mono (Kd.R_far (p := ⟨gb262, 1, none⟩) (Kd.R_far (p := ⟨gb262, 0, none⟩) (Kd.R_types HO_266000.out BK262.out (by decide)) (fun _ hk => hk.2) (.slice Ao116 x266000_3.length co116)) (fun _ hk => hk.2) (.bool a1_1)) (fun _ hk => trivial), hb_c⟩
        · rw [if_neg c25] at H
          have c25b0 : decide ((l0_0.length : Int) < (l1_0.length : Int)) = false := decide_eq_false c25
          have c25b1 : decide (l0_0.length < l1_0.length) = false := decide_eq_false (fun h => c25 (Int.ofNat_lt.mpr h))
          clear c25
          have HC120 := Aside0.mk H
          clear H
          have hnb121 := NB260_261.out
          have hnc121 := NB261_260.out
          have hnb122 := NB260_262.out
          have hnc122 := NB262_260.out
          have hcz123_0 : wc.cell? ⟨gb260, 0, none⟩ = some (.slice A0_0 l0_0.length c0_0) := (blk_cell BK260.out 0).trans rfl
          have hcz123_1 : wc.cell? ⟨gb260, 1, none⟩ = some (.bool a0_1) := (blk_cell BK260.out 1).trans rfl
          have hfz123_0 := blk_frozen BK260.out 0
          have hfz123_1 := blk_frozen BK260.out 1
          have hnb124 := NB261_262.out
          have hnc124 := NB262_261.out
          have hcz125_0 : wc.cell? ⟨gb261, 0, none⟩ = some (.slice A1_0 l1_0.length c1_0) := (blk_cell BK261.out 0).trans rfl
          have hcz125_1 : wc.cell? ⟨gb261, 1, none⟩ = some (.bool a1_1) := (blk_cell BK261.out 1).trans rfl
          have hfz125_0 := blk_frozen BK261.out 0
          have hfz125_1 := blk_frozen BK261.out 1
          go_upto_region 6 with (fail)
          go_cut [54] (fun v54 wc => ∃ (kq : Nat) (x54_119 : Bool), v54 = .bool x54_119 ∧ Aside0 (stockyardref03_Meet.j4 kq (l1_0.length : Int) x54_119 l0_0 a0_1 l1_0 a1_1 = some (r1, r2, r3)) ∧ Aside0 (kq ≤ kj2) ∧ Aside0 (wc.heap[gb260]? = some (.cells #[(.slice A0_0 l0_0.length c0_0), .bool a0_1] 24 (0, 0))) ∧ Aside0 (wc.heap[gb261]? = some (.cells #[(.slice A1_0 l1_0.length c1_0), .bool a1_1] 24 (0, 0))) ∧ Aside0 (wc.heap[gb262]? = some (.cells #[(.slice none 0 0), .bool false] 24 (0, 0))) ∧ Aside0 (Below w.heap.size w wc))
          case first =>
            have H := HC120.out
            clear HC120
            by_cases c126 : (l0_0.length : Int) > (l1_0.length : Int)
            · rw [if_pos c126] at H
              have c126b0 : decide ((l1_0.length : Int) < (l0_0.length : Int)) = true := decide_eq_true c126
              have c126b1 : decide (l1_0.length < l0_0.length) = true := decide_eq_true (Int.ofNat_lt.mp c126)
              clear c126
              (first | rw [c126b0] | (simp only [i64_w, i32_w]; rw [c126b0]) | skip)
              by_cases c127 : a1_1 = true
              · subst c127
                have H1 : (if (l0_0.length : Int) = (l1_0.length : Int) then (stockyardref03_Meet.j4 kj2 (l1_0.length : Int) (a0_1 != true) l0_0 a0_1 l1_0 true) else (stockyardref03_Meet.j4 kj2 (l1_0.length : Int) false l0_0 a0_1 l1_0 true)) = some (r1, r2, r3) := by rw [if_pos rfl] at H; exact H
                clear H
                have H := H1
                clear H1
                by_cases c128 : (l0_0.length : Int) = (l1_0.length : Int)
                · rw [if_pos c128] at H
                  have c128b0 : ((l0_0.length : Int) == (l1_0.length : Int)) = true := beq_iff_eq.mpr c128
                  have c128b1 : ((l0_0.length : Int) != (l1_0.length : Int)) = false := bne_eq_false_iff_eq.mpr c128
                  have c128b2 : (l0_0.length == l1_0.length) = true := by first | simpa using c128 | (simp at c128 ⊢; omega)
                  clear c128
                  have H' := Aside0.mk H
                  clear H
                  have hnb129 := NB260_261.out
                  have hnc129 := NB261_260.out
                  have hnb130 := NB260_262.out
                  have hnc130 := NB262_260.out
                  have hcz131_0 : wc.cell? ⟨gb260, 0, none⟩ = some (.slice A0_0 l0_0.length c0_0) := (blk_cell BK260.out 0).trans rfl
                  have hcz131_1 : wc.cell? ⟨gb260, 1, none⟩ = some (.bool a0_1) := (blk_cell BK260.out 1).trans rfl
                  have hfz131_0 := blk_frozen BK260.out 0
                  have hfz131_1 := blk_frozen BK260.out 1
                  have hnb132 := NB261_262.out
                  have hnc132 := NB262_261.out
                  have hcz133_0 : wc.cell? ⟨gb261, 0, none⟩ = some (.slice A1_0 l1_0.length c1_0) := (blk_cell BK261.out 0).trans rfl
                  have hcz133_1 : wc.cell? ⟨gb261, 1, none⟩ = some (.bool true) := (blk_cell BK261.out 1).trans rfl
                  have hfz133_0 := blk_frozen BK261.out 0
                  have hfz133_1 := blk_frozen BK261.out 1
                  go_wp2
                  go_meet
                  case rel => exact ⟨_, ((a0_1 != true)), (by first | rfl | (simp; done) | (simp [*]; done)), H', ⟨by have := HJ2.out; first | omega | exact Nat.le_refl _⟩, ⟨bk_c⟩, ⟨bk_c⟩, ⟨bk_c⟩, ⟨hb_c⟩⟩
                · rw [if_neg c128] at H
                  have c128b0 : ((l0_0.length : Int) == (l1_0.length : Int)) = false := beq_eq_false_iff_ne.mpr c128
                  have c128b1 : ((l0_0.length : Int) != (l1_0.length : Int)) = true := bne_iff_ne.mpr c128
                  have c128b2 : (l0_0.length == l1_0.length) = false := by first | simpa using c128 | (simp at c128 ⊢; omega)
                  have H' := Aside0.mk H
                  clear H
                  have hnb134 := NB260_261.out
                  have hnc134 := NB261_260.out
                  have hnb135 := NB260_262.out
                  have hnc135 := NB262_260.out
                  have hcz136_0 : wc.cell? ⟨gb260, 0, none⟩ = some (.slice A0_0 l0_0.length c0_0) := (blk_cell BK260.out 0).trans rfl
                  have hcz136_1 : wc.cell? ⟨gb260, 1, none⟩ = some (.bool a0_1) := (blk_cell BK260.out 1).trans rfl
                  have hfz136_0 := blk_frozen BK260.out 0
                  have hfz136_1 := blk_frozen BK260.out 1
                  have hnb137 := NB261_262.out
                  have hnc137 := NB262_261.out
                  have hcz138_0 : wc.cell? ⟨gb261, 0, none⟩ = some (.slice A1_0 l1_0.length c1_0) := (blk_cell BK261.out 0).trans rfl
                  have hcz138_1 : wc.cell? ⟨gb261, 1, none⟩ = some (.bool true) := (blk_cell BK261.out 1).trans rfl
                  have hfz138_0 := blk_frozen BK261.out 0
                  have hfz138_1 := blk_frozen BK261.out 1
                  go_wp2
                  go_meet
                  case rel => exact ⟨_, (false), (by first | rfl | (simp; done) | (simp [*]; done)), H', ⟨by have := HJ2.out; first | omega | exact Nat.le_refl _⟩, ⟨bk_c⟩, ⟨bk_c⟩, ⟨bk_c⟩, ⟨hb_c⟩⟩
              · replace c127 := Bool.eq_false_iff.mpr c127
                subst c127
                have H1 : (stockyardref03_Meet.j4 kj2 (l1_0.length : Int) true l0_0 a0_1 l1_0 false) = some (r1, r2, r3) := by rw [if_neg (show ¬ (false = true) by decide)] at H; exact H
                clear H
                have H := H1
                clear H1
                have H' := Aside0.mk H
                clear H
                have hnb139 := NB260_261.out
                have hnc139 := NB261_260.out
                have hnb140 := NB260_262.out
                have hnc140 := NB262_260.out
                have hcz141_0 : wc.cell? ⟨gb260, 0, none⟩ = some (.slice A0_0 l0_0.length c0_0) := (blk_cell BK260.out 0).trans rfl
                have hcz141_1 : wc.cell? ⟨gb260, 1, none⟩ = some (.bool a0_1) := (blk_cell BK260.out 1).trans rfl
                have hfz141_0 := blk_frozen BK260.out 0
                have hfz141_1 := blk_frozen BK260.out 1
                have hnb142 := NB261_262.out
                have hnc142 := NB262_261.out
                have hcz143_0 : wc.cell? ⟨gb261, 0, none⟩ = some (.slice A1_0 l1_0.length c1_0) := (blk_cell BK261.out 0).trans rfl
                have hcz143_1 : wc.cell? ⟨gb261, 1, none⟩ = some (.bool false) := (blk_cell BK261.out 1).trans rfl
                have hfz143_0 := blk_frozen BK261.out 0
                have hfz143_1 := blk_frozen BK261.out 1
                go_wp2
                go_meet
                case rel => exact ⟨_, (true), (by first | rfl | (simp; done) | (simp [*]; done)), H', ⟨by have := HJ2.out; first | omega | exact Nat.le_refl _⟩, ⟨bk_c⟩, ⟨bk_c⟩, ⟨bk_c⟩, ⟨hb_c⟩⟩
            · rw [if_neg c126] at H
              have c126b0 : decide ((l1_0.length : Int) < (l0_0.length : Int)) = false := decide_eq_false c126
              have c126b1 : decide (l1_0.length < l0_0.length) = false := decide_eq_false (fun h => c126 (Int.ofNat_lt.mpr h))
              clear c126
              (first | rw [c126b0] | (simp only [i64_w, i32_w]; rw [c126b0]) | skip)
              by_cases c144 : (l0_0.length : Int) = (l1_0.length : Int)
              · rw [if_pos c144] at H
                have c144b0 : ((l0_0.length : Int) == (l1_0.length : Int)) = true := beq_iff_eq.mpr c144
                have c144b1 : ((l0_0.length : Int) != (l1_0.length : Int)) = false := bne_eq_false_iff_eq.mpr c144
                have c144b2 : (l0_0.length == l1_0.length) = true := by first | simpa using c144 | (simp at c144 ⊢; omega)
                clear c144
                have H' := Aside0.mk H
                clear H
                have hnb145 := NB260_261.out
                have hnc145 := NB261_260.out
                have hnb146 := NB260_262.out
                have hnc146 := NB262_260.out
                have hcz147_0 : wc.cell? ⟨gb260, 0, none⟩ = some (.slice A0_0 l0_0.length c0_0) := (blk_cell BK260.out 0).trans rfl
                have hcz147_1 : wc.cell? ⟨gb260, 1, none⟩ = some (.bool a0_1) := (blk_cell BK260.out 1).trans rfl
                have hfz147_0 := blk_frozen BK260.out 0
                have hfz147_1 := blk_frozen BK260.out 1
                have hnb148 := NB261_262.out
                have hnc148 := NB262_261.out
                have hcz149_0 : wc.cell? ⟨gb261, 0, none⟩ = some (.slice A1_0 l1_0.length c1_0) := (blk_cell BK261.out 0).trans rfl
                have hcz149_1 : wc.cell? ⟨gb261, 1, none⟩ = some (.bool a1_1) := (blk_cell BK261.out 1).trans rfl
                have hfz149_0 := blk_frozen BK261.out 0
                have hfz149_1 := blk_frozen BK261.out 1
                go_wp2
                go_meet
                case rel => exact ⟨_, ((a0_1 != a1_1)), (by first | rfl | (simp; done) | (simp [*]; done)), H', ⟨by have := HJ2.out; first | omega | exact Nat.le_refl _⟩, ⟨bk_c⟩, ⟨bk_c⟩, ⟨bk_c⟩, ⟨hb_c⟩⟩
              · rw [if_neg c144] at H
                have c144b0 : ((l0_0.length : Int) == (l1_0.length : Int)) = false := beq_eq_false_iff_ne.mpr c144
                have c144b1 : ((l0_0.length : Int) != (l1_0.length : Int)) = true := bne_iff_ne.mpr c144
                have c144b2 : (l0_0.length == l1_0.length) = false := by first | simpa using c144 | (simp at c144 ⊢; omega)
                have H' := Aside0.mk H
                clear H
                have hnb150 := NB260_261.out
                have hnc150 := NB261_260.out
                have hnb151 := NB260_262.out
                have hnc151 := NB262_260.out
                have hcz152_0 : wc.cell? ⟨gb260, 0, none⟩ = some (.slice A0_0 l0_0.length c0_0) := (blk_cell BK260.out 0).trans rfl
                have hcz152_1 : wc.cell? ⟨gb260, 1, none⟩ = some (.bool a0_1) := (blk_cell BK260.out 1).trans rfl
                have hfz152_0 := blk_frozen BK260.out 0
                have hfz152_1 := blk_frozen BK260.out 1
                go_wp2
                go_meet
                case rel => exact ⟨_, (false), (by first | rfl | (simp; done) | (simp [*]; done)), H', ⟨by have := HJ2.out; first | omega | exact Nat.le_refl _⟩, ⟨bk_c⟩, ⟨bk_c⟩, ⟨bk_c⟩, ⟨hb_c⟩⟩
          case rest =>
            clear HC120; (try clear c1); (try clear c2); (try clear p2); (try clear q2); (try clear hx2); (try clear c3); (try clear c5); (try clear c6); (try clear p6); (try clear c7); (try clear c8); (try clear c9); (try clear c10); (try clear c11); (try clear c12); (try clear c13); (try clear c14); (try clear c15); (try clear c25); (try clear c25b0); (try clear c25b1); (try clear p26); (try clear q26); (try clear hx26); (try clear p27); (try clear q27); (try clear hx27); (try clear c30); (try clear c50); (try clear c50b0); (try clear c50b1); (try clear c50b2); (try clear c51); (try clear c52); (try clear c54); (try clear c56); (try clear c57); (try clear c59); (try clear c60); (try clear c61); (try clear c63); (try clear c64); (try clear p64); (try clear c67); (try clear c68); (try clear c69); (try clear c72); (try clear c72b0); (try clear c73); (try clear c73b0); (try clear c74); (try clear c74b0); (try clear c76); (try clear c76b0); (try clear c77); (try clear c77b0); (try clear c79); (try clear c80); (try clear c81); (try clear c83); (try clear c84); (try clear c85); (try clear c86); (try clear c87); (try clear c92); (try clear c92b0); (try clear c93); (try clear c93b0); (try clear c95); (try clear c96); (try clear c97); (try clear c98); (try clear c99); (try clear c105); (try clear c106); (try clear c107); (try clear c109); (try clear c110); (try clear c112); (try clear c113); (try clear c114); (try clear c117); (try clear c118); (try clear c121); (try clear c122); (try clear c124); (try clear c126); (try clear c126b0); (try clear c126b1); (try clear c127); (try clear c128); (try clear c128b0); (try clear c128b1); (try clear c128b2); (try clear c129); (try clear c130); (try clear c132); (try clear c134); (try clear c135); (try clear c137); (try clear c139); (try clear c140); (try clear c142); (try clear c144); (try clear c144b0); (try clear c144b1); (try clear c144b2); (try clear c145); (try clear c146); (try clear c148); (try clear c150); (try clear c151); (try clear hcz100_0); (try clear hcz100_1); (try clear hcz108_0); (try clear hcz108_1); (try clear hcz111_0); (try clear hcz111_1); (try clear hcz115_0); (try clear hcz115_1); (try clear hcz119_0); (try clear hcz119_1); (try clear hcz123_0); (try clear hcz123_1); (try clear hcz125_0); (try clear hcz125_1); (try clear hcz12_0); (try clear hcz12_1); (try clear hcz131_0); (try clear hcz131_1); (try clear hcz133_0); (try clear hcz133_1); (try clear hcz136_0); (try clear hcz136_1); (try clear hcz138_0); (try clear hcz138_1); (try clear hcz141_0); (try clear hcz141_1); (try clear hcz143_0); (try clear hcz143_1); (try clear hcz147_0); (try clear hcz147_1); (try clear hcz149_0); (try clear hcz149_1); (try clear hcz152_0); (try clear hcz152_1); (try clear hcz15_0); (try clear hcz15_1); (try clear hcz19_0); (try clear hcz19_1); (try clear hcz24_0); (try clear hcz24_1); (try clear hcz29_0); (try clear hcz29_1); (try clear hcz31_0); (try clear hcz31_1); (try clear hcz37_0); (try clear hcz37_1); (try clear hcz39_0); (try clear hcz39_1); (try clear hcz42_0); (try clear hcz42_1); (try clear hcz44_0); (try clear hcz44_1); (try clear hcz47_0); (try clear hcz47_1); (try clear hcz49_0); (try clear hcz49_1); (try clear hcz53_0); (try clear hcz53_1); (try clear hcz55_0); (try clear hcz55_1); (try clear hcz58_0); (try clear hcz58_1); (try clear hcz62_0); (try clear hcz62_1); (try clear hcz65_0); (try clear hcz65_1); (try clear hcz70_0); (try clear hcz70_1); (try clear hcz71_0); (try clear hcz71_1); (try clear hcz82_0); (try clear hcz82_1); (try clear hcz88_0); (try clear hcz88_1); (try clear hcz91_0); (try clear hcz91_1); (try clear hfz100_0); (try clear hfz100_1); (try clear hfz108_0); (try clear hfz108_1); (try clear hfz111_0); (try clear hfz111_1); (try clear hfz115_0); (try clear hfz115_1); (try clear hfz119_0); (try clear hfz119_1); (try clear hfz123_0); (try clear hfz123_1); (try clear hfz125_0); (try clear hfz125_1); (try clear hfz12_0); (try clear hfz12_1); (try clear hfz131_0); (try clear hfz131_1); (try clear hfz133_0); (try clear hfz133_1); (try clear hfz136_0); (try clear hfz136_1); (try clear hfz138_0); (try clear hfz138_1); (try clear hfz141_0); (try clear hfz141_1); (try clear hfz143_0); (try clear hfz143_1); (try clear hfz147_0); (try clear hfz147_1); (try clear hfz149_0); (try clear hfz149_1); (try clear hfz152_0); (try clear hfz152_1); (try clear hfz15_0); (try clear hfz15_1); (try clear hfz19_0); (try clear hfz19_1); (try clear hfz24_0); (try clear hfz24_1); (try clear hfz29_0); (try clear hfz29_1); (try clear hfz31_0); (try clear hfz31_1); (try clear hfz37_0); (try clear hfz37_1); (try clear hfz39_0); (try clear hfz39_1); (try clear hfz42_0); (try clear hfz42_1); (try clear hfz44_0); (try clear hfz44_1); (try clear hfz47_0); (try clear hfz47_1); (try clear hfz49_0); (try clear hfz49_1); (try clear hfz53_0); (try clear hfz53_1); (try clear hfz55_0); (try clear hfz55_1); (try clear hfz58_0); (try clear hfz58_1); (try clear hfz62_0); (try clear hfz62_1); (try clear hfz65_0); (try clear hfz65_1); (try clear hfz70_0); (try clear hfz70_1); (try clear hfz71_0); (try clear hfz71_1); (try clear hfz82_0); (try clear hfz82_1); (try clear hfz88_0); (try clear hfz88_1); (try clear hfz91_0); (try clear hfz91_1); (try clear hx266_0); (try clear hx267_0); (try clear hx272_0); (try clear hx274_0); (try clear p2); (try clear p266); (try clear p267); (try clear p272); (try clear p274); (try clear q266); (try clear q267); (try clear q272); (try clear q274)
            try clear BK260
            try clear BK261
            try clear BK262
            try clear HB
            obtain ⟨kq, x54_119, rfl, HA, HJ119, BK260, BK261, BK262, HB⟩ := hcut
            cases kq with
            | zero => exact absurd HA.out (by simp [stockyardref03_Meet.j4])
            | succ kj119 =>
              have H := HA.out
              clear HA
              simp only [stockyardref03_Meet.j4] at H
              by_cases c153 : x54_119 = true
              · subst c153
                have H1 : (some (([] : List ByteArray), false, false)) = some (r1, r2, r3) := by rw [if_pos rfl] at H; exact H
                clear H
                have H := H1
                clear H1
                simp only [Option.some.injEq, Prod.mk.injEq] at H
                obtain ⟨rfl, rfl, rfl⟩ := H
                have hnb154 := NB262_260.out
                have hnc154 := NB260_262.out
                have hnb155 := NB262_261.out
                have hnc155 := NB261_262.out
                have hcz156_0 : wc.cell? ⟨gb262, 0, none⟩ = some (.slice none 0 0) := (blk_cell BK262.out 0).trans rfl
                have hcz156_1 : wc.cell? ⟨gb262, 1, none⟩ = some (.bool false) := (blk_cell BK262.out 1).trans rfl
                have hfz156_0 := blk_frozen BK262.out 0
                have hfz156_1 := blk_frozen BK262.out 1
                go_wp2
                refine bodyPost_ret (results_ct rfl _ _ gb262 24 #[.slice none 0 0, .bool false] (0, 0) _ rfl (by (with_reducible repeat (first | refine blk_drewN ?_ _ | refine blk_drew ?_ | refine blk_alloc ?_ _)); refine blk_put (cs := #[.slice none 0 0, .bool false]) ?_ 1 _ rfl; (with_reducible repeat (first | refine blk_drewN ?_ _ | refine blk_drew ?_ | refine blk_alloc ?_ _)); refine blk_put (cs := #[.slice none 0 0, .bool false]) ?_ 0 _ rfl; (with_reducible repeat (first | refine blk_drewN ?_ _ | refine blk_drew ?_ | refine blk_alloc ?_ _)); exact BK262.out) Tryd.underlying24 rfl (by kernel_rfl)) rfl ?_
                exact ⟨_, by first | rfl | (simp [errW_none, errW_some] <;> rfl) | (simp [*, errW_none, errW_some] <;> rfl), by first | exact Kd.R_nil _ _ _ _ _ | exact Kd.N_nil _ _ _ _ _ | exact Kd.V_nil _ _ _ _ _ | exact Kd.Q_nil _ _ _ _ _ | exact Kd.S_nil _ _ _ _ _, hb_c⟩
              · replace c153 := Bool.eq_false_iff.mpr c153
                subst c153
                have H1 : (stockyardref03_Meet.l100 kj119 (l1_0.length : Int) l0_0 (l0_0.length : Int) 0 l1_0 a1_1 ([] : List ByteArray) a0_1) = some (r1, r2, r3) := by rw [if_neg (show ¬ (false = true) by decide)] at H; exact H
                clear H
                have H := H1
                clear H1
                have H' := Aside0.mk H
                clear H
                have hnb157 := NB260_261.out
                have hnc157 := NB261_260.out
                have hnb158 := NB260_262.out
                have hnc158 := NB262_260.out
                have hcz159_0 : wc.cell? ⟨gb260, 0, none⟩ = some (.slice A0_0 l0_0.length c0_0) := (blk_cell BK260.out 0).trans rfl
                have hcz159_1 : wc.cell? ⟨gb260, 1, none⟩ = some (.bool a0_1) := (blk_cell BK260.out 1).trans rfl
                have hfz159_0 := blk_frozen BK260.out 0
                have hfz159_1 := blk_frozen BK260.out 1
                go_wp2_with (first | ((with_reducible refine gate_dst (N := 7) rfl ?_); (try (refine gate_guard (by rfl) ?_; dsimp only)); refine box_event ?hg (N := 7) ?hd (cs := #[.slice none 0 0, .bool false]) (t := 24) ?hr ?_; (case hd => rfl); (case hg => rfl); (case hr => first | (go_simp; done) | (go_simp; rfl)); intro gb278 hg w160 hbox hb; have n0_ := Aside0.mk (blk_below (g := gb260) (o := .cells #[.slice A0_0 l0_0.length c0_0, .bool a0_1] 24 (0, 0)) bk_c hb); have n1_ := Aside0.mk (blk_below (g := gb261) (o := .cells #[.slice A1_0 l1_0.length c1_0, .bool a1_1] 24 (0, 0)) bk_c hb); have n2_ := Aside0.mk (blk_below (g := gb262) (o := .cells #[.slice none 0 0, .bool false] 24 (0, 0)) bk_c hb); have n3_ := Aside0.mk (below_step hb_c hb); have n4_ := Aside0.mk (hbox); have n5_ := Aside0.mk ((by rw [hg]; exact (below_size hb_c) : w.heap.size ≤ gb278)); have n6_ := Aside0.mk ((by rw [hg]; exact (below_size hb_c) : w.heap.size ≤ gb278)); have n7_ := Aside0.mk ((by rw [hg]; exact Nat.ne_of_lt (blk_lt (g := gb260) (o := .cells #[.slice A0_0 l0_0.length c0_0, .bool a0_1] 24 (0, 0)) bk_c) : gb260 ≠ gb278)); have n8_ := Aside0.mk ((by rw [hg]; exact Nat.ne_of_gt (blk_lt (g := gb260) (o := .cells #[.slice A0_0 l0_0.length c0_0, .bool a0_1] 24 (0, 0)) bk_c) : gb278 ≠ gb260)); have n9_ := Aside0.mk ((by rw [hg]; exact Nat.ne_of_lt (blk_lt (g := gb261) (o := .cells #[.slice A1_0 l1_0.length c1_0, .bool a1_1] 24 (0, 0)) bk_c) : gb261 ≠ gb278)); have n10_ := Aside0.mk ((by rw [hg]; exact Nat.ne_of_gt (blk_lt (g := gb261) (o := .cells #[.slice A1_0 l1_0.length c1_0, .bool a1_1] 24 (0, 0)) bk_c) : gb278 ≠ gb261)); have n11_ := Aside0.mk ((by rw [hg]; exact Nat.ne_of_lt (blk_lt (g := gb262) (o := .cells #[.slice none 0 0, .bool false] 24 (0, 0)) bk_c) : gb262 ≠ gb278)); have n12_ := Aside0.mk ((by rw [hg]; exact Nat.ne_of_gt (blk_lt (g := gb262) (o := .cells #[.slice none 0 0, .bool false] 24 (0, 0)) bk_c) : gb278 ≠ gb262)); clear BK260; clear BK261; clear BK262; clear HB; have BK260 := n0_; have BK261 := n1_; have BK262 := n2_; have HB := n3_; have BK278 := n4_; have GW278 := n5_; have GE278 := n6_; have NB260_278 := n7_; have NB278_260 := n8_; have NB261_278 := n9_; have NB278_261 := n10_; have NB262_278 := n11_; have NB278_262 := n12_; clear n0_ n1_ n2_ n3_ n4_ n5_ n6_ n7_ n8_ n9_ n10_ n11_ n12_; clear hb hbox hg; have hnb161 := NB278_260.out; have hnc161 := NB260_278.out; have hnb162 := NB278_261.out; have hnc162 := NB261_278.out; have hnb163 := NB278_262.out; have hnc163 := NB262_278.out; have hcz164_0 : w160.cell? ⟨gb278, 0, none⟩ = some (.slice none 0 0) := (blk_cell BK278.out 0).trans rfl; have hcz164_1 : w160.cell? ⟨gb278, 1, none⟩ = some (.bool false) := (blk_cell BK278.out 1).trans rfl; have hfz164_0 := blk_frozen BK278.out 0; have hfz164_1 := blk_frozen BK278.out 1; have hcz165_0 : w160.cell? ⟨gb260, 0, none⟩ = some (.slice A0_0 l0_0.length c0_0) := (blk_cell BK260.out 0).trans rfl; have hcz165_1 : w160.cell? ⟨gb260, 1, none⟩ = some (.bool a0_1) := (blk_cell BK260.out 1).trans rfl; have hfz165_0 := blk_frozen BK260.out 0; have hfz165_1 := blk_frozen BK260.out 1))
                go_loopg [62] kj119 (fun kq v62 w' => ∃ (x62_3 : Int) (x263001_3 : Bool) (x279000_3 : List ByteArray) (u279000 : Value), v62 = .int .i64 x62_3 ∧ Aside0 (stockyardref03_Meet.l100 kq (l1_0.length : Int) l0_0 (l0_0.length : Int) x62_3 l1_0 a1_1 x279000_3 a0_1 = some (r1, r2, r3)) ∧ Aside0 (kq ≤ kj119) ∧ Aside0 (Kd.R Kd.string 9 w' w.heap.size (fun _ => True) u279000 x279000_3) ∧ Aside0 (w'.heap[gb260]? = some (.cells #[(.slice A0_0 l0_0.length c0_0), .bool a0_1] 24 (0, 0))) ∧ Aside0 (w'.heap[gb261]? = some (.cells #[(.slice A1_0 l1_0.length c1_0), .bool a1_1] 24 (0, 0))) ∧ Aside0 (w'.heap[gb262]? = some (.cells #[(.slice none 0 0), .bool x263001_3] 24 (0, 0))) ∧ Aside0 (w'.heap[gb278]? = some (.cells #[u279000, .bool a0_1] 24 (0, 0))) ∧ Aside0 (Below w.heap.size w w'))
                case atStart => exact ⟨(0), (false), (([] : List ByteArray)), (.slice none 0 0), (by first | rfl | (simp; done) | (simp [*]; done)), H', ⟨Nat.le_refl _⟩, ⟨by first | exact Kd.R_nil _ _ _ _ _ | exact Kd.N_nil _ _ _ _ _ | exact Kd.V_nil _ _ _ _ _ | exact Kd.Q_nil _ _ _ _ _ | exact Kd.S_nil _ _ _ _ _⟩, ⟨by (with_reducible repeat (first | refine blk_drewN ?_ _ | refine blk_drew ?_ | refine blk_alloc ?_ _)); refine blk_far ?_ NB260_278.out _; (with_reducible repeat (first | refine blk_drewN ?_ _ | refine blk_drew ?_ | refine blk_alloc ?_ _)); refine blk_far ?_ NB260_278.out _; (with_reducible repeat (first | refine blk_drewN ?_ _ | refine blk_drew ?_ | refine blk_alloc ?_ _)); exact BK260.out⟩, ⟨by (with_reducible repeat (first | refine blk_drewN ?_ _ | refine blk_drew ?_ | refine blk_alloc ?_ _)); refine blk_far ?_ NB261_278.out _; (with_reducible repeat (first | refine blk_drewN ?_ _ | refine blk_drew ?_ | refine blk_alloc ?_ _)); refine blk_far ?_ NB261_278.out _; (with_reducible repeat (first | refine blk_drewN ?_ _ | refine blk_drew ?_ | refine blk_alloc ?_ _)); exact BK261.out⟩, ⟨by (with_reducible repeat (first | refine blk_drewN ?_ _ | refine blk_drew ?_ | refine blk_alloc ?_ _)); refine blk_far ?_ NB262_278.out _; (with_reducible repeat (first | refine blk_drewN ?_ _ | refine blk_drew ?_ | refine blk_alloc ?_ _)); refine blk_far ?_ NB262_278.out _; (with_reducible repeat (first | refine blk_drewN ?_ _ | refine blk_drew ?_ | refine blk_alloc ?_ _)); exact BK262.out⟩, ⟨by (with_reducible repeat (first | refine blk_drewN ?_ _ | refine blk_drew ?_ | refine blk_alloc ?_ _)); refine blk_put (cs := #[.slice none 0 0, .bool false]) ?_ 1 _ rfl; (with_reducible repeat (first | refine blk_drewN ?_ _ | refine blk_drew ?_ | refine blk_alloc ?_ _)); refine blk_put (cs := #[.slice none 0 0, .bool false]) ?_ 0 _ rfl; (with_reducible repeat (first | refine blk_drewN ?_ _ | refine blk_drew ?_ | refine blk_alloc ?_ _)); exact BK278.out⟩, ⟨hb_c⟩⟩
                case round =>
                  clear H'
                  (try clear c1); (try clear c2); (try clear p2); (try clear q2); (try clear hx2); (try clear c3); (try clear c5); (try clear c6); (try clear p6); (try clear c7); (try clear c8); (try clear c9); (try clear c10); (try clear c11); (try clear c12); (try clear c13); (try clear c14); (try clear c15); (try clear c16); (try clear c25); (try clear c25b0); (try clear c25b1); (try clear p26); (try clear q26); (try clear hx26); (try clear p27); (try clear q27); (try clear hx27); (try clear c30); (try clear c50); (try clear c50b0); (try clear c50b1); (try clear c50b2); (try clear c51); (try clear c52); (try clear c54); (try clear c56); (try clear c57); (try clear c59); (try clear c60); (try clear c61); (try clear c63); (try clear c64); (try clear p64); (try clear c67); (try clear c68); (try clear c69); (try clear c72); (try clear c72b0); (try clear c73); (try clear c73b0); (try clear c74); (try clear c74b0); (try clear c76); (try clear c76b0); (try clear c77); (try clear c77b0); (try clear c79); (try clear c80); (try clear c81); (try clear c83); (try clear c84); (try clear c85); (try clear c86); (try clear c87); (try clear c92); (try clear c92b0); (try clear c93); (try clear c93b0); (try clear c95); (try clear c96); (try clear c97); (try clear c98); (try clear c99); (try clear c105); (try clear c106); (try clear c107); (try clear c109); (try clear c110); (try clear c112); (try clear c113); (try clear c114); (try clear c117); (try clear c118); (try clear c121); (try clear c122); (try clear c124); (try clear c126); (try clear c126b0); (try clear c126b1); (try clear c127); (try clear c128); (try clear c128b0); (try clear c128b1); (try clear c128b2); (try clear c129); (try clear c130); (try clear c132); (try clear c134); (try clear c135); (try clear c137); (try clear c139); (try clear c140); (try clear c142); (try clear c144); (try clear c144b0); (try clear c144b1); (try clear c144b2); (try clear c145); (try clear c146); (try clear c148); (try clear c150); (try clear c151); (try clear c153); (try clear c154); (try clear c155); (try clear c157); (try clear c158); (try clear c161); (try clear c162); (try clear c163); (try clear hcz100_0); (try clear hcz100_1); (try clear hcz108_0); (try clear hcz108_1); (try clear hcz111_0); (try clear hcz111_1); (try clear hcz115_0); (try clear hcz115_1); (try clear hcz119_0); (try clear hcz119_1); (try clear hcz123_0); (try clear hcz123_1); (try clear hcz125_0); (try clear hcz125_1); (try clear hcz12_0); (try clear hcz12_1); (try clear hcz131_0); (try clear hcz131_1); (try clear hcz133_0); (try clear hcz133_1); (try clear hcz136_0); (try clear hcz136_1); (try clear hcz138_0); (try clear hcz138_1); (try clear hcz141_0); (try clear hcz141_1); (try clear hcz143_0); (try clear hcz143_1); (try clear hcz147_0); (try clear hcz147_1); (try clear hcz149_0); (try clear hcz149_1); (try clear hcz152_0); (try clear hcz152_1); (try clear hcz156_0); (try clear hcz156_1); (try clear hcz159_0); (try clear hcz159_1); (try clear hcz15_0); (try clear hcz15_1); (try clear hcz164_0); (try clear hcz164_1); (try clear hcz165_0); (try clear hcz165_1); (try clear hcz19_0); (try clear hcz19_1); (try clear hcz24_0); (try clear hcz24_1); (try clear hcz29_0); (try clear hcz29_1); (try clear hcz31_0); (try clear hcz31_1); (try clear hcz37_0); (try clear hcz37_1); (try clear hcz39_0); (try clear hcz39_1); (try clear hcz42_0); (try clear hcz42_1); (try clear hcz44_0); (try clear hcz44_1); (try clear hcz47_0); (try clear hcz47_1); (try clear hcz49_0); (try clear hcz49_1); (try clear hcz53_0); (try clear hcz53_1); (try clear hcz55_0); (try clear hcz55_1); (try clear hcz58_0); (try clear hcz58_1); (try clear hcz62_0); (try clear hcz62_1); (try clear hcz65_0); (try clear hcz65_1); (try clear hcz70_0); (try clear hcz70_1); (try clear hcz71_0); (try clear hcz71_1); (try clear hcz82_0); (try clear hcz82_1); (try clear hcz88_0); (try clear hcz88_1); (try clear hcz91_0); (try clear hcz91_1); (try clear hfz100_0); (try clear hfz100_1); (try clear hfz108_0); (try clear hfz108_1); (try clear hfz111_0); (try clear hfz111_1); (try clear hfz115_0); (try clear hfz115_1); (try clear hfz119_0); (try clear hfz119_1); (try clear hfz123_0); (try clear hfz123_1); (try clear hfz125_0); (try clear hfz125_1); (try clear hfz12_0); (try clear hfz12_1); (try clear hfz131_0); (try clear hfz131_1); (try clear hfz133_0); (try clear hfz133_1); (try clear hfz136_0); (try clear hfz136_1); (try clear hfz138_0); (try clear hfz138_1); (try clear hfz141_0); (try clear hfz141_1); (try clear hfz143_0); (try clear hfz143_1); (try clear hfz147_0); (try clear hfz147_1); (try clear hfz149_0); (try clear hfz149_1); (try clear hfz152_0); (try clear hfz152_1); (try clear hfz156_0); (try clear hfz156_1); (try clear hfz159_0); (try clear hfz159_1); (try clear hfz15_0); (try clear hfz15_1); (try clear hfz164_0); (try clear hfz164_1); (try clear hfz165_0); (try clear hfz165_1); (try clear hfz19_0); (try clear hfz19_1); (try clear hfz24_0); (try clear hfz24_1); (try clear hfz29_0); (try clear hfz29_1); (try clear hfz31_0); (try clear hfz31_1); (try clear hfz37_0); (try clear hfz37_1); (try clear hfz39_0); (try clear hfz39_1); (try clear hfz42_0); (try clear hfz42_1); (try clear hfz44_0); (try clear hfz44_1); (try clear hfz47_0); (try clear hfz47_1); (try clear hfz49_0); (try clear hfz49_1); (try clear hfz53_0); (try clear hfz53_1); (try clear hfz55_0); (try clear hfz55_1); (try clear hfz58_0); (try clear hfz58_1); (try clear hfz62_0); (try clear hfz62_1); (try clear hfz65_0); (try clear hfz65_1); (try clear hfz70_0); (try clear hfz70_1); (try clear hfz71_0); (try clear hfz71_1); (try clear hfz82_0); (try clear hfz82_1); (try clear hfz88_0); (try clear hfz88_1); (try clear hfz91_0); (try clear hfz91_1); (try clear hx266_0); (try clear hx267_0); (try clear hx272_0); (try clear hx274_0); (try clear p2); (try clear p26); (try clear p266); (try clear p267); (try clear p27); (try clear p272); (try clear p274); (try clear p6); (try clear p64); (try clear q2); (try clear q26); (try clear q266); (try clear q267); (try clear q27); (try clear q272); (try clear q274)
                  try clear BK260
                  try clear BK261
                  try clear BK262
                  try clear BK278
                  try clear HB
                  obtain ⟨x62_3, x263001_3, x279000_3, u279000, rfl, HA, HK3, HO_279000, BK260, BK261, BK262, BK278, HB⟩ := hrel
                  cases gk with
                  | zero => exact absurd HA.out (by simp [stockyardref03_Meet.l100])
                  | succ k3 =>
                    have H := HA.out
                    clear HA
                    simp only [stockyardref03_Meet.l100] at H
                    by_cases c166 : x62_3 < (l0_0.length : Int)
                    · rw [if_pos c166] at H
                      have c166b0 : decide (x62_3 < (l0_0.length : Int)) = true := decide_eq_true c166
                      clear c166
                      by_cases c167 : 0 ≤ x62_3
                      · rw [if_pos c167] at H
                        have c167b0 : decide (0 ≤ x62_3) = true := decide_eq_true c167
                        clear c167
                        by_cases c168 : x62_3 < (l0_0.length : Int)
                        · rw [if_pos c168] at H
                          have c168b0 : decide (x62_3 < (l0_0.length : Int)) = true := decide_eq_true c168
                          clear c168
                          have HC169 := Aside0.mk H
                          clear H
                          have p279 : 0 ≤ (x62_3 : Int) := of_decide_eq_true (by first | (with_reducible assumption) | assumption)
                          have q279 : x62_3 < (l0_0.length : Int) := of_decide_eq_true (by first | (with_reducible assumption) | assumption)
                          obtain ⟨ad279, e279, hx279_0⟩ := Kd.at_string HR0_0.out x62_3 p279 q279
                          cases e279
                          replace hx279_0 := (HB.out.cell (World.block_lt_of_cell? w _ hx279_0)).trans hx279_0
                          replace p279 := eq_true p279
                          replace q279 := eq_true q279
                          go_upto_region 13 with (fail)
                          go_cut [68] (fun v68 wc => ∃ (kq : Nat) (x68_168 : Bool), v68 = .bool x68_168 ∧ Aside0 (stockyardref03_Meet.j6 kq (l1_0.length : Int) x62_3 (rdOf ByteArray.empty l0_0 x62_3) l0_0 (l0_0.length : Int) x62_3 x68_168 l1_0 a1_1 x279000_3 a0_1 = some (r1, r2, r3)) ∧ Aside0 (kq ≤ k3) ∧ Aside0 (Kd.R Kd.string 9 wc w.heap.size (fun _ => True) u279000 x279000_3) ∧ Aside0 (wc.heap[gb260]? = some (.cells #[(.slice (some ad279) l0_0.length c0_0), .bool a0_1] 24 (0, 0))) ∧ Aside0 (wc.heap[gb261]? = some (.cells #[(.slice A1_0 l1_0.length c1_0), .bool a1_1] 24 (0, 0))) ∧ Aside0 (wc.heap[gb262]? = some (.cells #[(.slice none 0 0), .bool x263001_3] 24 (0, 0))) ∧ Aside0 (wc.heap[gb278]? = some (.cells #[u279000, .bool a0_1] 24 (0, 0))) ∧ Aside0 (Below w.heap.size w wc))
                          case first =>
                            have H := HC169.out
                            clear HC169
                            by_cases c170 : x62_3 ≥ (l1_0.length : Int)
                            · rw [if_pos c170] at H
                              have c170b0 : decide ((l1_0.length : Int) ≤ x62_3) = true := decide_eq_true c170
                              clear c170
                              (first | rw [c170b0] | (simp only [i64_w, i32_w]; rw [c170b0]) | skip)
                              have H' := Aside0.mk H
                              clear H
                              go_wp2
                              go_meet
                              case rel => exact ⟨_, (true), (by first | rfl | (simp; done) | (simp [*]; done)), H', ⟨by have := HJ2.out; have := HJ119.out; have := HK3.out; first | omega | exact Nat.le_refl _⟩, ⟨by (with_reducible repeat (first | apply Kd.R_alloc | apply Kd.R_drewN | apply Kd.R_drew)); exact HO_279000.out⟩, ⟨bk_c⟩, ⟨bk_c⟩, ⟨bk_c⟩, ⟨bk_c⟩, ⟨hb_c⟩⟩
                            · rw [if_neg c170] at H
                              have c170b0 : decide ((l1_0.length : Int) ≤ x62_3) = false := decide_eq_false c170
                              clear c170
                              (first | rw [c170b0] | (simp only [i64_w, i32_w]; rw [c170b0]) | skip)
                              by_cases c171 : x62_3 < (l1_0.length : Int)
                              · rw [if_pos c171] at H
                                have c171b0 : decide (x62_3 < (l1_0.length : Int)) = true := decide_eq_true c171
                                clear c171
                                replace H := Option.bind_eq_some_iff.mp H
                                obtain ⟨t281, A1720, H⟩ := H
                                replace H : (stockyardref03_Meet.j6 k3 (l1_0.length : Int) x62_3 (rdOf ByteArray.empty l0_0 x62_3) l0_0 (l0_0.length : Int) x62_3 t281 l1_0 a1_1 x279000_3 a0_1) = some (r1, r2, r3) := H
                                have A172 := Aside0.mk A1720
                                clear A1720
                                have H' := Aside0.mk H
                                clear H
                                have hnb173 := NB261_260.out
                                have hnc173 := NB260_261.out
                                have hnb174 := NB261_262.out
                                have hnc174 := NB262_261.out
                                have hnb175 := NB261_278.out
                                have hnc175 := NB278_261.out
                                have hcz176_0 : wr.cell? ⟨gb261, 0, none⟩ = some (.slice A1_0 l1_0.length c1_0) := (blk_cell BK261.out 0).trans rfl
                                have hcz176_1 : wr.cell? ⟨gb261, 1, none⟩ = some (.bool a1_1) := (blk_cell BK261.out 1).trans rfl
                                have hfz176_0 := blk_frozen BK261.out 0
                                have hfz176_1 := blk_frozen BK261.out 1
                                have p280 : 0 ≤ (x62_3 : Int) := of_decide_eq_true (by first | (with_reducible assumption) | assumption)
                                have q280 : x62_3 < (l1_0.length : Int) := of_decide_eq_true (by first | (with_reducible assumption) | assumption)
                                obtain ⟨ad280, e280, hx280_0⟩ := Kd.at_string HR1_0.out x62_3 p280 q280
                                cases e280
                                replace hx280_0 := (HB.out.cell (World.block_lt_of_cell? w _ hx280_0)).trans hx280_0
                                replace p280 := eq_true p280
                                replace q280 := eq_true q280
                                go_wp2_with (first | (go_at_call 30; (with_reducible refine (stockyardref03_Inside.calls k3 (rdOf ByteArray.empty l0_0 x62_3) (rdOf ByteArray.empty l1_0 x62_3) t281 _ A172.out).mono ?_); rintro e w' ⟨rfl, ⟨nd, rfl⟩⟩))
                                go_meet
                                case rel => exact ⟨_, (t281), (by first | rfl | (simp; done) | (simp [*]; done)), H', ⟨by have := HJ2.out; have := HJ119.out; have := HK3.out; first | omega | exact Nat.le_refl _⟩, ⟨by (with_reducible repeat (first | apply Kd.R_alloc | apply Kd.R_drewN | apply Kd.R_drew)); exact HO_279000.out⟩, ⟨bk_c⟩, ⟨bk_c⟩, ⟨bk_c⟩, ⟨bk_c⟩, ⟨hb_c⟩⟩
                              · rw [if_neg c171] at H
                                exact absurd H (by simp)
                          case rest =>
                            clear HC169; (try clear c1); (try clear c2); (try clear p2); (try clear q2); (try clear hx2); (try clear c3); (try clear c5); (try clear c6); (try clear p6); (try clear c7); (try clear c8); (try clear c9); (try clear c10); (try clear c11); (try clear c12); (try clear c13); (try clear c14); (try clear c15); (try clear c16); (try clear c17); (try clear c25); (try clear c25b0); (try clear c25b1); (try clear p26); (try clear q26); (try clear hx26); (try clear p27); (try clear q27); (try clear hx27); (try clear p28); (try clear q28); (try clear hx28); (try clear c30); (try clear c50); (try clear c50b0); (try clear c50b1); (try clear c50b2); (try clear c51); (try clear c52); (try clear c54); (try clear c56); (try clear c57); (try clear c59); (try clear c60); (try clear c61); (try clear c63); (try clear c64); (try clear p64); (try clear c67); (try clear c68); (try clear c69); (try clear c72); (try clear c72b0); (try clear c73); (try clear c73b0); (try clear c74); (try clear c74b0); (try clear c76); (try clear c76b0); (try clear c77); (try clear c77b0); (try clear c79); (try clear c80); (try clear c81); (try clear c83); (try clear c84); (try clear c85); (try clear c86); (try clear c87); (try clear c92); (try clear c92b0); (try clear c93); (try clear c93b0); (try clear c95); (try clear c96); (try clear c97); (try clear c98); (try clear c99); (try clear c105); (try clear c106); (try clear c107); (try clear c109); (try clear c110); (try clear c112); (try clear c113); (try clear c114); (try clear c117); (try clear c118); (try clear c121); (try clear c122); (try clear c124); (try clear c126); (try clear c126b0); (try clear c126b1); (try clear c127); (try clear c128); (try clear c128b0); (try clear c128b1); (try clear c128b2); (try clear c129); (try clear c130); (try clear c132); (try clear c134); (try clear c135); (try clear c137); (try clear c139); (try clear c140); (try clear c142); (try clear c144); (try clear c144b0); (try clear c144b1); (try clear c144b2); (try clear c145); (try clear c146); (try clear c148); (try clear c150); (try clear c151); (try clear c153); (try clear c154); (try clear c155); (try clear c157); (try clear c158); (try clear c161); (try clear c162); (try clear c163); (try clear c166); (try clear c166b0); (try clear c167); (try clear c167b0); (try clear c168); (try clear c168b0); (try clear c170); (try clear c170b0); (try clear c171); (try clear c171b0); (try clear c173); (try clear c174); (try clear c175); (try clear hcz100_0); (try clear hcz100_1); (try clear hcz108_0); (try clear hcz108_1); (try clear hcz111_0); (try clear hcz111_1); (try clear hcz115_0); (try clear hcz115_1); (try clear hcz119_0); (try clear hcz119_1); (try clear hcz123_0); (try clear hcz123_1); (try clear hcz125_0); (try clear hcz125_1); (try clear hcz12_0); (try clear hcz12_1); (try clear hcz131_0); (try clear hcz131_1); (try clear hcz133_0); (try clear hcz133_1); (try clear hcz136_0); (try clear hcz136_1); (try clear hcz138_0); (try clear hcz138_1); (try clear hcz141_0); (try clear hcz141_1); (try clear hcz143_0); (try clear hcz143_1); (try clear hcz147_0); (try clear hcz147_1); (try clear hcz149_0); (try clear hcz149_1); (try clear hcz152_0); (try clear hcz152_1); (try clear hcz156_0); (try clear hcz156_1); (try clear hcz159_0); (try clear hcz159_1); (try clear hcz15_0); (try clear hcz15_1); (try clear hcz164_0); (try clear hcz164_1); (try clear hcz165_0); (try clear hcz165_1); (try clear hcz176_0); (try clear hcz176_1); (try clear hcz19_0); (try clear hcz19_1); (try clear hcz24_0); (try clear hcz24_1); (try clear hcz29_0); (try clear hcz29_1); (try clear hcz31_0); (try clear hcz31_1); (try clear hcz37_0); (try clear hcz37_1); (try clear hcz39_0); (try clear hcz39_1); (try clear hcz42_0); (try clear hcz42_1); (try clear hcz44_0); (try clear hcz44_1); (try clear hcz47_0); (try clear hcz47_1); (try clear hcz49_0); (try clear hcz49_1); (try clear hcz53_0); (try clear hcz53_1); (try clear hcz55_0); (try clear hcz55_1); (try clear hcz58_0); (try clear hcz58_1); (try clear hcz62_0); (try clear hcz62_1); (try clear hcz65_0); (try clear hcz65_1); (try clear hcz70_0); (try clear hcz70_1); (try clear hcz71_0); (try clear hcz71_1); (try clear hcz82_0); (try clear hcz82_1); (try clear hcz88_0); (try clear hcz88_1); (try clear hcz91_0); (try clear hcz91_1); (try clear hfz100_0); (try clear hfz100_1); (try clear hfz108_0); (try clear hfz108_1); (try clear hfz111_0); (try clear hfz111_1); (try clear hfz115_0); (try clear hfz115_1); (try clear hfz119_0); (try clear hfz119_1); (try clear hfz123_0); (try clear hfz123_1); (try clear hfz125_0); (try clear hfz125_1); (try clear hfz12_0); (try clear hfz12_1); (try clear hfz131_0); (try clear hfz131_1); (try clear hfz133_0); (try clear hfz133_1); (try clear hfz136_0); (try clear hfz136_1); (try clear hfz138_0); (try clear hfz138_1); (try clear hfz141_0); (try clear hfz141_1); (try clear hfz143_0); (try clear hfz143_1); (try clear hfz147_0); (try clear hfz147_1); (try clear hfz149_0); (try clear hfz149_1); (try clear hfz152_0); (try clear hfz152_1); (try clear hfz156_0); (try clear hfz156_1); (try clear hfz159_0); (try clear hfz159_1); (try clear hfz15_0); (try clear hfz15_1); (try clear hfz164_0); (try clear hfz164_1); (try clear hfz165_0); (try clear hfz165_1); (try clear hfz176_0); (try clear hfz176_1); (try clear hfz19_0); (try clear hfz19_1); (try clear hfz24_0); (try clear hfz24_1); (try clear hfz29_0); (try clear hfz29_1); (try clear hfz31_0); (try clear hfz31_1); (try clear hfz37_0); (try clear hfz37_1); (try clear hfz39_0); (try clear hfz39_1); (try clear hfz42_0); (try clear hfz42_1); (try clear hfz44_0); (try clear hfz44_1); (try clear hfz47_0); (try clear hfz47_1); (try clear hfz49_0); (try clear hfz49_1); (try clear hfz53_0); (try clear hfz53_1); (try clear hfz55_0); (try clear hfz55_1); (try clear hfz58_0); (try clear hfz58_1); (try clear hfz62_0); (try clear hfz62_1); (try clear hfz65_0); (try clear hfz65_1); (try clear hfz70_0); (try clear hfz70_1); (try clear hfz71_0); (try clear hfz71_1); (try clear hfz82_0); (try clear hfz82_1); (try clear hfz88_0); (try clear hfz88_1); (try clear hfz91_0); (try clear hfz91_1); (try clear hx266_0); (try clear hx267_0); (try clear hx272_0); (try clear hx274_0); (try clear hx279_0); (try clear hx280_0); (try clear p2); (try clear p26); (try clear p266); (try clear p267); (try clear p27); (try clear p272); (try clear p274); (try clear p279); (try clear p280); (try clear p6); (try clear p64); (try clear q2); (try clear q26); (try clear q266); (try clear q267); (try clear q27); (try clear q272); (try clear q274); (try clear q279); (try clear q280)
                            try clear BK260
                            try clear BK261
                            try clear BK262
                            try clear BK278
                            try clear HB
                            obtain ⟨kq, x68_168, rfl, HA, HJ168, HO_279000, BK260, BK261, BK262, BK278, HB⟩ := hcut
                            cases kq with
                            | zero => exact absurd HA.out (by simp [stockyardref03_Meet.j6])
                            | succ kj168 =>
                              have H := HA.out
                              clear HA
                              simp only [stockyardref03_Meet.j6] at H
                              by_cases c177 : x68_168 = true
                              · subst c177
                                have H1 : (if x279000_3.length < 8796093022208 then (stockyardref03_Meet.l100 kj168 (l1_0.length : Int) l0_0 (l0_0.length : Int) (wrap64 (x62_3 + 1)) l1_0 a1_1 (x279000_3 ++ [(rdOf ByteArray.empty l0_0 x62_3)]) a0_1) else (none)) = some (r1, r2, r3) := by rw [if_pos rfl] at H; exact H
                                clear H
                                have H := H1
                                clear H1
                                by_cases c178 : x279000_3.length < 8796093022208
                                · rw [if_pos c178] at H
                                  have LMc178 := Aside0.mk c178
                                  clear c178
                                  obtain ⟨y282, hy282⟩ : ∃ y_ : List ByteArray, y_ = (x279000_3 ++ [(rdOf ByteArray.empty l0_0 x62_3)]) := ⟨_, rfl⟩
                                  replace H : (stockyardref03_Meet.l100 kj168 (l1_0.length : Int) l0_0 (l0_0.length : Int) (wrap64 (x62_3 + 1)) l1_0 a1_1 y282 a0_1) = some (r1, r2, r3) := by first | (rw [hy282]; with_reducible exact H) | (have H2_ := (Option.bind_some _ _).symm.trans H; rw [hy282]; with_reducible exact H2_) | (have H2_ := (Option.bind_some _ _).symm.trans H; with_reducible exact H2_) | with_reducible exact H | (rw [hy282]; exact H) | exact H
                                  have Ny282 := Aside0.mk hy282
                                  clear hy282
                                  have H' := Aside0.mk H
                                  clear H
                                  have hnb179 := NB278_260.out
                                  have hnc179 := NB260_278.out
                                  have hnb180 := NB278_261.out
                                  have hnc180 := NB261_278.out
                                  have hnb181 := NB278_262.out
                                  have hnc181 := NB262_278.out
                                  have hcz182_0 : wc.cell? ⟨gb278, 0, none⟩ = some (u279000) := (blk_cell BK278.out 0).trans rfl
                                  have hcz182_1 : wc.cell? ⟨gb278, 1, none⟩ = some (.bool a0_1) := (blk_cell BK278.out 1).trans rfl
                                  have hfz182_0 := blk_frozen BK278.out 0
                                  have hfz182_1 := blk_frozen BK278.out 1
                                  go_wp2_with (first | ((with_reducible refine gate_builtin (b := .append) (xs := #[.tmp 82, .tmp 84]) rfl ?_); (try (refine gate_guard (by rfl) ?_; dsimp only)); at_builtin; refine Kd.R_append Kd.string (w0 := w) w.heap.size rfl (.tmp 82) (.tmp 84) 22 9 (.string ⟨#[]⟩) 16 rfl Tryd.underlying22 info9 rfl (by decide) (by omega) u279000 x279000_3 (rdOf ByteArray.empty l0_0 x62_3) [.string (rdOf ByteArray.empty l0_0 x62_3)] (fun _ => True) (fun _ => False) rfl rfl ?aP (fun _ hk => hk.elim) ?aF ?aO ?aB ?aS ?aL ?_; (case aP => exact rfl); (case aB => exact hb_c); (case aF => exact (fun _ _ => trivial)); (case aO => exact (by (with_reducible repeat (first | apply Kd.R_alloc | apply Kd.R_drewN | apply Kd.R_drew)); exact HO_279000.out)); (case aS => exact (below_size hb_c)); (case aL => have := LMc178.out; omega); intro v283 w183 ho hb hg hat; rw [← Ny282.out] at ho; have n0_ := Aside0.mk (blk_grown (g := gb260) (o := .cells #[.slice (some ad279) l0_0.length c0_0, .bool a0_1] 24 (0, 0)) bk_c hg (Kd.R_ne HO_279000.out BK260.out (by decide))); have n1_ := Aside0.mk (blk_grown (g := gb261) (o := .cells #[.slice A1_0 l1_0.length c1_0, .bool a1_1] 24 (0, 0)) bk_c hg (Kd.R_ne HO_279000.out BK261.out (by decide))); have n2_ := Aside0.mk (blk_grown (g := gb262) (o := .cells #[.slice none 0 0, .bool x263001_3] 24 (0, 0)) bk_c hg (Kd.R_ne HO_279000.out BK262.out (by decide))); have n3_ := Aside0.mk (blk_grown (g := gb278) (o := .cells #[u279000, .bool a0_1] 24 (0, 0)) bk_c hg (Kd.R_ne HO_279000.out BK278.out (by decide))); have n4_ := Aside0.mk (hb); have n5_ := Aside0.mk (ho); clear BK260; clear BK261; clear BK262; clear BK278; clear HB; clear HO_279000; have BK260 := n0_; have BK261 := n1_; have BK262 := n2_; have BK278 := n3_; have HB := n4_; have HO284 := n5_; clear n0_ n1_ n2_ n3_ n4_ n5_; clear ho hb hg hat; obtain ⟨Ao184, co184, eo184⟩ := Kd.R_slice HO284.out; subst eo184; have hcz185_0 : w183.cell? ⟨gb278, 0, none⟩ = some (u279000) := (blk_cell BK278.out 0).trans rfl; have hcz185_1 : w183.cell? ⟨gb278, 1, none⟩ = some (.bool a0_1) := (blk_cell BK278.out 1).trans rfl; have hfz185_0 := blk_frozen BK278.out 0; have hfz185_1 := blk_frozen BK278.out 1))
                                  go_roundg kj168
                                  case measure => have := HJ2.out; have := HJ119.out; have := HK3.out; have := HJ168.out; omega
                                  case rel => exact ⟨(wrap64 (x62_3 + 1)), (x263001_3), (y282), (.slice Ao184 y282.length co184), (by first | rfl | (simp; done) | (simp [*]; done)), H', ⟨by have := HJ2.out; have := HJ119.out; have := HK3.out; have := HJ168.out; omega⟩, ⟨by (with_reducible repeat (first | apply Kd.R_alloc | apply Kd.R_drewN | apply Kd.R_drew)); exact Kd.R_mono (Kd.R_far (p := ⟨gb278, 0, none⟩) (Kd.R_types HO284.out BK278.out (by decide)) (fun _ hk => hk.2) (.slice Ao184 y282.length co184)) (fun _ hk => trivial)⟩, ⟨by (with_reducible repeat (first | refine blk_drewN ?_ _ | refine blk_drew ?_ | refine blk_alloc ?_ _)); refine blk_far ?_ NB260_278.out _; (with_reducible repeat (first | refine blk_drewN ?_ _ | refine blk_drew ?_ | refine blk_alloc ?_ _)); exact BK260.out⟩, ⟨by (with_reducible repeat (first | refine blk_drewN ?_ _ | refine blk_drew ?_ | refine blk_alloc ?_ _)); refine blk_far ?_ NB261_278.out _; (with_reducible repeat (first | refine blk_drewN ?_ _ | refine blk_drew ?_ | refine blk_alloc ?_ _)); exact BK261.out⟩, ⟨by (with_reducible repeat (first | refine blk_drewN ?_ _ | refine blk_drew ?_ | refine blk_alloc ?_ _)); refine blk_far ?_ NB262_278.out _; (with_reducible repeat (first | refine blk_drewN ?_ _ | refine blk_drew ?_ | refine blk_alloc ?_ _)); exact BK262.out⟩, ⟨by (with_reducible repeat (first | refine blk_drewN ?_ _ | refine blk_drew ?_ | refine blk_alloc ?_ _)); refine blk_put (cs := #[u279000, .bool a0_1]) ?_ 0 _ rfl; (with_reducible repeat (first | refine blk_drewN ?_ _ | refine blk_drew ?_ | refine blk_alloc ?_ _)); exact BK278.out⟩, ⟨hb_c⟩⟩
                                · rw [if_neg c178] at H
                                  exact absurd H (by simp)
                              · replace c177 := Bool.eq_false_iff.mpr c177
                                subst c177
                                have H1 : (if 0 ≤ x62_3 then (if x62_3 < (l1_0.length : Int) then ((stockyardref03_Inside.f kj168 (rdOf ByteArray.empty l1_0 x62_3) (rdOf ByteArray.empty l0_0 x62_3)).bind fun t286 => (if t286 = true then (if x279000_3.length < 8796093022208 then (stockyardref03_Meet.l100 kj168 (l1_0.length : Int) l0_0 (l0_0.length : Int) (wrap64 (x62_3 + 1)) l1_0 a1_1 (x279000_3 ++ [rdOf ByteArray.empty l1_0 x62_3]) a0_1) else (none)) else (some (([] : List ByteArray), false, false)))) else (none)) else (none)) = some (r1, r2, r3) := by rw [if_neg (show ¬ (false = true) by decide)] at H; exact H
                                clear H
                                have H := H1
                                clear H1
                                by_cases c186 : 0 ≤ x62_3
                                · rw [if_pos c186] at H
                                  have c186b0 : decide (0 ≤ x62_3) = true := decide_eq_true c186
                                  clear c186
                                  by_cases c187 : x62_3 < (l1_0.length : Int)
                                  · rw [if_pos c187] at H
                                    have c187b0 : decide (x62_3 < (l1_0.length : Int)) = true := decide_eq_true c187
                                    clear c187
                                    replace H := Option.bind_eq_some_iff.mp H
                                    obtain ⟨t286, A1880, H⟩ := H
                                    replace H : (if t286 = true then (if x279000_3.length < 8796093022208 then (stockyardref03_Meet.l100 kj168 (l1_0.length : Int) l0_0 (l0_0.length : Int) (wrap64 (x62_3 + 1)) l1_0 a1_1 (x279000_3 ++ [rdOf ByteArray.empty l1_0 x62_3]) a0_1) else (none)) else (some (([] : List ByteArray), false, false))) = some (r1, r2, r3) := H
                                    have A188 := Aside0.mk A1880
                                    clear A1880
                                    by_cases c189 : t286 = true
                                    · subst c189
                                      have H1 : (if x279000_3.length < 8796093022208 then (stockyardref03_Meet.l100 kj168 (l1_0.length : Int) l0_0 (l0_0.length : Int) (wrap64 (x62_3 + 1)) l1_0 a1_1 (x279000_3 ++ [rdOf ByteArray.empty l1_0 x62_3]) a0_1) else (none)) = some (r1, r2, r3) := by rw [if_pos rfl] at H; exact H
                                      clear H
                                      have H := H1
                                      clear H1
                                      by_cases c190 : x279000_3.length < 8796093022208
                                      · rw [if_pos c190] at H
                                        have LMc190 := Aside0.mk c190
                                        clear c190
                                        obtain ⟨y288, hy288⟩ : ∃ y_ : List ByteArray, y_ = (x279000_3 ++ [rdOf ByteArray.empty l1_0 x62_3]) := ⟨_, rfl⟩
                                        replace H : (stockyardref03_Meet.l100 kj168 (l1_0.length : Int) l0_0 (l0_0.length : Int) (wrap64 (x62_3 + 1)) l1_0 a1_1 y288 a0_1) = some (r1, r2, r3) := by first | (rw [hy288]; with_reducible exact H) | (have H2_ := (Option.bind_some _ _).symm.trans H; rw [hy288]; with_reducible exact H2_) | (have H2_ := (Option.bind_some _ _).symm.trans H; with_reducible exact H2_) | with_reducible exact H | (rw [hy288]; exact H) | exact H
                                        have Ny288 := Aside0.mk hy288
                                        clear hy288
                                        have H' := Aside0.mk H
                                        clear H
                                        have hnb191 := NB261_260.out
                                        have hnc191 := NB260_261.out
                                        have hnb192 := NB261_262.out
                                        have hnc192 := NB262_261.out
                                        have hnb193 := NB261_278.out
                                        have hnc193 := NB278_261.out
                                        have hcz194_0 : wc.cell? ⟨gb261, 0, none⟩ = some (.slice A1_0 l1_0.length c1_0) := (blk_cell BK261.out 0).trans rfl
                                        have hcz194_1 : wc.cell? ⟨gb261, 1, none⟩ = some (.bool a1_1) := (blk_cell BK261.out 1).trans rfl
                                        have hfz194_0 := blk_frozen BK261.out 0
                                        have hfz194_1 := blk_frozen BK261.out 1
                                        have p285 : 0 ≤ (x62_3 : Int) := of_decide_eq_true (by first | (with_reducible assumption) | assumption)
                                        have q285 : x62_3 < (l1_0.length : Int) := of_decide_eq_true (by first | (with_reducible assumption) | assumption)
                                        obtain ⟨ad285, e285, hx285_0⟩ := Kd.at_string HR1_0.out x62_3 p285 q285
                                        cases e285
                                        replace hx285_0 := (HB.out.cell (World.block_lt_of_cell? w _ hx285_0)).trans hx285_0
                                        replace p285 := eq_true p285
                                        replace q285 := eq_true q285
                                        try go_wp2_with (first | ((with_reducible refine gate_callee (f := 30) rfl ?_); refine goesL_ (some 94) rfl rfl Tryd.func30 (by kernel_rfl) rfl #[.string (rdOf ByteArray.empty l1_0 x62_3), .string (rdOf ByteArray.empty l0_0 x62_3)] rfl (by (try simp only [List.map_toArray, List.map_cons, List.map_nil]); first | done | rfl | (simp only [List.length_drop, List.length_take]; rfl)) ?_; (with_reducible refine (stockyardref03_Inside.calls kj168 (rdOf ByteArray.empty l1_0 x62_3) (rdOf ByteArray.empty l0_0 x62_3) true _ A188.out).mono ?_); rintro e w' ⟨rfl, ⟨nd, rfl⟩⟩; refine ⟨_, rfl, ?_⟩; (try (rw [drewN_self wc]; generalize hq_ : World.drewN wc _ = wc; have n0_ : Aside0 (Kd.R Kd.string 9 wc w.heap.size (fun _ => True) u279000 x279000_3) := ⟨by rw [← hq_]; exact (by (with_reducible repeat (first | apply Kd.R_alloc | apply Kd.R_drewN | apply Kd.R_drew)); exact HO_279000.out)⟩; have n1_ : Aside0 (wc.heap[gb260]? = some (.cells #[.slice (some ad279) l0_0.length c0_0, .bool a0_1] 24 (0, 0))) := ⟨by rw [← hq_]; exact bk_c⟩; have n2_ : Aside0 (wc.heap[gb261]? = some (.cells #[.slice (some ad285) l1_0.length c1_0, .bool a1_1] 24 (0, 0))) := ⟨by rw [← hq_]; exact bk_c⟩; have n3_ : Aside0 (wc.heap[gb262]? = some (.cells #[.slice none 0 0, .bool x263001_3] 24 (0, 0))) := ⟨by rw [← hq_]; exact bk_c⟩; have n4_ : Aside0 (wc.heap[gb278]? = some (.cells #[u279000, .bool a0_1] 24 (0, 0))) := ⟨by rw [← hq_]; exact bk_c⟩; have n5_ : Aside0 (Below w.heap.size w wc) := ⟨by rw [← hq_]; exact hb_c⟩; clear HO_279000 BK260 BK261 BK262 BK278 HB hq_; have HO_279000 := n0_; have BK260 := n1_; have BK261 := n2_; have BK262 := n3_; have BK278 := n4_; have HB := n5_; clear n0_ n1_ n2_ n3_ n4_ n5_))))
                                        have n0_ := Aside0.mk (Kd.R_drew HO_279000.out)
                                        have n1_ := Aside0.mk (blk_drew BK260.out)
                                        have n2_ := Aside0.mk (blk_drew BK261.out)
                                        have n3_ := Aside0.mk (blk_drew BK262.out)
                                        have n4_ := Aside0.mk (blk_drew BK278.out)
                                        have n5_ := Aside0.mk (below_drew1 HB.out)
                                        clear HO_279000; clear BK260; clear BK261; clear BK262; clear BK278; clear HB
                                        have HO_279000 := n0_
                                        have BK260 := n1_
                                        have BK261 := n2_
                                        have BK262 := n3_
                                        have BK278 := n4_
                                        have HB := n5_
                                        clear n0_ n1_ n2_ n3_ n4_ n5_
                                        have p287 : 0 ≤ (x62_3 : Int) := of_decide_eq_true (by first | (with_reducible assumption) | assumption)
                                        have q287 : x62_3 < (l1_0.length : Int) := of_decide_eq_true (by first | (with_reducible assumption) | assumption)
                                        obtain ⟨ad287, e287, hx287_0⟩ := Kd.at_string HR1_0.out x62_3 p287 q287
                                        have hw287_0 := hx287_0
                                        obtain rfl : ad285 = ad287 := (by injection e287)
                                        replace hx287_0 := (HB.out.cell (World.block_lt_of_cell? w _ hx287_0)).trans hx287_0
                                        replace p287 := eq_true p287
                                        replace q287 := eq_true q287
                                        refine start_ (n := 11) (S := fun w' => w'.cell? ⟨gb278, 0, none⟩ = some (u279000) ∧ w'.cell? ⟨gb278, 1, none⟩ = some (.bool a0_1) ∧ w'.cell? ⟨gb261, 0, none⟩ = some (.slice (some ad285) l1_0.length c1_0) ∧ w'.cell? ⟨gb261, 1, none⟩ = some (.bool a1_1) ∧ w'.cell? (ad285.add (x62_3).toNat) = some (.string (rdOf ByteArray.empty l1_0 x62_3))) (ds := [10]) #[false, false, false, false, false, false, false, false, false, false, false] (by kernel_rfl) rfl rfl ⟨(blk_cell BK278.out 0).trans rfl, (blk_cell BK278.out 1).trans rfl, (blk_cell BK261.out 0).trans rfl, (blk_cell BK261.out 1).trans rfl, ((HB.out.cell (World.block_lt_of_cell? w _ hw287_0)).trans hw287_0)⟩ (fun hHeld => ?_); refine with_tabW stockyardref03_Meet.tab16 stockyardref03_Meet.bits16 (fun HT_ HW_ => ?_)
                                        generalize wc.drew = w195 at HO_279000 BK260 BK261 BK262 BK278 HB hx287_0 hHeld ⊢
                                        refine pure_ (i := 0) (N := some 95) (v := ?_) (a' := ?_) #[true, false, false, false, false, false, false, false, false, false, false] rfl rfl (any_of HT_.out (by kernel_rfl)) (fun _ _ _ h => h) (Or.inl ⟨by rfl, ?_⟩) ?_ ?_
                                        rotate_left
                                        · intro w'
                                          go_simp
                                          with_reducible rfl
                                        rotate_left
                                        · simp only [Act.put, List.setIfInBounds_toArray, List.set_cons_zero, List.set_cons_succ, i64_w, i32_w]
                                          rfl
                                        refine pure_ (i := 2) (N := some 97) (v := ?_) (a' := ?_) #[true, false, true, false, false, false, false, false, false, false, false] rfl rfl (any_of HT_.out (by kernel_rfl)) (fun _ _ _ h => h) (Or.inl ⟨by rfl, ?_⟩) ?_ ?_
                                        rotate_left
                                        · intro w'
                                          go_simp
                                          with_reducible rfl
                                        rotate_left
                                        · simp only [Act.put, List.setIfInBounds_toArray, List.set_cons_zero, List.set_cons_succ, i64_w, i32_w]
                                          rfl
                                        refine pure_ (i := 4) (N := some 99) (v := ?_) (a' := ?_) #[true, false, true, false, true, false, false, false, false, false, false] rfl rfl (any_of HT_.out (by kernel_rfl)) (fun _ _ _ h => h) (Or.inl ⟨by rfl, ?_⟩) ?_ ?_
                                        rotate_left
                                        · intro w'
                                          go_simp
                                          with_reducible rfl
                                        rotate_left
                                        · simp only [Act.put, List.setIfInBounds_toArray, List.set_cons_zero, List.set_cons_succ, i64_w, i32_w]
                                          rfl
                                        refine take_ (i := 1) (N := some 96) (v := ?_) (a' := ?_) #[true, true, true, false, true, false, false, false, false, false, false] rfl rfl (take_ofW HT_.out HW_.out (by kernel_rfl)) (fun _ _ _ h => h) (Or.inl ⟨by rfl, ?_⟩) hHeld ?_ ?_
                                        rotate_left
                                        · rintro w' ⟨s0, s1, s2, s3, s4⟩
                                          go_simp
                                          with_reducible rfl
                                        rotate_left
                                        · simp only [Act.put, List.setIfInBounds_toArray, List.set_cons_zero, List.set_cons_succ, i64_w, i32_w]
                                          rfl
                                        refine take_ (i := 3) (N := some 98) (v := ?_) (a' := ?_) #[true, true, true, true, true, false, false, false, false, false, false] rfl rfl (take_ofW HT_.out HW_.out (by kernel_rfl)) (fun _ _ _ h => h) (Or.inl ⟨by rfl, ?_⟩) hHeld ?_ ?_
                                        rotate_left
                                        · rintro w' ⟨s0, s1, s2, s3, s4⟩
                                          go_simp
                                          with_reducible rfl
                                        rotate_left
                                        · simp only [Act.put, List.setIfInBounds_toArray, List.set_cons_zero, List.set_cons_succ, i64_w, i32_w]
                                          rfl
                                        refine pure_ (i := 5) (N := some 100) (v := ?_) (a' := ?_) #[true, true, true, true, true, true, false, false, false, false, false] rfl rfl (any_of HT_.out (by kernel_rfl)) (fun _ _ _ h => h) (Or.inl ⟨by rfl, ?_⟩) ?_ ?_
                                        rotate_left
                                        · intro w'
                                          go_simp
                                          with_reducible rfl
                                        rotate_left
                                        · simp only [Act.put, List.setIfInBounds_toArray, List.set_cons_zero, List.set_cons_succ, i64_w, i32_w]
                                          rfl
                                        refine take_ (i := 6) (N := some 101) (v := ?_) (a' := ?_) #[true, true, true, true, true, true, true, false, false, false, false] rfl rfl (take_ofW HT_.out HW_.out (by kernel_rfl)) (fun _ _ _ h => h) (Or.inl ⟨by rfl, ?_⟩) hHeld ?_ ?_
                                        rotate_left
                                        · rintro w' ⟨s0, s1, s2, s3, s4⟩
                                          go_simp
                                          with_reducible rfl
                                        rotate_left
                                        · simp only [Act.put, List.setIfInBounds_toArray, List.set_cons_zero, List.set_cons_succ, i64_w, i32_w]
                                          rfl
                                        refine one_ (i := 7) (N := some 102) #[true, true, true, true, true, true, true, true, false, false, false] rfl rfl (one_of HT_.out (by kernel_rfl)) (by decide) (fun K hK => ?_)
                                        refine value_ (w1 := ?_) (v := ?_) (by rfl) rfl ?_ ?_
                                        rotate_left 2
                                        · go_simp
                                          constructor
                                          · rfl
                                          · rfl
                                        refine hK.out _ _ ⟨(blk_cell (blk_alloc BK278.out _) 0).trans rfl, (blk_cell (blk_alloc BK278.out _) 1).trans rfl, (blk_cell (blk_alloc BK261.out _) 0).trans rfl, (blk_cell (blk_alloc BK261.out _) 1).trans rfl, (World.cell?_alloc_lt _ _ _ (World.block_lt_of_cell? _ _ (((HB.out.cell (World.block_lt_of_cell? w _ hw287_0)).trans hw287_0)))).trans (((HB.out.cell (World.block_lt_of_cell? w _ hw287_0)).trans hw287_0))⟩ (fun hHeld => ?_)
                                        clear hK K
                                        refine norm_ (a' := ?_) ?_ ?_
                                        rotate_left
                                        · show Act.put _ (some 102) _ = _
                                          simp only [Act.put, List.setIfInBounds_toArray, List.set_cons_zero, List.set_cons_succ, i64_w, i32_w]
                                          rfl
                                        refine one_ (i := 8) (N := some 103) #[true, true, true, true, true, true, true, true, true, false, false] rfl rfl (one_of HT_.out (by kernel_rfl)) (by decide) (fun K hK => ?_)
                                        refine Kd.R_append_step Kd.string (w0 := w) w.heap.size (by rfl) (.tmp 96) (.tmp 102) 22 9 (.string ⟨#[]⟩) 16 rfl Tryd.underlying22 info9 rfl (by decide) (by omega) u279000 x279000_3 (rdOf ByteArray.empty l1_0 x62_3) [.string (rdOf ByteArray.empty l1_0 x62_3)] (fun _ => True) (fun _ => False) rfl rfl ?aP (fun _ hk => hk.elim) ?aF ?aO ?aB ?aS ?aL ?_
                                        (case aP => exact rfl)
                                        (case aB => exact hb_c)
                                        (case aF => exact (fun _ _ => trivial))
                                        (case aO => exact (by (with_reducible repeat (first | apply Kd.R_alloc | apply Kd.R_drewN | apply Kd.R_drew)); exact HO_279000.out))
                                        (case aS => exact (below_size hb_c))
                                        (case aL => have := LMc190.out; omega)
                                        intro v289 w196 ho hb hg hat
                                        rw [← Ny288.out] at ho
                                        have n0_ := Aside0.mk (blk_grown (g := gb260) (o := .cells #[.slice (some ad279) l0_0.length c0_0, .bool a0_1] 24 (0, 0)) bk_c hg (Kd.R_ne HO_279000.out BK260.out (by decide)))
                                        have n1_ := Aside0.mk (blk_grown (g := gb261) (o := .cells #[.slice (some ad285) l1_0.length c1_0, .bool a1_1] 24 (0, 0)) bk_c hg (Kd.R_ne HO_279000.out BK261.out (by decide)))
                                        have n2_ := Aside0.mk (blk_grown (g := gb262) (o := .cells #[.slice none 0 0, .bool x263001_3] 24 (0, 0)) bk_c hg (Kd.R_ne HO_279000.out BK262.out (by decide)))
                                        have n3_ := Aside0.mk (blk_grown (g := gb278) (o := .cells #[u279000, .bool a0_1] 24 (0, 0)) bk_c hg (Kd.R_ne HO_279000.out BK278.out (by decide)))
                                        have n4_ := Aside0.mk (hb)
                                        have n5_ := Aside0.mk (ho)
                                        clear BK260; clear BK261; clear BK262; clear BK278; clear HB; clear HO_279000
                                        have BK260 := n0_
                                        have BK261 := n1_
                                        have BK262 := n2_
                                        have BK278 := n3_
                                        have HB := n4_
                                        have HO290 := n5_
                                        clear n0_ n1_ n2_ n3_ n4_ n5_
                                        clear ho hb hg hat
                                        obtain ⟨Ao197, co197, eo197⟩ := Kd.R_slice HO290.out
                                        (first | subst eo197 | (injection eo197 with f1_ f2_ f3_; have f4_ := f1_.symm; have f5_ := f3_.symm; clear f1_ f2_ f3_; subst f4_; subst f5_))
                                        refine hK.out _ _ ⟨(blk_cell BK278.out 0).trans rfl, (blk_cell BK278.out 1).trans rfl, (blk_cell BK261.out 0).trans rfl, (blk_cell BK261.out 1).trans rfl, ((HB.out.cell (World.block_lt_of_cell? w _ hw287_0)).trans hw287_0)⟩ (fun hHeld => ?_)
                                        clear hK K
                                        refine norm_ (a' := ?_) ?_ ?_
                                        rotate_left
                                        · show Act.put _ (some 103) _ = _
                                          simp only [Act.put, List.setIfInBounds_toArray, List.set_cons_zero, List.set_cons_succ, i64_w, i32_w]
                                          rfl
                                        refine pure_ (i := 9) (N := some 104) (v := ?_) (a' := ?_) #[true, true, true, true, true, true, true, true, true, true, false] rfl rfl (any_of HT_.out (by kernel_rfl)) (fun _ _ _ h => h) (Or.inl ⟨by rfl, ?_⟩) ?_ ?_
                                        rotate_left
                                        · intro w'
                                          go_simp
                                          with_reducible rfl
                                        rotate_left
                                        · simp only [Act.put, List.setIfInBounds_toArray, List.set_cons_zero, List.set_cons_succ, i64_w, i32_w]
                                          rfl
                                        refine last_ (i := 10) (N := none) #[true, true, true, true, true, true, true, true, true, true, true] rfl rfl (one_of HT_.out (by kernel_rfl)) (by decide) (fun K hK => ?_)
                                        have hs198 : w196.cell? ⟨gb278, 0, none⟩ = some (u279000) := (blk_cell BK278.out 0).trans rfl
                                        have hfs198 := blk_frozen BK278.out 0
                                        have hns198_0 := NB260_278.out
                                        have hns198_1 := NB261_278.out
                                        have hns198_2 := NB262_278.out
                                        have hms198_0 := NB278_260.out
                                        have hms198_1 := NB278_261.out
                                        have hms198_2 := NB278_262.out
                                        refine skip_ (w1 := ?_) (by rfl) rfl ?_ ?_
                                        rotate_left
                                        · go_simp
                                          rfl
                                        refine hK.out _ _ ?_
                                        clear hK K
                                        refine done_ (done_of HT_.out (by kernel_rfl)) ?_
                                        try go_wp2
                                        go_roundg kj168
                                        case measure => have := HJ2.out; have := HJ119.out; have := HK3.out; have := HJ168.out; omega
                                        case rel => exact ⟨(wrap64 (x62_3 + 1)), (x263001_3), (y288), (.slice Ao197 y288.length co197), (by first | rfl | (simp; done) | (simp [*]; done)), H', ⟨by have := HJ2.out; have := HJ119.out; have := HK3.out; have := HJ168.out; omega⟩, ⟨by (with_reducible repeat (first | apply Kd.R_alloc | apply Kd.R_drewN | apply Kd.R_drew)); exact Kd.R_mono (Kd.R_far (p := ⟨gb278, 0, none⟩) (Kd.R_types HO290.out BK278.out (by decide)) (fun _ hk => hk.2) (.slice Ao197 y288.length co197)) (fun _ hk => trivial)⟩, ⟨by (with_reducible repeat (first | refine blk_drewN ?_ _ | refine blk_drew ?_ | refine blk_alloc ?_ _)); refine blk_far ?_ NB260_278.out _; (with_reducible repeat (first | refine blk_drewN ?_ _ | refine blk_drew ?_ | refine blk_alloc ?_ _)); exact BK260.out⟩, ⟨by (with_reducible repeat (first | refine blk_drewN ?_ _ | refine blk_drew ?_ | refine blk_alloc ?_ _)); refine blk_far ?_ NB261_278.out _; (with_reducible repeat (first | refine blk_drewN ?_ _ | refine blk_drew ?_ | refine blk_alloc ?_ _)); exact BK261.out⟩, ⟨by (with_reducible repeat (first | refine blk_drewN ?_ _ | refine blk_drew ?_ | refine blk_alloc ?_ _)); refine blk_far ?_ NB262_278.out _; (with_reducible repeat (first | refine blk_drewN ?_ _ | refine blk_drew ?_ | refine blk_alloc ?_ _)); exact BK262.out⟩, ⟨by (with_reducible repeat (first | refine blk_drewN ?_ _ | refine blk_drew ?_ | refine blk_alloc ?_ _)); refine blk_put (cs := #[u279000, .bool a0_1]) ?_ 0 _ rfl; (with_reducible repeat (first | refine blk_drewN ?_ _ | refine blk_drew ?_ | refine blk_alloc ?_ _)); exact BK278.out⟩, ⟨hb_c⟩⟩
                                      · rw [if_neg c190] at H
                                        exact absurd H (by simp)
                                    · replace c189 := Bool.eq_false_iff.mpr c189
                                      subst c189
                                      have H1 : (some (([] : List ByteArray), false, false)) = some (r1, r2, r3) := by rw [if_neg (show ¬ (false = true) by decide)] at H; exact H
                                      clear H
                                      have H := H1
                                      clear H1
                                      simp only [Option.some.injEq, Prod.mk.injEq] at H
                                      obtain ⟨rfl, rfl, rfl⟩ := H
                                      have hnb199 := NB261_260.out
                                      have hnc199 := NB260_261.out
                                      have hnb200 := NB261_262.out
                                      have hnc200 := NB262_261.out
                                      have hnb201 := NB261_278.out
                                      have hnc201 := NB278_261.out
                                      have hcz202_0 : wc.cell? ⟨gb261, 0, none⟩ = some (.slice A1_0 l1_0.length c1_0) := (blk_cell BK261.out 0).trans rfl
                                      have hcz202_1 : wc.cell? ⟨gb261, 1, none⟩ = some (.bool a1_1) := (blk_cell BK261.out 1).trans rfl
                                      have hfz202_0 := blk_frozen BK261.out 0
                                      have hfz202_1 := blk_frozen BK261.out 1
                                      have p285 : 0 ≤ (x62_3 : Int) := of_decide_eq_true (by first | (with_reducible assumption) | assumption)
                                      have q285 : x62_3 < (l1_0.length : Int) := of_decide_eq_true (by first | (with_reducible assumption) | assumption)
                                      obtain ⟨ad285, e285, hx285_0⟩ := Kd.at_string HR1_0.out x62_3 p285 q285
                                      cases e285
                                      replace hx285_0 := (HB.out.cell (World.block_lt_of_cell? w _ hx285_0)).trans hx285_0
                                      replace p285 := eq_true p285
                                      replace q285 := eq_true q285
                                      go_wp2_with (first | ((with_reducible refine gate_callee (f := 30) rfl ?_); refine goesL_ (some 94) rfl rfl Tryd.func30 (by kernel_rfl) rfl #[.string (rdOf ByteArray.empty l1_0 x62_3), .string (rdOf ByteArray.empty l0_0 x62_3)] rfl (by (try simp only [List.map_toArray, List.map_cons, List.map_nil]); first | done | rfl | (simp only [List.length_drop, List.length_take]; rfl)) ?_; (with_reducible refine (stockyardref03_Inside.calls kj168 (rdOf ByteArray.empty l1_0 x62_3) (rdOf ByteArray.empty l0_0 x62_3) false _ A188.out).mono ?_); rintro e w' ⟨rfl, ⟨nd, rfl⟩⟩; refine ⟨_, rfl, ?_⟩; (try (rw [drewN_self wc]; generalize hq_ : World.drewN wc _ = wc; have n0_ : Aside0 (Kd.R Kd.string 9 wc w.heap.size (fun _ => True) u279000 x279000_3) := ⟨by rw [← hq_]; exact (by (with_reducible repeat (first | apply Kd.R_alloc | apply Kd.R_drewN | apply Kd.R_drew)); exact HO_279000.out)⟩; have n1_ : Aside0 (wc.heap[gb260]? = some (.cells #[.slice (some ad279) l0_0.length c0_0, .bool a0_1] 24 (0, 0))) := ⟨by rw [← hq_]; exact bk_c⟩; have n2_ : Aside0 (wc.heap[gb261]? = some (.cells #[.slice (some ad285) l1_0.length c1_0, .bool a1_1] 24 (0, 0))) := ⟨by rw [← hq_]; exact bk_c⟩; have n3_ : Aside0 (wc.heap[gb262]? = some (.cells #[.slice none 0 0, .bool x263001_3] 24 (0, 0))) := ⟨by rw [← hq_]; exact bk_c⟩; have n4_ : Aside0 (wc.heap[gb278]? = some (.cells #[u279000, .bool a0_1] 24 (0, 0))) := ⟨by rw [← hq_]; exact bk_c⟩; have n5_ : Aside0 (Below w.heap.size w wc) := ⟨by rw [← hq_]; exact hb_c⟩; clear HO_279000 BK260 BK261 BK262 BK278 HB hq_; have HO_279000 := n0_; have BK260 := n1_; have BK261 := n2_; have BK262 := n3_; have BK278 := n4_; have HB := n5_; clear n0_ n1_ n2_ n3_ n4_ n5_)); have hnb203 := NB262_260.out; have hnc203 := NB260_262.out; have hnb204 := NB262_278.out; have hnc204 := NB278_262.out; have hcz205_0 : wc.cell? ⟨gb262, 0, none⟩ = some (.slice none 0 0) := (blk_cell BK262.out 0).trans rfl; have hcz205_1 : wc.cell? ⟨gb262, 1, none⟩ = some (.bool x263001_3) := (blk_cell BK262.out 1).trans rfl; have hfz205_0 := blk_frozen BK262.out 0; have hfz205_1 := blk_frozen BK262.out 1))
                                      refine bodyPost_ret (results_ct rfl _ _ gb262 24 #[.slice none 0 0, .bool false] (0, 0) _ rfl (by (with_reducible repeat (first | refine blk_drewN ?_ _ | refine blk_drew ?_ | refine blk_alloc ?_ _)); refine blk_put (cs := #[.slice none 0 0, .bool x263001_3]) ?_ 1 _ rfl; (with_reducible repeat (first | refine blk_drewN ?_ _ | refine blk_drew ?_ | refine blk_alloc ?_ _)); refine blk_put (cs := #[.slice none 0 0, .bool x263001_3]) ?_ 0 _ rfl; (with_reducible repeat (first | refine blk_drewN ?_ _ | refine blk_drew ?_ | refine blk_alloc ?_ _)); exact BK262.out) Tryd.underlying24 rfl (by kernel_rfl)) rfl ?_
                                      exact ⟨_, by first | rfl | (simp [errW_none, errW_some] <;> rfl) | (simp [*, errW_none, errW_some] <;> rfl), by first | exact Kd.R_nil _ _ _ _ _ | exact Kd.N_nil _ _ _ _ _ | exact Kd.V_nil _ _ _ _ _ | exact Kd.Q_nil _ _ _ _ _ | exact Kd.S_nil _ _ _ _ _, hb_c⟩
                                  · rw [if_neg c187] at H
                                    exact absurd H (by simp)
                                · rw [if_neg c186] at H
                                  exact absurd H (by simp)
                        · rw [if_neg c168] at H
                          exact absurd H (by simp)
                      · rw [if_neg c167] at H
                        exact absurd H (by simp)
                    · rw [if_neg c166] at H
                      have c166b0 : decide (x62_3 < (l0_0.length : Int)) = false := decide_eq_false c166
                      clear c166
                      simp only [Option.some.injEq, Prod.mk.injEq] at H
                      obtain ⟨rfl, rfl, rfl⟩ := H
                      have hnb206 := NB278_260.out
                      have hnc206 := NB260_278.out
                      have hnb207 := NB278_261.out
                      have hnc207 := NB261_278.out
                      have hnb208 := NB278_262.out
                      have hnc208 := NB262_278.out
                      have hcz209_0 : wr.cell? ⟨gb278, 0, none⟩ = some (u279000) := (blk_cell BK278.out 0).trans rfl
                      have hcz209_1 : wr.cell? ⟨gb278, 1, none⟩ = some (.bool a0_1) := (blk_cell BK278.out 1).trans rfl
                      have hfz209_0 := blk_frozen BK278.out 0
                      have hfz209_1 := blk_frozen BK278.out 1
                      obtain ⟨Ao210, co210, eo210⟩ := Kd.R_slice HO_279000.out
                      subst eo210
                      have hnb211 := NB262_260.out
                      have hnc211 := NB260_262.out
                      have hnb212 := NB262_261.out
                      have hnc212 := NB261_262.out
                      have hcz213_0 : wr.cell? ⟨gb262, 0, none⟩ = some (.slice none 0 0) := (blk_cell BK262.out 0).trans rfl
                      have hcz213_1 : wr.cell? ⟨gb262, 1, none⟩ = some (.bool x263001_3) := (blk_cell BK262.out 1).trans rfl
                      have hfz213_0 := blk_frozen BK262.out 0
                      have hfz213_1 := blk_frozen BK262.out 1
                      go_wp2
                      refine bodyPost_ret (results_ct rfl _ _ gb262 24 #[.slice Ao210 x279000_3.length co210, .bool a0_1] (0, 0) _ rfl (by (with_reducible repeat (first | refine blk_drewN ?_ _ | refine blk_drew ?_ | refine blk_alloc ?_ _)); refine blk_put (cs := #[.slice Ao210 x279000_3.length co210, .bool x263001_3]) ?_ 1 _ rfl; (with_reducible repeat (first | refine blk_drewN ?_ _ | refine blk_drew ?_ | refine blk_alloc ?_ _)); refine blk_put (cs := #[.slice none 0 0, .bool x263001_3]) ?_ 0 _ rfl; (with_reducible repeat (first | refine blk_drewN ?_ _ | refine blk_drew ?_ | refine blk_alloc ?_ _)); exact BK262.out) Tryd.underlying24 rfl (by kernel_rfl)) rfl ?_
                      exact ⟨_, by first | rfl | (simp [errW_none, errW_some] <;> rfl) | (simp [*, errW_none, errW_some] <;> rfl), by (with_reducible repeat (first | apply Kd.R_alloc | apply Kd.R_drewN | apply Kd.R_drew)); exact Kd.R_mono (Kd.R_far (p := ⟨gb262, 1, none⟩) (Kd.R_far (p := ⟨gb262, 0, none⟩) (Kd.R_types HO_279000.out BK262.out (by decide)) (fun _ hk => hk.2) (.slice Ao210 x279000_3.length co210)) (fun _ hk => hk.2) (.bool a0_1)) (fun _ hk => trivial), hb_c⟩

end Go.Proofs.YtcpnmcbgcgkieaaDoor.P

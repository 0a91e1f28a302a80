-- Written by a program of this session (wip/gen.py) over the kit's print: each Go function as a plain Lean function, and the proof that the Go code comes to it. Nothing here is trusted: Lean checks it.
import Derived.Test.YthclkdplihchjaaDoorPx0
import Derived.Test.YthclkdplihchjaaDoorPx5
import Derived.Test.YthclkdplihchjaaDoorSq
namespace Go.Proofs.YthclkdplihchjaaDoor.P
open Go.RowKit Go.Proofs.YthclkdplihchjaaDoorW.PrintWords Go.Proofs.YthclkdplihchjaaDoorW.PrintLast Go.Proofs.YthclkdplihchjaaDoorW.PrintMore
attribute [local go_sem] str_gtr str_leq str_geq max2_int min2_int max_two min_two max_three min_three max_four min_four   -- for this text's walks alone
set_option linter.unusedVariables false
set_option linter.unusedSimpArgs false

/-! ### stockyardref03_Substitute: function 16 -/
mutual
def stockyardref03_Substitute.l0 : Nat → List (S28) → Int → List ByteArray → Int → Int → List ByteArray → Bool → List ByteArray → Bool → Option (List ByteArray × Bool × Int)
  | 0, _, _, _, _, _, _, _, _, _ => none
  | k + 1, x1, x8, x30, x31, x32, x242000, x242001, x246000, x246001 => if x32 < x31 then (if 0 ≤ x32 then (if x32 < (x30.length : Int) then ((stockyardref03_Star.f k (rdOf ByteArray.empty x30 x32)).bind fun bt247 => (if bt247.2 = true then (if 0 ≤ x8 then (if x8 < (x1.length : Int) then (if (((rd_T28 x1 x8).f0).length : Int) = 1 then (if (rd_T28 x1 x8).f1 = true then (some (([] : List ByteArray), false, 33)) else (if 0 < (((rd_T28 x1 x8).f0).length : Int) then ((stockyardref03_Part.f k (rdOf ByteArray.empty ((rd_T28 x1 x8).f0) 0)).bind fun t252 => (if t252 = true then (if (rdOf ByteArray.empty ((rd_T28 x1 x8).f0) 0).size + bt247.1.size ≤ 9223372036854775807 then (if x246000.length < 8796093022208 then (stockyardref03_Substitute.l0 k x1 (wrap64 (x8 + 1)) x30 x31 (wrap64 (x32 + 1)) x242000 x242001 (x246000 ++ [(rdOf ByteArray.empty ((rd_T28 x1 x8).f0) 0) ++ bt247.1]) x246001) else (none)) else (none)) else (some (([] : List ByteArray), false, 33)))) else (none))) else (some (([] : List ByteArray), false, 33))) else (none)) else (none)) else (if x246000.length < 8796093022208 then (stockyardref03_Substitute.l0 k x1 x8 x30 x31 (wrap64 (x32 + 1)) x242000 x242001 (x246000 ++ [rdOf ByteArray.empty x30 x32]) x246001) else (none)))) else (none)) else (none)) else (if x242001 = true then (if 0 ≤ x8 then (if x8 < (x1.length : Int) then (if (((rd_T28 x1 x8).f0).length : Int) = 0 then (stockyardref03_Substitute.j1 k (!((rd_T28 x1 x8).f1)) x246000 x246001 ((rd_T28 x1 x8).f0) ((rd_T28 x1 x8).f1)) else (stockyardref03_Substitute.j1 k false x246000 x246001 ((rd_T28 x1 x8).f0) ((rd_T28 x1 x8).f1))) else (none)) else (none)) else (if (x246000.length : Int) > 12 then (some (([] : List ByteArray), false, 31)) else (some (x246000, x246001, 0))))
def stockyardref03_Substitute.j1 : Nat → Bool → List ByteArray → Bool → List ByteArray → Bool → Option (List ByteArray × Bool × Int)
  | 0, _, _, _, _, _ => none
  | k + 1, x92, x246000, x246001, x262000, x262001 => if x92 = true then (some (([] : List ByteArray), false, 33)) else (stockyardref03_Substitute.l1 k x262000 (x262000.length : Int) 0 x246000 x246001 x262000 x262001)
def stockyardref03_Substitute.l1 : Nat → List ByteArray → Int → Int → List ByteArray → Bool → List ByteArray → Bool → Option (List ByteArray × Bool × Int)
  | 0, _, _, _, _, _, _, _ => none
  | k + 1, x95, x96, x97, x246000, x246001, x262000, x262001 => if x97 < x96 then (if 0 ≤ x97 then (if x97 < (x95.length : Int) then ((stockyardref03_Part.f k (rdOf ByteArray.empty x95 x97)).bind fun t263 => (if t263 = true then (stockyardref03_Substitute.l1 k x95 x96 (wrap64 (x97 + 1)) x246000 x246001 x262000 x262001) else (some (([] : List ByteArray), false, 33)))) else (none)) else (none)) else (if x246000.length + x262000.length < 8796093022208 then ((some (x246000 ++ x262000 : List ByteArray)).bind fun y264 => (if (y264.length : Int) > 12 then (some (([] : List ByteArray), false, 31)) else (some (y264, x262001, 0)))) else (none))
end
def stockyardref03_Substitute.f (k : Nat) (l0_0 : List ByteArray) (a0_1 : Bool) (l1 : List (S28)) : Option (List ByteArray × Bool × Int) := (stockyardref03_Check.f k l0_0 a0_1).bind fun t243 => (if t243 = 0 then ((stockyardref03_wildcards.f k l0_0 a0_1).bind fun t244 => (if (l1.length : Int) = t244 then (stockyardref03_Substitute.l0 k l1 0 l0_0 (l0_0.length : Int) 0 l0_0 a0_1 ([] : List ByteArray) false) else (some (([] : List ByteArray), false, 33)))) else (some (([] : List ByteArray), false, t243)))
theorem stockyardref03_Substitute.mono_l : ∀ k, (∀ y0 y1 y2 y3 y4 y5 y6 y7 y8, LeO (stockyardref03_Substitute.l0 k y0 y1 y2 y3 y4 y5 y6 y7 y8) (stockyardref03_Substitute.l0 (k + 1) y0 y1 y2 y3 y4 y5 y6 y7 y8)) ∧ (∀ y0 y1 y2 y3 y4, LeO (stockyardref03_Substitute.j1 k y0 y1 y2 y3 y4) (stockyardref03_Substitute.j1 (k + 1) y0 y1 y2 y3 y4)) ∧ (∀ y0 y1 y2 y3 y4 y5 y6, LeO (stockyardref03_Substitute.l1 k y0 y1 y2 y3 y4 y5 y6) (stockyardref03_Substitute.l1 (k + 1) y0 y1 y2 y3 y4 y5 y6))
  | 0 => ⟨fun _ _ _ _ _ _ _ _ _ r h => by simp [stockyardref03_Substitute.l0] at h, fun _ _ _ _ _ r h => by simp [stockyardref03_Substitute.j1] at h, fun _ _ _ _ _ _ _ r h => by simp [stockyardref03_Substitute.l1] at h⟩
  | k + 1 => by
    obtain ⟨ih0, ih1, ih2⟩ := stockyardref03_Substitute.mono_l k
    refine ⟨?_, ?_, ?_⟩
    · intro y0 y1 y2 y3 y4 y5 y6 y7 y8
      unfold stockyardref03_Substitute.l0
      repeat' first
      | (with_reducible exact ih0 _ _ _ _ _ _ _ _ _)
      | (with_reducible exact ih1 _ _ _ _ _)
      | (with_reducible exact ih2 _ _ _ _ _ _ _)
      | (with_reducible exact stockyardref03_Check.mono _ _ _)
      | (with_reducible exact stockyardref03_Part.mono _ _)
      | (with_reducible exact stockyardref03_Star.mono _ _)
      | (with_reducible exact stockyardref03_wildcards.mono _ _ _)
      | (with_reducible exact LeO.refl _)
      | (with_reducible exact LeO.none _)
      | (with_reducible refine LeO.ite ?_ ?_)
      | (with_reducible refine LeO.bind ?_ (fun _ => ?_))
      | exact ih0 _ _ _ _ _ _ _ _ _
      | exact ih1 _ _ _ _ _
      | exact ih2 _ _ _ _ _ _ _
      | exact stockyardref03_Check.mono _ _ _
      | exact stockyardref03_Part.mono _ _
      | exact stockyardref03_Star.mono _ _
      | exact stockyardref03_wildcards.mono _ _ _
      | exact LeO.none _
      | refine LeO.ite ?_ ?_
      | refine LeO.bind ?_ (fun _ => ?_)
    · intro y0 y1 y2 y3 y4
      unfold stockyardref03_Substitute.j1
      repeat' first
      | (with_reducible exact ih0 _ _ _ _ _ _ _ _ _)
      | (with_reducible exact ih1 _ _ _ _ _)
      | (with_reducible exact ih2 _ _ _ _ _ _ _)
      | (with_reducible exact stockyardref03_Check.mono _ _ _)
      | (with_reducible exact stockyardref03_Part.mono _ _)
      | (with_reducible exact stockyardref03_Star.mono _ _)
      | (with_reducible exact stockyardref03_wildcards.mono _ _ _)
      | (with_reducible exact LeO.refl _)
      | (with_reducible exact LeO.none _)
      | (with_reducible refine LeO.ite ?_ ?_)
      | (with_reducible refine LeO.bind ?_ (fun _ => ?_))
      | exact ih0 _ _ _ _ _ _ _ _ _
      | exact ih1 _ _ _ _ _
      | exact ih2 _ _ _ _ _ _ _
      | exact stockyardref03_Check.mono _ _ _
      | exact stockyardref03_Part.mono _ _
      | exact stockyardref03_Star.mono _ _
      | exact stockyardref03_wildcards.mono _ _ _
      | exact LeO.none _
      | refine LeO.ite ?_ ?_
      | refine LeO.bind ?_ (fun _ => ?_)
    · intro y0 y1 y2 y3 y4 y5 y6
      unfold stockyardref03_Substitute.l1
      repeat' first
      | (with_reducible exact ih0 _ _ _ _ _ _ _ _ _)
      | (with_reducible exact ih1 _ _ _ _ _)
      | (with_reducible exact ih2 _ _ _ _ _ _ _)
      | (with_reducible exact stockyardref03_Check.mono _ _ _)
      | (with_reducible exact stockyardref03_Part.mono _ _)
      | (with_reducible exact stockyardref03_Star.mono _ _)
      | (with_reducible exact stockyardref03_wildcards.mono _ _ _)
      | (with_reducible exact LeO.refl _)
      | (with_reducible exact LeO.none _)
      | (with_reducible refine LeO.ite ?_ ?_)
      | (with_reducible refine LeO.bind ?_ (fun _ => ?_))
      | exact ih0 _ _ _ _ _ _ _ _ _
      | exact ih1 _ _ _ _ _
      | exact ih2 _ _ _ _ _ _ _
      | exact stockyardref03_Check.mono _ _ _
      | exact stockyardref03_Part.mono _ _
      | exact stockyardref03_Star.mono _ _
      | exact stockyardref03_wildcards.mono _ _ _
      | exact LeO.none _
      | refine LeO.ite ?_ ?_
      | refine LeO.bind ?_ (fun _ => ?_)
theorem stockyardref03_Substitute.mono : ∀ a0 a1 a2 k, LeO (stockyardref03_Substitute.f k a0 a1 a2) (stockyardref03_Substitute.f (k + 1) a0 a1 a2) := by
  intro a0 a1 a2 k
  obtain ⟨ih0, ih1, ih2⟩ := stockyardref03_Substitute.mono_l k
  unfold stockyardref03_Substitute.f
  repeat' first
      | (with_reducible exact ih0 _ _ _ _ _ _ _ _ _)
      | (with_reducible exact ih1 _ _ _ _ _)
      | (with_reducible exact ih2 _ _ _ _ _ _ _)
      | (with_reducible exact stockyardref03_Check.mono _ _ _)
      | (with_reducible exact stockyardref03_Part.mono _ _)
      | (with_reducible exact stockyardref03_Star.mono _ _)
      | (with_reducible exact stockyardref03_wildcards.mono _ _ _)
      | (with_reducible exact LeO.refl _)
      | (with_reducible exact LeO.none _)
      | (with_reducible refine LeO.ite ?_ ?_)
      | (with_reducible refine LeO.bind ?_ (fun _ => ?_))
      | exact ih0 _ _ _ _ _ _ _ _ _
      | exact ih1 _ _ _ _ _
      | exact ih2 _ _ _ _ _ _ _
      | exact stockyardref03_Check.mono _ _ _
      | exact stockyardref03_Part.mono _ _
      | exact stockyardref03_Star.mono _ _
      | exact stockyardref03_wildcards.mono _ _ _
      | exact LeO.none _
      | refine LeO.ite ?_ ?_
      | refine LeO.bind ?_ (fun _ => ?_)
def stockyardref03_Substitute.T29 : Bool × List (List Nat × List Nat) := (true, [([], []), ([0], [0]), ([], []), ([2], [2]), ([1, 3], [1, 3]), ([], []), ([5], [5]), ([0, 1, 2, 3, 4], []), ([7, 4, 4, 0, 1, 2, 3, 4], [4, 7]), ([0, 1, 2, 3, 4, 5, 6, 7, 8], []), ([9, 6, 8, 0, 1, 2, 3, 4, 5, 6, 7, 8], [6, 9])])
def stockyardref03_Substitute.B29 : List Nat := [0, 1, 0, 4, 15, 0, 32, 31, 159, 511, 1023]
theorem stockyardref03_Substitute.tab29 : rtab .any (opsOf Tryd.f16 29) = stockyardref03_Substitute.T29 := by kernel_rfl
theorem stockyardref03_Substitute.bits29 : waitsOk stockyardref03_Substitute.T29.2 stockyardref03_Substitute.B29 = true := by kernel_rfl
set_option maxHeartbeats 8000000 in
set_option maxRecDepth 100000 in
theorem stockyardref03_Substitute.calls (k : Nat) (A0_0 : Option Addr) (c0_0 : Nat) (l0_0 : List ByteArray) (a0_1 : Bool) (A1 : Option Addr) (c1 : Nat) (l1 : List (S28)) (r1 : List ByteArray) (r2 : Bool) (r3 : Int) (w : World) (hr0_0 : Kd.C Kd.string w A0_0 l0_0.length l0_0) (hc0_0 : l0_0.length ≤ c0_0) (hr1 : Kd.C k28 w A1 l1.length l1) (hc1 : l1.length ≤ c1) (h : stockyardref03_Substitute.f k l0_0 a0_1 l1 = some (r1, r2, r3)) :
    Calls Tryd.prog 16 #[.agg #[.slice A0_0 l0_0.length c0_0, .bool a0_1], .slice A1 l1.length c1] w fun e w' => ∃ v0_ : Value, e = .returned (.tuple #[.agg #[v0_, .bool r2], .int .i64 r3]) ∧ Kd.R Kd.string 9 w' w.heap.size (fun _ => True) v0_ r1 ∧ Below w.heap.size w w' := by
  have hu24 := Tryd.underlying24
  have hu28 := Tryd.underlying28
  have HR0_0 := Aside0.mk hr0_0
  have HC0_0 := Aside0.mk hc0_0
  clear hr0_0 hc0_0
  have HR1 := Aside0.mk hr1
  have HC1 := Aside0.mk hc1
  clear hr1 hc1
  have HB := Aside0.mk (Below.refl w.heap.size w)
  have H : ((stockyardref03_Check.f k l0_0 a0_1).bind fun t243 => (if t243 = 0 then ((stockyardref03_wildcards.f k l0_0 a0_1).bind fun t244 => (if (l1.length : Int) = t244 then (stockyardref03_Substitute.l0 k l1 0 l0_0 (l0_0.length : Int) 0 l0_0 a0_1 ([] : List ByteArray) false) else (some (([] : List ByteArray), false, 33)))) else (some (([] : List ByteArray), false, t243)))) = some (r1, r2, r3) := h
  clear h
  replace H := Option.bind_eq_some_iff.mp H
  obtain ⟨t243, A30, H⟩ := H
  replace H : (if t243 = 0 then ((stockyardref03_wildcards.f k l0_0 a0_1).bind fun t244 => (if (l1.length : Int) = t244 then (stockyardref03_Substitute.l0 k l1 0 l0_0 (l0_0.length : Int) 0 l0_0 a0_1 ([] : List ByteArray) false) else (some (([] : List ByteArray), false, 33)))) else (some (([] : List ByteArray), false, t243))) = some (r1, r2, r3) := H
  have A3 := Aside0.mk A30
  clear A30
  by_cases c4 : t243 = 0
  · rw [if_pos c4] at H
    have c4b0 : (t243 == 0) = true := beq_iff_eq.mpr c4
    have c4b1 : (t243 != 0) = false := bne_eq_false_iff_eq.mpr c4
    clear c4
    replace H := Option.bind_eq_some_iff.mp H
    obtain ⟨t244, A50, H⟩ := H
    replace H : (if (l1.length : Int) = t244 then (stockyardref03_Substitute.l0 k l1 0 l0_0 (l0_0.length : Int) 0 l0_0 a0_1 ([] : List ByteArray) false) else (some (([] : List ByteArray), false, 33))) = some (r1, r2, r3) := H
    have A5 := Aside0.mk A50
    clear A50
    by_cases c6 : (l1.length : Int) = t244
    · rw [if_pos c6] at H
      have c6b0 : ((l1.length : Int) == t244) = true := beq_iff_eq.mpr c6
      have c6b1 : ((l1.length : Int) != t244) = false := bne_eq_false_iff_eq.mpr c6
      clear c6
      have H' := Aside0.mk H
      clear H
      go_enter Tryd.func16, Tryd.ntmps16
      go_wp2_with (first | ((with_reducible refine gate_dst (N := 2) rfl ?_); refine box_event ?hg (N := 2) ?hd (cs := #[.slice A0_0 l0_0.length c0_0, .bool a0_1]) (t := 24) ?hr ?_; (case hd => rfl); (case hg => rfl); (case hr => first | (go_simp; done) | (go_simp; rfl)); intro gb241 hg w7 hbox hb; have BK241 := Aside0.mk hbox; have GW241 := gw_ HB hg; have GE241 := gw_ HB hg; replace HB := hs_ HB hb; clear hb hbox hg) | ((with_reducible refine gate_dst (N := 4) rfl ?_); refine box_event ?hg (N := 4) ?hd (cs := #[.slice none 0 0, .bool false]) (t := 24) ?hr ?_; (case hd => rfl); (case hg => rfl); (case hr => first | (go_simp; done) | (go_simp; rfl)); intro gb242 hg w8 hbox hb; have BK242 := Aside0.mk hbox; have GW242 := gw_ HB hg; have GE242 := gw_ HB hg; have NB241_242 := nl_ BK241 hg; have NB242_241 := nr_ BK241 hg; replace BK241 := bb_ BK241 hb; replace HB := hs_ HB hb; clear hb hbox hg; have hnb9 := NB241_242.out; have hnc9 := NB242_241.out; obtain ⟨hcz10_0, hcz10_1, hfz10_0, hfz10_1⟩ := c2_ BK241) | ((with_reducible refine gate_callee (f := 40) rfl ?_); refine goesL_ (some 18) rfl rfl Tryd.func40 (by kernel_rfl) rfl #[.agg #[.slice A0_0 l0_0.length c0_0, .bool a0_1]] rfl gl_ ?_; (with_reducible refine (stockyardref03_Check.calls k _ _ l0_0 a0_1 t243 _ ?side1 ?side2 A3.out).mono ?_); (case side1 => exact sd_); (case side2 => exact HC0_0.out); rintro e w11 ⟨rfl, hb⟩; refine ⟨_, rfl, ?_⟩; replace BK241 := bb_ BK241 hb; replace BK242 := bb_ BK242 hb; replace HB := hs_ HB hb; (try clear hb); (try clear hb2); (try clear hk); (try clear hi); obtain ⟨hcz12_0, hcz12_1, hfz12_0, hfz12_1⟩ := c2_ BK241) | ((with_reducible refine gate_callee (f := 41) rfl ?_); refine goesL_ (some 26) rfl rfl Tryd.func41 (by kernel_rfl) rfl #[.agg #[.slice A0_0 l0_0.length c0_0, .bool a0_1]] rfl gl_ ?_; (with_reducible refine (stockyardref03_wildcards.calls k _ _ l0_0 a0_1 t244 _ ?side1 ?side2 A5.out).mono ?_); (case side1 => exact sd_); (case side2 => exact HC0_0.out); rintro e w13 ⟨rfl, hb⟩; refine ⟨_, rfl, ?_⟩; replace BK241 := bb_ BK241 hb; replace BK242 := bb_ BK242 hb; replace HB := hs_ HB hb; (try clear hb); (try clear hb2); (try clear hk); (try clear hi)) | ((with_reducible refine gate_dst (N := 7) rfl ?_); refine box_event ?hg (N := 7) ?hd (cs := #[.slice none 0 0, .bool false]) (t := 24) ?hr ?_; (case hd => rfl); (case hg => rfl); (case hr => first | (go_simp; done) | (go_simp; rfl)); intro gb245 hg w14 hbox hb; have BK245 := Aside0.mk hbox; have GW245 := gw_ HB hg; have GE245 := gw_ HB hg; have NB241_245 := nl_ BK241 hg; have NB245_241 := nr_ BK241 hg; have NB242_245 := nl_ BK242 hg; have NB245_242 := nr_ BK242 hg; replace BK241 := bb_ BK241 hb; replace BK242 := bb_ BK242 hb; replace HB := hs_ HB hb; clear hb hbox hg; have hnb15 := NB241_245.out; have hnc15 := NB245_241.out; obtain ⟨hcz16_0, hcz16_1, hfz16_0, hfz16_1⟩ := c2_ BK241))
      go_loopg [8, 32] k (fun kq v8 v32 w' => ∃ (x8_1 : Int) (x32_1 : Int) (x243001_1 : Bool) (x246000_1 : List ByteArray) (u246000 : Value), v8 = .int .i64 x8_1 ∧ v32 = .int .i64 x32_1 ∧ Aside0 (stockyardref03_Substitute.l0 kq l1 x8_1 l0_0 (l0_0.length : Int) x32_1 l0_0 a0_1 x246000_1 false = some (r1, r2, r3)) ∧ Aside0 (kq ≤ k) ∧ Aside0 (Kd.R Kd.string 9 w' w.heap.size (fun _ => True) u246000 x246000_1) ∧ Aside0 (w'.heap[gb241]? = some (.cells #[(.slice A0_0 l0_0.length c0_0), .bool a0_1] 24 (0, 0))) ∧ Aside0 (w'.heap[gb242]? = some (.cells #[(.slice none 0 0), .bool x243001_1] 24 (0, 0))) ∧ Aside0 (w'.heap[gb245]? = some (.cells #[u246000, .bool false] 24 (0, 0))) ∧ Aside0 (Below w.heap.size w w'))
      case atStart => exact ⟨(0), (0), (false), (([] : List ByteArray)), (.slice none 0 0), (by first | rfl | (simp; done) | (simp [*]; done)), (by first | rfl | (simp; done) | (simp [*]; done)), H', ⟨Nat.le_refl _⟩, ⟨by first | exact Kd.R_nil _ _ _ _ _ | exact Kd.N_nil _ _ _ _ _ | exact Kd.V_nil _ _ _ _ _ | exact Kd.Q_nil _ _ _ _ _ | exact Kd.S_nil _ _ _ _ _⟩, ⟨bk_⟩, ⟨bk_⟩, ⟨bk_⟩, ⟨hb_⟩⟩
      case round =>
        clear H'
        (try clear c1); (try clear p2); (try clear c4); (try clear c4b0); (try clear c4b1); (try clear c6); (try clear c6b0); (try clear c6b1); (try clear c9); (try clear c15); (try clear c16); (try clear hcz10_0); (try clear hcz10_1); (try clear hcz12_0); (try clear hcz12_1); (try clear hcz16_0); (try clear hcz16_1); (try clear hfz10_0); (try clear hfz10_1); (try clear hfz12_0); (try clear hfz12_1); (try clear hfz16_0); (try clear hfz16_1)
        obtain ⟨x8_1, x32_1, x243001_1, x246000_1, u246000, rfl, rfl, HA, HK1, HO_246000, BK241, BK242, BK245, HB⟩ := hrel
        cases gk with
        | zero => exact absurd HA.out (by simp [stockyardref03_Substitute.l0])
        | succ k1 =>
          have H := HA.out
          clear HA
          simp only [stockyardref03_Substitute.l0] at H
          by_cases c17 : x32_1 < (l0_0.length : Int)
          · rw [if_pos c17] at H
            have c17b0 : decide (x32_1 < (l0_0.length : Int)) = true := decide_eq_true c17
            clear c17
            by_cases c18 : 0 ≤ x32_1
            · rw [if_pos c18] at H
              have c18b0 : decide (0 ≤ x32_1) = true := decide_eq_true c18
              clear c18
              by_cases c19 : x32_1 < (l0_0.length : Int)
              · rw [if_pos c19] at H
                have c19b0 : decide (x32_1 < (l0_0.length : Int)) = true := decide_eq_true c19
                clear c19
                replace H := Option.bind_eq_some_iff.mp H
                obtain ⟨⟨t247, t248⟩, A200, H⟩ := H
                replace H : (if t248 = true then (if 0 ≤ x8_1 then (if x8_1 < (l1.length : Int) then (if (((rd_T28 l1 x8_1).f0).length : Int) = 1 then (if (rd_T28 l1 x8_1).f1 = true then (some (([] : List ByteArray), false, 33)) else (if 0 < (((rd_T28 l1 x8_1).f0).length : Int) then ((stockyardref03_Part.f k1 (rdOf ByteArray.empty ((rd_T28 l1 x8_1).f0) 0)).bind fun t252 => (if t252 = true then (if (rdOf ByteArray.empty ((rd_T28 l1 x8_1).f0) 0).size + t247.size ≤ 9223372036854775807 then (if x246000_1.length < 8796093022208 then (stockyardref03_Substitute.l0 k1 l1 (wrap64 (x8_1 + 1)) l0_0 (l0_0.length : Int) (wrap64 (x32_1 + 1)) l0_0 a0_1 (x246000_1 ++ [(rdOf ByteArray.empty ((rd_T28 l1 x8_1).f0) 0) ++ t247]) false) else (none)) else (none)) else (some (([] : List ByteArray), false, 33)))) else (none))) else (some (([] : List ByteArray), false, 33))) else (none)) else (none)) else (if x246000_1.length < 8796093022208 then (stockyardref03_Substitute.l0 k1 l1 x8_1 l0_0 (l0_0.length : Int) (wrap64 (x32_1 + 1)) l0_0 a0_1 (x246000_1 ++ [rdOf ByteArray.empty l0_0 x32_1]) false) else (none))) = some (r1, r2, r3) := H
                have A20 := Aside0.mk A200
                clear A200
                by_cases c21 : t248 = true
                · subst c21
                  have H1 : (if 0 ≤ x8_1 then (if x8_1 < (l1.length : Int) then (if (((rd_T28 l1 x8_1).f0).length : Int) = 1 then (if (rd_T28 l1 x8_1).f1 = true then (some (([] : List ByteArray), false, 33)) else (if 0 < (((rd_T28 l1 x8_1).f0).length : Int) then ((stockyardref03_Part.f k1 (rdOf ByteArray.empty ((rd_T28 l1 x8_1).f0) 0)).bind fun t252 => (if t252 = true then (if (rdOf ByteArray.empty ((rd_T28 l1 x8_1).f0) 0).size + t247.size ≤ 9223372036854775807 then (if x246000_1.length < 8796093022208 then (stockyardref03_Substitute.l0 k1 l1 (wrap64 (x8_1 + 1)) l0_0 (l0_0.length : Int) (wrap64 (x32_1 + 1)) l0_0 a0_1 (x246000_1 ++ [(rdOf ByteArray.empty ((rd_T28 l1 x8_1).f0) 0) ++ t247]) false) else (none)) else (none)) else (some (([] : List ByteArray), false, 33)))) else (none))) else (some (([] : List ByteArray), false, 33))) else (none)) else (none)) = some (r1, r2, r3) := by rw [if_pos rfl] at H; exact H
                  clear H
                  have H := H1
                  clear H1
                  by_cases c22 : 0 ≤ x8_1
                  · rw [if_pos c22] at H
                    have c22b0 : decide (0 ≤ x8_1) = true := decide_eq_true c22
                    clear c22
                    by_cases c23 : x8_1 < (l1.length : Int)
                    · rw [if_pos c23] at H
                      have c23b0 : decide (x8_1 < (l1.length : Int)) = true := decide_eq_true c23
                      clear c23
                      by_cases c24 : (((rd_T28 l1 x8_1).f0).length : Int) = 1
                      · rw [if_pos c24] at H
                        have c24b0 : ((((rd_T28 l1 x8_1).f0).length : Int) == 1) = true := beq_iff_eq.mpr c24
                        have c24b1 : ((((rd_T28 l1 x8_1).f0).length : Int) != 1) = false := bne_eq_false_iff_eq.mpr c24
                        clear c24
                        obtain ⟨bq25, hbq25⟩ : ∃ b_ : Bool, b_ = ((rd_T28 l1 x8_1).f1) := ⟨_, rfl⟩
                        replace H : (if bq25 = true then (some (([] : List ByteArray), false, 33)) else (if 0 < (((rd_T28 l1 x8_1).f0).length : Int) then ((stockyardref03_Part.f k1 (rdOf ByteArray.empty ((rd_T28 l1 x8_1).f0) 0)).bind fun t252 => (if t252 = true then (if (rdOf ByteArray.empty ((rd_T28 l1 x8_1).f0) 0).size + t247.size ≤ 9223372036854775807 then (if x246000_1.length < 8796093022208 then (stockyardref03_Substitute.l0 k1 l1 (wrap64 (x8_1 + 1)) l0_0 (l0_0.length : Int) (wrap64 (x32_1 + 1)) l0_0 a0_1 (x246000_1 ++ [(rdOf ByteArray.empty ((rd_T28 l1 x8_1).f0) 0) ++ t247]) false) else (none)) else (none)) else (some (([] : List ByteArray), false, 33)))) else (none))) = some (r1, r2, r3) := by rw [← hbq25] at H; exact H
                        have Nbq25 := Aside0.mk hbq25
                        clear hbq25
                        by_cases c26 : bq25 = true
                        · subst c26
                          have H1 : (some (([] : List ByteArray), false, 33)) = some (r1, r2, r3) := by rw [if_pos rfl] at H; exact H
                          clear H
                          have H := H1
                          clear H1
                          simp only [Option.some.injEq, Prod.mk.injEq] at H
                          obtain ⟨rfl, rfl, rfl⟩ := H
                          have p246 : 0 ≤ (x32_1 : Int) := of_decide_eq_true (by first | (with_reducible assumption) | assumption)
                          have q246 : x32_1 < (l0_0.length : Int) := of_decide_eq_true (by first | (with_reducible assumption) | assumption)
                          obtain ⟨ad246, e246, hx246_0⟩ := Kd.at_string HR0_0.out x32_1 p246 q246
                          cases e246
                          replace hx246_0 := (HB.out.cell (World.block_lt_of_cell? w _ hx246_0)).trans hx246_0
                          replace p246 := eq_true p246
                          replace q246 := eq_true q246
                          go_wp2_with (first | ((with_reducible refine gate_callee (f := 42) rfl ?_); refine goesL_ (some 38) rfl rfl Tryd.func42 (by kernel_rfl) rfl #[.string (rdOf ByteArray.empty l0_0 x32_1)] rfl gl_ ?_; (with_reducible refine (stockyardref03_Star.calls k1 (rdOf ByteArray.empty l0_0 x32_1) t247 true _ A20.out).mono ?_); rintro e w' ⟨rfl, ⟨nd, rfl⟩⟩; refine ⟨_, rfl, ?_⟩; (try (rw [drewN_self wr]; generalize hq_ : World.drewN wr _ = wr; have n0_ : Aside0 (Kd.R Kd.string 9 wr w.heap.size (fun _ => True) u246000 x246000_1) := ⟨by rw [← hq_]; exact (rp_ HO_246000)⟩; have n1_ : Aside0 (wr.heap[gb241]? = some (.cells #[.slice (some ad246) l0_0.length c0_0, .bool a0_1] 24 (0, 0))) := ⟨by rw [← hq_]; exact bk_⟩; have n2_ : Aside0 (wr.heap[gb242]? = some (.cells #[.slice none 0 0, .bool x243001_1] 24 (0, 0))) := ⟨by rw [← hq_]; exact bk_⟩; have n3_ : Aside0 (wr.heap[gb245]? = some (.cells #[u246000, .bool false] 24 (0, 0))) := ⟨by rw [← hq_]; exact bk_⟩; have n4_ : Aside0 (Below w.heap.size w wr) := ⟨by rw [← hq_]; exact hb_⟩; clear HO_246000 BK241 BK242 BK245 HB hq_; have HO_246000 := n0_; have BK241 := n1_; have BK242 := n2_; have BK245 := n3_; have HB := n4_; clear n0_ n1_ n2_ n3_ n4_)); have p249 : 0 ≤ (x8_1 : Int) := of_decide_eq_true (by first | (with_reducible assumption) | assumption); have q249 : x8_1 < (l1.length : Int) := of_decide_eq_true (by first | (with_reducible assumption) | assumption); obtain ⟨ad249, A249_0, c249_0, e249, hx249_0, hx249_1, hl249_0, hi249_0⟩ := at_T28 HR1.out x8_1 p249 q249; (try rw [← Nbq25.out] at hx249_1); cases e249; replace hx249_0 := (HB.out.cell (World.block_lt_of_cell? w _ hx249_0)).trans hx249_0; replace hx249_1 := (HB.out.cell (World.block_lt_of_cell? w _ hx249_1)).trans hx249_1; have HR249_0 := Aside0.mk hi249_0; have HC249_0 := Aside0.mk hl249_0; clear hi249_0 hl249_0; replace p249 := eq_true p249; replace q249 := eq_true q249) | ((with_reducible refine gate_dst (N := 13) rfl ?_); refine box_event ?hg (N := 13) ?hd (cs := #[.slice none 0 0, .bool false]) (t := 28) ?hr ?_; (case hd => rfl); (case hg => rfl); (case hr => first | (go_simp; done) | (go_simp; rfl)); intro gb250 hg w27 hbox hb; have BK250 := Aside0.mk hbox; have GW250 := gw_ HB hg; have GE250 := gw_ HB hg; have NB241_250 := nl_ BK241 hg; have NB250_241 := nr_ BK241 hg; have NB242_250 := nl_ BK242 hg; have NB250_242 := nr_ BK242 hg; have NB245_250 := nl_ BK245 hg; have NB250_245 := nr_ BK245 hg; replace HO_246000 := rb_ HO_246000 hb; replace BK241 := bb_ BK241 hb; replace BK242 := bb_ BK242 hb; replace BK245 := bb_ BK245 hb; replace HB := hs_ HB hb; clear hb hbox hg; have hnb28 := NB250_241.out; have hnc28 := NB241_250.out; have hnb29 := NB250_242.out; have hnc29 := NB242_250.out; have hnb30 := NB250_245.out; have hnc30 := NB245_250.out; obtain ⟨hcz31_0, hcz31_1, hfz31_0, hfz31_1⟩ := c2_ BK250; have hnb32 := NB242_241.out; have hnc32 := NB241_242.out; have hnb33 := NB242_245.out; have hnc33 := NB245_242.out; obtain ⟨hcz34_0, hcz34_1, hfz34_0, hfz34_1⟩ := c2_ BK242))
                          refine bodyPost_ret (results_ct rfl _ _ gb242 24 #[.slice none 0 0, .bool false] (0, 0) _ rfl bz_ Tryd.underlying24 rfl (by kernel_rfl)) rfl ?_
                          exact ⟨_, rt_, rn_, hb_⟩
                        · replace c26 := Bool.eq_false_iff.mpr c26
                          subst c26
                          have H1 : (if 0 < (((rd_T28 l1 x8_1).f0).length : Int) then ((stockyardref03_Part.f k1 (rdOf ByteArray.empty ((rd_T28 l1 x8_1).f0) 0)).bind fun t252 => (if t252 = true then (if (rdOf ByteArray.empty ((rd_T28 l1 x8_1).f0) 0).size + t247.size ≤ 9223372036854775807 then (if x246000_1.length < 8796093022208 then (stockyardref03_Substitute.l0 k1 l1 (wrap64 (x8_1 + 1)) l0_0 (l0_0.length : Int) (wrap64 (x32_1 + 1)) l0_0 a0_1 (x246000_1 ++ [(rdOf ByteArray.empty ((rd_T28 l1 x8_1).f0) 0) ++ t247]) false) else (none)) else (none)) else (some (([] : List ByteArray), false, 33)))) else (none)) = some (r1, r2, r3) := by rw [if_neg (show ¬ (false = true) by decide)] at H; exact H
                          clear H
                          have H := H1
                          clear H1
                          by_cases c35 : 0 < (((rd_T28 l1 x8_1).f0).length : Int)
                          · rw [if_pos c35] at H
                            have c35b0 : decide (0 < (((rd_T28 l1 x8_1).f0).length : Int)) = true := decide_eq_true c35
                            have c35b1 : decide (0 < ((rd_T28 l1 x8_1).f0).length) = true := decide_eq_true (by omega)
                            clear c35
                            replace H := Option.bind_eq_some_iff.mp H
                            obtain ⟨t252, A360, H⟩ := H
                            replace H : (if t252 = true then (if (rdOf ByteArray.empty ((rd_T28 l1 x8_1).f0) 0).size + t247.size ≤ 9223372036854775807 then (if x246000_1.length < 8796093022208 then (stockyardref03_Substitute.l0 k1 l1 (wrap64 (x8_1 + 1)) l0_0 (l0_0.length : Int) (wrap64 (x32_1 + 1)) l0_0 a0_1 (x246000_1 ++ [(rdOf ByteArray.empty ((rd_T28 l1 x8_1).f0) 0) ++ t247]) false) else (none)) else (none)) else (some (([] : List ByteArray), false, 33))) = some (r1, r2, r3) := H
                            have A36 := Aside0.mk A360
                            clear A360
                            by_cases c37 : t252 = true
                            · subst c37
                              have H1 : (if (rdOf ByteArray.empty ((rd_T28 l1 x8_1).f0) 0).size + t247.size ≤ 9223372036854775807 then (if x246000_1.length < 8796093022208 then (stockyardref03_Substitute.l0 k1 l1 (wrap64 (x8_1 + 1)) l0_0 (l0_0.length : Int) (wrap64 (x32_1 + 1)) l0_0 a0_1 (x246000_1 ++ [(rdOf ByteArray.empty ((rd_T28 l1 x8_1).f0) 0) ++ t247]) false) else (none)) else (none)) = some (r1, r2, r3) := by rw [if_pos rfl] at H; exact H
                              clear H
                              have H := H1
                              clear H1
                              by_cases c38 : (rdOf ByteArray.empty ((rd_T28 l1 x8_1).f0) 0).size + t247.size ≤ 9223372036854775807
                              · rw [if_pos c38] at H
                                have c38b0 := eq_true c38
                                have c38b1 : decide ((rdOf ByteArray.empty ((rd_T28 l1 x8_1).f0) 0).size + t247.size ≤ 9223372036854775807) = true := decide_eq_true c38
                                try have c38b2 : (9223372036854775807 < (rdOf ByteArray.empty ((rd_T28 l1 x8_1).f0) 0).size + t247.size) = False := eq_false (Nat.not_lt.2 c38)
                                by_cases c39 : x246000_1.length < 8796093022208
                                · rw [if_pos c39] at H
                                  have LMc39 := Aside0.mk c39
                                  clear c39
                                  obtain ⟨y254, hy254⟩ : ∃ y_ : List ByteArray, y_ = (x246000_1 ++ [(rdOf ByteArray.empty ((rd_T28 l1 x8_1).f0) 0) ++ t247]) := ⟨_, rfl⟩
                                  replace H : (stockyardref03_Substitute.l0 k1 l1 (wrap64 (x8_1 + 1)) l0_0 (l0_0.length : Int) (wrap64 (x32_1 + 1)) l0_0 a0_1 y254 false) = some (r1, r2, r3) := by first | (rw [hy254]; with_reducible exact H) | (have H2_ := (Option.bind_some _ _).symm.trans H; rw [hy254]; with_reducible exact H2_) | (have H2_ := (Option.bind_some _ _).symm.trans H; with_reducible exact H2_) | with_reducible exact H | (rw [hy254]; exact H) | exact H
                                  have Ny254 := Aside0.mk hy254
                                  clear hy254
                                  have H' := Aside0.mk H
                                  clear H
                                  have p246 : 0 ≤ (x32_1 : Int) := of_decide_eq_true (by first | (with_reducible assumption) | assumption)
                                  have q246 : x32_1 < (l0_0.length : Int) := of_decide_eq_true (by first | (with_reducible assumption) | assumption)
                                  obtain ⟨ad246, e246, hx246_0⟩ := Kd.at_string HR0_0.out x32_1 p246 q246
                                  cases e246
                                  replace hx246_0 := (HB.out.cell (World.block_lt_of_cell? w _ hx246_0)).trans hx246_0
                                  replace p246 := eq_true p246
                                  replace q246 := eq_true q246
                                  go_wp2_with (first | ((with_reducible refine gate_callee (f := 42) rfl ?_); refine goesL_ (some 38) rfl rfl Tryd.func42 (by kernel_rfl) rfl #[.string (rdOf ByteArray.empty l0_0 x32_1)] rfl gl_ ?_; (with_reducible refine (stockyardref03_Star.calls k1 (rdOf ByteArray.empty l0_0 x32_1) t247 true _ A20.out).mono ?_); rintro e w' ⟨rfl, ⟨nd, rfl⟩⟩; refine ⟨_, rfl, ?_⟩; (try (rw [drewN_self wr]; generalize hq_ : World.drewN wr _ = wr; have n0_ : Aside0 (Kd.R Kd.string 9 wr w.heap.size (fun _ => True) u246000 x246000_1) := ⟨by rw [← hq_]; exact (rp_ HO_246000)⟩; have n1_ : Aside0 (wr.heap[gb241]? = some (.cells #[.slice (some ad246) l0_0.length c0_0, .bool a0_1] 24 (0, 0))) := ⟨by rw [← hq_]; exact bk_⟩; have n2_ : Aside0 (wr.heap[gb242]? = some (.cells #[.slice none 0 0, .bool x243001_1] 24 (0, 0))) := ⟨by rw [← hq_]; exact bk_⟩; have n3_ : Aside0 (wr.heap[gb245]? = some (.cells #[u246000, .bool false] 24 (0, 0))) := ⟨by rw [← hq_]; exact bk_⟩; have n4_ : Aside0 (Below w.heap.size w wr) := ⟨by rw [← hq_]; exact hb_⟩; clear HO_246000 BK241 BK242 BK245 HB hq_; have HO_246000 := n0_; have BK241 := n1_; have BK242 := n2_; have BK245 := n3_; have HB := n4_; clear n0_ n1_ n2_ n3_ n4_)); have p249 : 0 ≤ (x8_1 : Int) := of_decide_eq_true (by first | (with_reducible assumption) | assumption); have q249 : x8_1 < (l1.length : Int) := of_decide_eq_true (by first | (with_reducible assumption) | assumption); obtain ⟨ad249, A249_0, c249_0, e249, hx249_0, hx249_1, hl249_0, hi249_0⟩ := at_T28 HR1.out x8_1 p249 q249; (try rw [← Nbq25.out] at hx249_1); cases e249; replace hx249_0 := (HB.out.cell (World.block_lt_of_cell? w _ hx249_0)).trans hx249_0; replace hx249_1 := (HB.out.cell (World.block_lt_of_cell? w _ hx249_1)).trans hx249_1; have HR249_0 := Aside0.mk hi249_0; have HC249_0 := Aside0.mk hl249_0; clear hi249_0 hl249_0; replace p249 := eq_true p249; replace q249 := eq_true q249) | ((with_reducible refine gate_dst (N := 13) rfl ?_); refine box_event ?hg (N := 13) ?hd (cs := #[.slice none 0 0, .bool false]) (t := 28) ?hr ?_; (case hd => rfl); (case hg => rfl); (case hr => first | (go_simp; done) | (go_simp; rfl)); intro gb250 hg w40 hbox hb; have BK250 := Aside0.mk hbox; have GW250 := gw_ HB hg; have GE250 := gw_ HB hg; have NB241_250 := nl_ BK241 hg; have NB250_241 := nr_ BK241 hg; have NB242_250 := nl_ BK242 hg; have NB250_242 := nr_ BK242 hg; have NB245_250 := nl_ BK245 hg; have NB250_245 := nr_ BK245 hg; replace HO_246000 := rb_ HO_246000 hb; replace BK241 := bb_ BK241 hb; replace BK242 := bb_ BK242 hb; replace BK245 := bb_ BK245 hb; replace HB := hs_ HB hb; clear hb hbox hg; have hnb41 := NB250_241.out; have hnc41 := NB241_250.out; have hnb42 := NB250_242.out; have hnc42 := NB242_250.out; have hnb43 := NB250_245.out; have hnc43 := NB245_250.out; obtain ⟨hcz44_0, hcz44_1, hfz44_0, hfz44_1⟩ := c2_ BK250; have p251 : 0 ≤ (0 : Int) := (by omega); have q251 : 0 < (((rd_T28 l1 x8_1).f0).length : Int) := of_decide_eq_true (by first | (with_reducible assumption) | assumption); obtain ⟨ad251, e251, hx251_0⟩ := Kd.at_string HR249_0.out 0 p251 q251; cases e251; have qi251 : (0 < ((rd_T28 l1 x8_1).f0).length) = True := eq_true (by omega); (try rw [show ((0 : Int)).toNat = 0 from rfl] at hx251_0); (try rw [Addr.add_zero'] at hx251_0); have hn251_0 : ad251.block ≠ gb250 := Nat.ne_of_lt (Nat.lt_of_lt_of_le (by have := World.block_lt_of_cell? _ _ hx251_0; first | rwa [add_block] at this | exact this) GW250.out); have hn251_1 : ad251.block ≠ gb250 := Nat.ne_of_lt (Nat.lt_of_lt_of_le (by have := World.block_lt_of_cell? _ _ hx251_0; first | rwa [add_block] at this | exact this) GW250.out); replace hx251_0 := (HB.out.cell (World.block_lt_of_cell? w _ hx251_0)).trans hx251_0; replace hx251_0 := (cell_far (p := ⟨gb250, 0, none⟩) (by first | (rw [add_block]; exact hn251_0) | (show (Addr.add _ _).block ≠ _; rw [add_block]; exact hn251_0) | exact hn251_0) (.slice (some ad251) ((rd_T28 l1 x8_1).f0).length c249_0)).trans hx251_0; replace hx251_0 := (cell_far (p := ⟨gb250, 1, none⟩) (by first | (rw [add_block]; exact hn251_1) | (show (Addr.add _ _).block ≠ _; rw [add_block]; exact hn251_1) | exact hn251_1) (.bool false)).trans hx251_0; clear hn251_0; clear hn251_1; replace p251 := eq_true p251; replace q251 := eq_true q251) | (go_at_call 43; (with_reducible refine (stockyardref03_Part.calls k1 (rdOf ByteArray.empty ((rd_T28 l1 x8_1).f0) 0) true _ A36.out).mono ?_); rintro e w' ⟨rfl, ⟨nd, rfl⟩⟩; have p253 : 0 ≤ (0 : Int) := (by omega); have q253 : 0 < (((rd_T28 l1 x8_1).f0).length : Int) := of_decide_eq_true (by first | (with_reducible assumption) | assumption); obtain ⟨ad253, e253, hx253_0⟩ := Kd.at_string HR249_0.out 0 p253 q253; obtain rfl : ad251 = ad253 := (by injection e253); have qi253 : (0 < ((rd_T28 l1 x8_1).f0).length) = True := eq_true (by omega); (try rw [show ((0 : Int)).toNat = 0 from rfl] at hx253_0); (try rw [Addr.add_zero'] at hx253_0); have hn253_0 : ad251.block ≠ gb250 := Nat.ne_of_lt (Nat.lt_of_lt_of_le (by have := World.block_lt_of_cell? _ _ hx253_0; first | rwa [add_block] at this | exact this) GW250.out); have hn253_1 : ad251.block ≠ gb250 := Nat.ne_of_lt (Nat.lt_of_lt_of_le (by have := World.block_lt_of_cell? _ _ hx253_0; first | rwa [add_block] at this | exact this) GW250.out); replace hx253_0 := (HB.out.cell (World.block_lt_of_cell? w _ hx253_0)).trans hx253_0; replace hx253_0 := (cell_far (p := ⟨gb250, 0, none⟩) (by first | (rw [add_block]; exact hn253_0) | (show (Addr.add _ _).block ≠ _; rw [add_block]; exact hn253_0) | exact hn253_0) (.slice (some ad251) ((rd_T28 l1 x8_1).f0).length c249_0)).trans hx253_0; replace hx253_0 := (cell_far (p := ⟨gb250, 1, none⟩) (by first | (rw [add_block]; exact hn253_1) | (show (Addr.add _ _).block ≠ _; rw [add_block]; exact hn253_1) | exact hn253_1) (.bool false)).trans hx253_0; clear hn253_0; clear hn253_1; replace p253 := eq_true p253; replace q253 := eq_true q253; have hnb45 := NB245_241.out; have hnc45 := NB241_245.out; have hnb46 := NB245_242.out; have hnc46 := NB242_245.out; obtain ⟨hcz47_0, hcz47_1, hfz47_0, hfz47_1⟩ := c2_ BK245) | ((with_reducible refine gate_builtin (b := .append) (xs := #[.tmp 72, .tmp 74]) rfl ?_); at_builtin; refine Kd.R_append Kd.string (w0 := w) w.heap.size rfl (.tmp 72) (.tmp 74) 22 9 (.string ⟨#[]⟩) 16 rfl Tryd.underlying22 info9 rfl (by decide) (by omega) u246000 x246000_1 ((rdOf ByteArray.empty ((rd_T28 l1 x8_1).f0) 0) ++ t247) [.string ((rdOf ByteArray.empty ((rd_T28 l1 x8_1).f0) 0) ++ t247)] (fun _ => True) (fun _ => False) rfl (by first | (go_simp; done) | (go_simp; rfl)) ?aP (fun _ hk => hk.elim) ?aF ?aO ?aB ?aS ?aL ?_; (case aP => exact rfl); (case aB => exact hb_); (case aF => exact (fun _ _ => trivial)); (case aO => exact (by (with_reducible repeat (first | apply Kd.R_alloc | apply Kd.R_drewN | apply Kd.R_drew)); exact Kd.R_mono (Kd.R_far (p := ⟨gb250, 1, none⟩) (Kd.R_far (p := ⟨gb250, 0, none⟩) (Kd.R_types HO_246000.out BK250.out (by decide)) (fun _ hk => hk.2) (.slice (some ad251) ((rd_T28 l1 x8_1).f0).length c249_0)) (fun _ hk => hk.2) (.bool false)) (fun _ hk => trivial))); (case aS => exact (below_size hb_)); (case aL => have := LMc39.out; omega); intro v255 w48 ho hb hg hat; rw [← Ny254.out] at ho; have n0_ := Aside0.mk (blk_grown (g := gb241) (o := .cells #[.slice (some ad246) l0_0.length c0_0, .bool a0_1] 24 (0, 0)) bz_ hg (Kd.R_ne HO_246000.out BK241.out (by decide))); have n1_ := Aside0.mk (blk_grown (g := gb242) (o := .cells #[.slice none 0 0, .bool x243001_1] 24 (0, 0)) bz_ hg (Kd.R_ne HO_246000.out BK242.out (by decide))); have n2_ := Aside0.mk (blk_grown (g := gb245) (o := .cells #[u246000, .bool false] 24 (0, 0)) bz_ hg (Kd.R_ne HO_246000.out BK245.out (by decide))); have n3_ := Aside0.mk (blk_grown (g := gb250) (o := .cells #[.slice (some ad251) ((rd_T28 l1 x8_1).f0).length c249_0, .bool false] 28 (0, 0)) bz_ hg (Kd.R_ne HO_246000.out BK250.out (by decide))); have n4_ := Aside0.mk (hb); have n5_ := Aside0.mk (ho); clear BK241 BK242 BK245 BK250 HB HO_246000; have BK241 := n0_; have BK242 := n1_; have BK245 := n2_; have BK250 := n3_; have HB := n4_; have HO256 := n5_; clear n0_ n1_ n2_ n3_ n4_ n5_; clear ho hb hg hat; obtain ⟨Ao49, co49, eo49⟩ := Kd.R_slice HO256.out; subst eo49; obtain ⟨hcz50_0, hcz50_1, hfz50_0, hfz50_1⟩ := c2_ BK245))
                                  go_roundg k1
                                  case measure => have := HK1.out; omega
                                  case rel => exact ⟨(wrap64 (x8_1 + 1)), (wrap64 (x32_1 + 1)), (x243001_1), (y254), (.slice Ao49 y254.length co49), (by first | rfl | (simp; done) | (simp [*]; done)), (by first | rfl | (simp; done) | (simp [*]; done)), H', ⟨by have := HK1.out; omega⟩, ⟨by (with_reducible repeat (first | apply Kd.R_alloc | apply Kd.R_drewN | apply Kd.R_drew)); exact Kd.R_mono (Kd.R_far (p := ⟨gb245, 0, none⟩) (Kd.R_types HO256.out BK245.out (by decide)) (fun _ hk => hk.2) (.slice Ao49 y254.length co49)) (fun _ hk => trivial)⟩, ⟨by (with_reducible repeat (first | refine blk_drewN ?_ _ | refine blk_drew ?_ | refine blk_alloc ?_ _)); refine blk_far ?_ NB241_245.out _; (with_reducible repeat (first | refine blk_drewN ?_ _ | refine blk_drew ?_ | refine blk_alloc ?_ _)); exact BK241.out⟩, ⟨by (with_reducible repeat (first | refine blk_drewN ?_ _ | refine blk_drew ?_ | refine blk_alloc ?_ _)); refine blk_far ?_ NB242_245.out _; (with_reducible repeat (first | refine blk_drewN ?_ _ | refine blk_drew ?_ | refine blk_alloc ?_ _)); exact BK242.out⟩, ⟨by (with_reducible repeat (first | refine blk_drewN ?_ _ | refine blk_drew ?_ | refine blk_alloc ?_ _)); refine blk_put (cs := #[u246000, .bool false]) ?_ 0 _ rfl; (with_reducible repeat (first | refine blk_drewN ?_ _ | refine blk_drew ?_ | refine blk_alloc ?_ _)); exact BK245.out⟩, ⟨hb_⟩⟩
                                · rw [if_neg c39] at H
                                  exact absurd H (by simp)
                              · rw [if_neg c38] at H
                                exact absurd H (by simp)
                            · replace c37 := Bool.eq_false_iff.mpr c37
                              subst c37
                              have H1 : (some (([] : List ByteArray), false, 33)) = some (r1, r2, r3) := by rw [if_neg (show ¬ (false = true) by decide)] at H; exact H
                              clear H
                              have H := H1
                              clear H1
                              simp only [Option.some.injEq, Prod.mk.injEq] at H
                              obtain ⟨rfl, rfl, rfl⟩ := H
                              have p246 : 0 ≤ (x32_1 : Int) := of_decide_eq_true (by first | (with_reducible assumption) | assumption)
                              have q246 : x32_1 < (l0_0.length : Int) := of_decide_eq_true (by first | (with_reducible assumption) | assumption)
                              obtain ⟨ad246, e246, hx246_0⟩ := Kd.at_string HR0_0.out x32_1 p246 q246
                              cases e246
                              replace hx246_0 := (HB.out.cell (World.block_lt_of_cell? w _ hx246_0)).trans hx246_0
                              replace p246 := eq_true p246
                              replace q246 := eq_true q246
                              go_wp2_with (first | ((with_reducible refine gate_callee (f := 42) rfl ?_); refine goesL_ (some 38) rfl rfl Tryd.func42 (by kernel_rfl) rfl #[.string (rdOf ByteArray.empty l0_0 x32_1)] rfl gl_ ?_; (with_reducible refine (stockyardref03_Star.calls k1 (rdOf ByteArray.empty l0_0 x32_1) t247 true _ A20.out).mono ?_); rintro e w' ⟨rfl, ⟨nd, rfl⟩⟩; refine ⟨_, rfl, ?_⟩; (try (rw [drewN_self wr]; generalize hq_ : World.drewN wr _ = wr; have n0_ : Aside0 (Kd.R Kd.string 9 wr w.heap.size (fun _ => True) u246000 x246000_1) := ⟨by rw [← hq_]; exact (rp_ HO_246000)⟩; have n1_ : Aside0 (wr.heap[gb241]? = some (.cells #[.slice (some ad246) l0_0.length c0_0, .bool a0_1] 24 (0, 0))) := ⟨by rw [← hq_]; exact bk_⟩; have n2_ : Aside0 (wr.heap[gb242]? = some (.cells #[.slice none 0 0, .bool x243001_1] 24 (0, 0))) := ⟨by rw [← hq_]; exact bk_⟩; have n3_ : Aside0 (wr.heap[gb245]? = some (.cells #[u246000, .bool false] 24 (0, 0))) := ⟨by rw [← hq_]; exact bk_⟩; have n4_ : Aside0 (Below w.heap.size w wr) := ⟨by rw [← hq_]; exact hb_⟩; clear HO_246000 BK241 BK242 BK245 HB hq_; have HO_246000 := n0_; have BK241 := n1_; have BK242 := n2_; have BK245 := n3_; have HB := n4_; clear n0_ n1_ n2_ n3_ n4_)); have p249 : 0 ≤ (x8_1 : Int) := of_decide_eq_true (by first | (with_reducible assumption) | assumption); have q249 : x8_1 < (l1.length : Int) := of_decide_eq_true (by first | (with_reducible assumption) | assumption); obtain ⟨ad249, A249_0, c249_0, e249, hx249_0, hx249_1, hl249_0, hi249_0⟩ := at_T28 HR1.out x8_1 p249 q249; (try rw [← Nbq25.out] at hx249_1); cases e249; replace hx249_0 := (HB.out.cell (World.block_lt_of_cell? w _ hx249_0)).trans hx249_0; replace hx249_1 := (HB.out.cell (World.block_lt_of_cell? w _ hx249_1)).trans hx249_1; have HR249_0 := Aside0.mk hi249_0; have HC249_0 := Aside0.mk hl249_0; clear hi249_0 hl249_0; replace p249 := eq_true p249; replace q249 := eq_true q249) | ((with_reducible refine gate_dst (N := 13) rfl ?_); refine box_event ?hg (N := 13) ?hd (cs := #[.slice none 0 0, .bool false]) (t := 28) ?hr ?_; (case hd => rfl); (case hg => rfl); (case hr => first | (go_simp; done) | (go_simp; rfl)); intro gb250 hg w51 hbox hb; have BK250 := Aside0.mk hbox; have GW250 := gw_ HB hg; have GE250 := gw_ HB hg; have NB241_250 := nl_ BK241 hg; have NB250_241 := nr_ BK241 hg; have NB242_250 := nl_ BK242 hg; have NB250_242 := nr_ BK242 hg; have NB245_250 := nl_ BK245 hg; have NB250_245 := nr_ BK245 hg; replace HO_246000 := rb_ HO_246000 hb; replace BK241 := bb_ BK241 hb; replace BK242 := bb_ BK242 hb; replace BK245 := bb_ BK245 hb; replace HB := hs_ HB hb; clear hb hbox hg; have hnb52 := NB250_241.out; have hnc52 := NB241_250.out; have hnb53 := NB250_242.out; have hnc53 := NB242_250.out; have hnb54 := NB250_245.out; have hnc54 := NB245_250.out; obtain ⟨hcz55_0, hcz55_1, hfz55_0, hfz55_1⟩ := c2_ BK250; have p251 : 0 ≤ (0 : Int) := (by omega); have q251 : 0 < (((rd_T28 l1 x8_1).f0).length : Int) := of_decide_eq_true (by first | (with_reducible assumption) | assumption); obtain ⟨ad251, e251, hx251_0⟩ := Kd.at_string HR249_0.out 0 p251 q251; cases e251; have qi251 : (0 < ((rd_T28 l1 x8_1).f0).length) = True := eq_true (by omega); (try rw [show ((0 : Int)).toNat = 0 from rfl] at hx251_0); (try rw [Addr.add_zero'] at hx251_0); have hn251_0 : ad251.block ≠ gb250 := Nat.ne_of_lt (Nat.lt_of_lt_of_le (by have := World.block_lt_of_cell? _ _ hx251_0; first | rwa [add_block] at this | exact this) GW250.out); have hn251_1 : ad251.block ≠ gb250 := Nat.ne_of_lt (Nat.lt_of_lt_of_le (by have := World.block_lt_of_cell? _ _ hx251_0; first | rwa [add_block] at this | exact this) GW250.out); replace hx251_0 := (HB.out.cell (World.block_lt_of_cell? w _ hx251_0)).trans hx251_0; replace hx251_0 := (cell_far (p := ⟨gb250, 0, none⟩) (by first | (rw [add_block]; exact hn251_0) | (show (Addr.add _ _).block ≠ _; rw [add_block]; exact hn251_0) | exact hn251_0) (.slice (some ad251) ((rd_T28 l1 x8_1).f0).length c249_0)).trans hx251_0; replace hx251_0 := (cell_far (p := ⟨gb250, 1, none⟩) (by first | (rw [add_block]; exact hn251_1) | (show (Addr.add _ _).block ≠ _; rw [add_block]; exact hn251_1) | exact hn251_1) (.bool false)).trans hx251_0; clear hn251_0; clear hn251_1; replace p251 := eq_true p251; replace q251 := eq_true q251) | (go_at_call 43; (with_reducible refine (stockyardref03_Part.calls k1 (rdOf ByteArray.empty ((rd_T28 l1 x8_1).f0) 0) false _ A36.out).mono ?_); rintro e w' ⟨rfl, ⟨nd, rfl⟩⟩; have hnb56 := NB242_241.out; have hnc56 := NB241_242.out; have hnb57 := NB242_245.out; have hnc57 := NB245_242.out; obtain ⟨hcz58_0, hcz58_1, hfz58_0, hfz58_1⟩ := c2_ BK242))
                              refine bodyPost_ret (results_ct rfl _ _ gb242 24 #[.slice none 0 0, .bool false] (0, 0) _ rfl bz_ Tryd.underlying24 rfl (by kernel_rfl)) rfl ?_
                              exact ⟨_, rt_, rn_, hb_⟩
                          · rw [if_neg c35] at H
                            exact absurd H (by simp)
                      · rw [if_neg c24] at H
                        have c24b0 : ((((rd_T28 l1 x8_1).f0).length : Int) == 1) = false := beq_eq_false_iff_ne.mpr c24
                        have c24b1 : ((((rd_T28 l1 x8_1).f0).length : Int) != 1) = true := bne_iff_ne.mpr c24
                        simp only [Option.some.injEq, Prod.mk.injEq] at H
                        obtain ⟨rfl, rfl, rfl⟩ := H
                        have p246 : 0 ≤ (x32_1 : Int) := of_decide_eq_true (by first | (with_reducible assumption) | assumption)
                        have q246 : x32_1 < (l0_0.length : Int) := of_decide_eq_true (by first | (with_reducible assumption) | assumption)
                        obtain ⟨ad246, e246, hx246_0⟩ := Kd.at_string HR0_0.out x32_1 p246 q246
                        cases e246
                        replace hx246_0 := (HB.out.cell (World.block_lt_of_cell? w _ hx246_0)).trans hx246_0
                        replace p246 := eq_true p246
                        replace q246 := eq_true q246
                        go_wp2_with (first | ((with_reducible refine gate_callee (f := 42) rfl ?_); refine goesL_ (some 38) rfl rfl Tryd.func42 (by kernel_rfl) rfl #[.string (rdOf ByteArray.empty l0_0 x32_1)] rfl gl_ ?_; (with_reducible refine (stockyardref03_Star.calls k1 (rdOf ByteArray.empty l0_0 x32_1) t247 true _ A20.out).mono ?_); rintro e w' ⟨rfl, ⟨nd, rfl⟩⟩; refine ⟨_, rfl, ?_⟩; (try (rw [drewN_self wr]; generalize hq_ : World.drewN wr _ = wr; have n0_ : Aside0 (Kd.R Kd.string 9 wr w.heap.size (fun _ => True) u246000 x246000_1) := ⟨by rw [← hq_]; exact (rp_ HO_246000)⟩; have n1_ : Aside0 (wr.heap[gb241]? = some (.cells #[.slice (some ad246) l0_0.length c0_0, .bool a0_1] 24 (0, 0))) := ⟨by rw [← hq_]; exact bk_⟩; have n2_ : Aside0 (wr.heap[gb242]? = some (.cells #[.slice none 0 0, .bool x243001_1] 24 (0, 0))) := ⟨by rw [← hq_]; exact bk_⟩; have n3_ : Aside0 (wr.heap[gb245]? = some (.cells #[u246000, .bool false] 24 (0, 0))) := ⟨by rw [← hq_]; exact bk_⟩; have n4_ : Aside0 (Below w.heap.size w wr) := ⟨by rw [← hq_]; exact hb_⟩; clear HO_246000 BK241 BK242 BK245 HB hq_; have HO_246000 := n0_; have BK241 := n1_; have BK242 := n2_; have BK245 := n3_; have HB := n4_; clear n0_ n1_ n2_ n3_ n4_)); have p249 : 0 ≤ (x8_1 : Int) := of_decide_eq_true (by first | (with_reducible assumption) | assumption); have q249 : x8_1 < (l1.length : Int) := of_decide_eq_true (by first | (with_reducible assumption) | assumption); obtain ⟨ad249, A249_0, c249_0, e249, hx249_0, hx249_1, hl249_0, hi249_0⟩ := at_T28 HR1.out x8_1 p249 q249; cases e249; replace hx249_0 := (HB.out.cell (World.block_lt_of_cell? w _ hx249_0)).trans hx249_0; replace hx249_1 := (HB.out.cell (World.block_lt_of_cell? w _ hx249_1)).trans hx249_1; have HR249_0 := Aside0.mk hi249_0; have HC249_0 := Aside0.mk hl249_0; clear hi249_0 hl249_0; replace p249 := eq_true p249; replace q249 := eq_true q249) | ((with_reducible refine gate_dst (N := 13) rfl ?_); refine box_event ?hg (N := 13) ?hd (cs := #[.slice none 0 0, .bool false]) (t := 28) ?hr ?_; (case hd => rfl); (case hg => rfl); (case hr => first | (go_simp; done) | (go_simp; rfl)); intro gb250 hg w59 hbox hb; have BK250 := Aside0.mk hbox; have GW250 := gw_ HB hg; have GE250 := gw_ HB hg; have NB241_250 := nl_ BK241 hg; have NB250_241 := nr_ BK241 hg; have NB242_250 := nl_ BK242 hg; have NB250_242 := nr_ BK242 hg; have NB245_250 := nl_ BK245 hg; have NB250_245 := nr_ BK245 hg; replace HO_246000 := rb_ HO_246000 hb; replace BK241 := bb_ BK241 hb; replace BK242 := bb_ BK242 hb; replace BK245 := bb_ BK245 hb; replace HB := hs_ HB hb; clear hb hbox hg; have hnb60 := NB250_241.out; have hnc60 := NB241_250.out; have hnb61 := NB250_242.out; have hnc61 := NB242_250.out; have hnb62 := NB250_245.out; have hnc62 := NB245_250.out; obtain ⟨hcz63_0, hcz63_1, hfz63_0, hfz63_1⟩ := c2_ BK250; have hnb64 := NB242_241.out; have hnc64 := NB241_242.out; have hnb65 := NB242_245.out; have hnc65 := NB245_242.out; obtain ⟨hcz66_0, hcz66_1, hfz66_0, hfz66_1⟩ := c2_ BK242))
                        refine bodyPost_ret (results_ct rfl _ _ gb242 24 #[.slice none 0 0, .bool false] (0, 0) _ rfl bz_ Tryd.underlying24 rfl (by kernel_rfl)) rfl ?_
                        exact ⟨_, rt_, rn_, hb_⟩
                    · rw [if_neg c23] at H
                      exact absurd H (by simp)
                  · rw [if_neg c22] at H
                    exact absurd H (by simp)
                · replace c21 := Bool.eq_false_iff.mpr c21
                  subst c21
                  have H1 : (if x246000_1.length < 8796093022208 then (stockyardref03_Substitute.l0 k1 l1 x8_1 l0_0 (l0_0.length : Int) (wrap64 (x32_1 + 1)) l0_0 a0_1 (x246000_1 ++ [rdOf ByteArray.empty l0_0 x32_1]) false) else (none)) = some (r1, r2, r3) := by rw [if_neg (show ¬ (false = true) by decide)] at H; exact H
                  clear H
                  have H := H1
                  clear H1
                  by_cases c67 : x246000_1.length < 8796093022208
                  · rw [if_pos c67] at H
                    have LMc67 := Aside0.mk c67
                    clear c67
                    obtain ⟨y257, hy257⟩ : ∃ y_ : List ByteArray, y_ = (x246000_1 ++ [rdOf ByteArray.empty l0_0 x32_1]) := ⟨_, rfl⟩
                    replace H : (stockyardref03_Substitute.l0 k1 l1 x8_1 l0_0 (l0_0.length : Int) (wrap64 (x32_1 + 1)) l0_0 a0_1 y257 false) = some (r1, r2, r3) := by first | (rw [hy257]; with_reducible exact H) | (have H2_ := (Option.bind_some _ _).symm.trans H; rw [hy257]; with_reducible exact H2_) | (have H2_ := (Option.bind_some _ _).symm.trans H; with_reducible exact H2_) | with_reducible exact H | (rw [hy257]; exact H) | exact H
                    have Ny257 := Aside0.mk hy257
                    clear hy257
                    have H' := Aside0.mk H
                    clear H
                    have p246 : 0 ≤ (x32_1 : Int) := of_decide_eq_true (by first | (with_reducible assumption) | assumption)
                    have q246 : x32_1 < (l0_0.length : Int) := of_decide_eq_true (by first | (with_reducible assumption) | assumption)
                    obtain ⟨ad246, e246, hx246_0⟩ := Kd.at_string HR0_0.out x32_1 p246 q246
                    cases e246
                    replace hx246_0 := (HB.out.cell (World.block_lt_of_cell? w _ hx246_0)).trans hx246_0
                    replace p246 := eq_true p246
                    replace q246 := eq_true q246
                    go_wp2_with (first | ((with_reducible refine gate_callee (f := 42) rfl ?_); refine goesL_ (some 38) rfl rfl Tryd.func42 (by kernel_rfl) rfl #[.string (rdOf ByteArray.empty l0_0 x32_1)] rfl gl_ ?_; (with_reducible refine (stockyardref03_Star.calls k1 (rdOf ByteArray.empty l0_0 x32_1) t247 false _ A20.out).mono ?_); rintro e w' ⟨rfl, ⟨nd, rfl⟩⟩; refine ⟨_, rfl, ?_⟩; (try (rw [drewN_self wr]; generalize hq_ : World.drewN wr _ = wr; have n0_ : Aside0 (Kd.R Kd.string 9 wr w.heap.size (fun _ => True) u246000 x246000_1) := ⟨by rw [← hq_]; exact (rp_ HO_246000)⟩; have n1_ : Aside0 (wr.heap[gb241]? = some (.cells #[.slice (some ad246) l0_0.length c0_0, .bool a0_1] 24 (0, 0))) := ⟨by rw [← hq_]; exact bk_⟩; have n2_ : Aside0 (wr.heap[gb242]? = some (.cells #[.slice none 0 0, .bool x243001_1] 24 (0, 0))) := ⟨by rw [← hq_]; exact bk_⟩; have n3_ : Aside0 (wr.heap[gb245]? = some (.cells #[u246000, .bool false] 24 (0, 0))) := ⟨by rw [← hq_]; exact bk_⟩; have n4_ : Aside0 (Below w.heap.size w wr) := ⟨by rw [← hq_]; exact hb_⟩; clear HO_246000 BK241 BK242 BK245 HB hq_; have HO_246000 := n0_; have BK241 := n1_; have BK242 := n2_; have BK245 := n3_; have HB := n4_; clear n0_ n1_ n2_ n3_ n4_)); have hnb68 := NB245_241.out; have hnc68 := NB241_245.out; have hnb69 := NB245_242.out; have hnc69 := NB242_245.out; obtain ⟨hcz70_0, hcz70_1, hfz70_0, hfz70_1⟩ := c2_ BK245) | ((with_reducible refine gate_builtin (b := .append) (xs := #[.tmp 72, .tmp 74]) rfl ?_); at_builtin; refine Kd.R_append Kd.string (w0 := w) w.heap.size rfl (.tmp 72) (.tmp 74) 22 9 (.string ⟨#[]⟩) 16 rfl Tryd.underlying22 info9 rfl (by decide) (by omega) u246000 x246000_1 (rdOf ByteArray.empty l0_0 x32_1) [.string (rdOf ByteArray.empty l0_0 x32_1)] (fun _ => True) (fun _ => False) rfl rfl ?aP (fun _ hk => hk.elim) ?aF ?aO ?aB ?aS ?aL ?_; (case aP => exact rfl); (case aB => exact hb_); (case aF => exact (fun _ _ => trivial)); (case aO => exact (rp_ HO_246000)); (case aS => exact (below_size hb_)); (case aL => have := LMc67.out; omega); intro v258 w71 ho hb hg hat; rw [← Ny257.out] at ho; have n0_ := Aside0.mk (blk_grown (g := gb241) (o := .cells #[.slice (some ad246) l0_0.length c0_0, .bool a0_1] 24 (0, 0)) bk_ hg (Kd.R_ne HO_246000.out BK241.out (by decide))); have n1_ := Aside0.mk (blk_grown (g := gb242) (o := .cells #[.slice none 0 0, .bool x243001_1] 24 (0, 0)) bk_ hg (Kd.R_ne HO_246000.out BK242.out (by decide))); have n2_ := Aside0.mk (blk_grown (g := gb245) (o := .cells #[u246000, .bool false] 24 (0, 0)) bk_ hg (Kd.R_ne HO_246000.out BK245.out (by decide))); have n3_ := Aside0.mk (hb); have n4_ := Aside0.mk (ho); clear BK241 BK242 BK245 HB HO_246000; have BK241 := n0_; have BK242 := n1_; have BK245 := n2_; have HB := n3_; have HO259 := n4_; clear n0_ n1_ n2_ n3_ n4_; clear ho hb hg hat; obtain ⟨Ao72, co72, eo72⟩ := Kd.R_slice HO259.out; subst eo72; obtain ⟨hcz73_0, hcz73_1, hfz73_0, hfz73_1⟩ := c2_ BK245))
                    go_roundg k1
                    case measure => have := HK1.out; omega
                    case rel => exact ⟨(x8_1), (wrap64 (x32_1 + 1)), (x243001_1), (y257), (.slice Ao72 y257.length co72), (by first | rfl | (simp; done) | (simp [*]; done)), (by first | rfl | (simp; done) | (simp [*]; done)), H', ⟨by have := HK1.out; omega⟩, ⟨by (with_reducible repeat (first | apply Kd.R_alloc | apply Kd.R_drewN | apply Kd.R_drew)); exact Kd.R_mono (Kd.R_far (p := ⟨gb245, 0, none⟩) (Kd.R_types HO259.out BK245.out (by decide)) (fun _ hk => hk.2) (.slice Ao72 y257.length co72)) (fun _ hk => trivial)⟩, ⟨by (with_reducible repeat (first | refine blk_drewN ?_ _ | refine blk_drew ?_ | refine blk_alloc ?_ _)); refine blk_far ?_ NB241_245.out _; (with_reducible repeat (first | refine blk_drewN ?_ _ | refine blk_drew ?_ | refine blk_alloc ?_ _)); exact BK241.out⟩, ⟨by (with_reducible repeat (first | refine blk_drewN ?_ _ | refine blk_drew ?_ | refine blk_alloc ?_ _)); refine blk_far ?_ NB242_245.out _; (with_reducible repeat (first | refine blk_drewN ?_ _ | refine blk_drew ?_ | refine blk_alloc ?_ _)); exact BK242.out⟩, ⟨by (with_reducible repeat (first | refine blk_drewN ?_ _ | refine blk_drew ?_ | refine blk_alloc ?_ _)); refine blk_put (cs := #[u246000, .bool false]) ?_ 0 _ rfl; (with_reducible repeat (first | refine blk_drewN ?_ _ | refine blk_drew ?_ | refine blk_alloc ?_ _)); exact BK245.out⟩, ⟨hb_⟩⟩
                  · rw [if_neg c67] at H
                    exact absurd H (by simp)
              · rw [if_neg c19] at H
                exact absurd H (by simp)
            · rw [if_neg c18] at H
              exact absurd H (by simp)
          · rw [if_neg c17] at H
            have c17b0 : decide (x32_1 < (l0_0.length : Int)) = false := decide_eq_false c17
            clear c17
            by_cases c74 : a0_1 = true
            · subst c74
              have H1 : (if 0 ≤ x8_1 then (if x8_1 < (l1.length : Int) then (if (((rd_T28 l1 x8_1).f0).length : Int) = 0 then (stockyardref03_Substitute.j1 k1 (!((rd_T28 l1 x8_1).f1)) x246000_1 false ((rd_T28 l1 x8_1).f0) ((rd_T28 l1 x8_1).f1)) else (stockyardref03_Substitute.j1 k1 false x246000_1 false ((rd_T28 l1 x8_1).f0) ((rd_T28 l1 x8_1).f1))) else (none)) else (none)) = some (r1, r2, r3) := by rw [if_pos rfl] at H; exact H
              clear H
              have H := H1
              clear H1
              by_cases c75 : 0 ≤ x8_1
              · rw [if_pos c75] at H
                have c75b0 : decide (0 ≤ x8_1) = true := decide_eq_true c75
                clear c75
                by_cases c76 : x8_1 < (l1.length : Int)
                · rw [if_pos c76] at H
                  have c76b0 : decide (x8_1 < (l1.length : Int)) = true := decide_eq_true c76
                  clear c76
                  have HC77 := Aside0.mk H
                  clear H
                  have hnb78 := NB241_242.out
                  have hnc78 := NB242_241.out
                  have hnb79 := NB241_245.out
                  have hnc79 := NB245_241.out
                  obtain ⟨hcz80_0, hcz80_1, hfz80_0, hfz80_1⟩ := c2_ BK241
                  have p260 : 0 ≤ (x8_1 : Int) := of_decide_eq_true (by first | (with_reducible assumption) | assumption)
                  have q260 : x8_1 < (l1.length : Int) := of_decide_eq_true (by first | (with_reducible assumption) | assumption)
                  obtain ⟨ad260, A260_0, c260_0, e260, hx260_0, hx260_1, hl260_0, hi260_0⟩ := at_T28 HR1.out x8_1 p260 q260
                  cases e260
                  replace hx260_0 := (HB.out.cell (World.block_lt_of_cell? w _ hx260_0)).trans hx260_0
                  replace hx260_1 := (HB.out.cell (World.block_lt_of_cell? w _ hx260_1)).trans hx260_1
                  have HR260_0 := Aside0.mk hi260_0
                  have HC260_0 := Aside0.mk hl260_0
                  clear hi260_0 hl260_0
                  replace p260 := eq_true p260
                  replace q260 := eq_true q260
                  go_upto_region 21 with (first | ((with_reducible refine gate_dst (N := 14) rfl ?_); refine box_event ?hg (N := 14) ?hd (cs := #[.slice none 0 0, .bool false]) (t := 28) ?hr ?_; (case hd => rfl); (case hg => rfl); (case hr => first | (go_simp; done) | (go_simp; rfl)); intro gb261 hg w81 hbox hb; have BK261 := Aside0.mk hbox; have GW261 := gw_ HB hg; have GE261 := gw_ HB hg; have NB241_261 := nl_ BK241 hg; have NB261_241 := nr_ BK241 hg; have NB242_261 := nl_ BK242 hg; have NB261_242 := nr_ BK242 hg; have NB245_261 := nl_ BK245 hg; have NB261_245 := nr_ BK245 hg; replace HO_246000 := rb_ HO_246000 hb; replace BK241 := bb_ BK241 hb; replace BK242 := bb_ BK242 hb; replace BK245 := bb_ BK245 hb; replace HB := hs_ HB hb; clear hb hbox hg; have hnb82 := NB261_241.out; have hnc82 := NB241_261.out; have hnb83 := NB261_242.out; have hnc83 := NB242_261.out; have hnb84 := NB261_245.out; have hnc84 := NB245_261.out; obtain ⟨hcz85_0, hcz85_1, hfz85_0, hfz85_1⟩ := c2_ BK261))
                  (try simp only [Act.put, List.setIfInBounds_toArray, List.set_cons_zero, List.set_cons_succ])
                  go_cut [92] (fun v92 wc => ∃ (kq : Nat) (x92_76 : Bool), v92 = .bool x92_76 ∧ Aside0 (stockyardref03_Substitute.j1 kq x92_76 x246000_1 false ((rd_T28 l1 x8_1).f0) ((rd_T28 l1 x8_1).f1) = some (r1, r2, r3)) ∧ Aside0 (kq ≤ k1) ∧ Aside0 (Kd.R Kd.string 9 wc w.heap.size (fun _ => True) u246000 x246000_1) ∧ Aside0 (wc.heap[gb241]? = some (.cells #[(.slice A0_0 l0_0.length c0_0), .bool true] 24 (0, 0))) ∧ Aside0 (wc.heap[gb242]? = some (.cells #[(.slice none 0 0), .bool x243001_1] 24 (0, 0))) ∧ Aside0 (wc.heap[gb245]? = some (.cells #[u246000, .bool false] 24 (0, 0))) ∧ Aside0 (wc.heap[gb261]? = some (.cells #[(.slice A260_0 ((rd_T28 l1 x8_1).f0).length c260_0), .bool ((rd_T28 l1 x8_1).f1)] 28 (0, 0))) ∧ Aside0 (Below w.heap.size w wc))
                  case first =>
                    have H := HC77.out
                    clear HC77
                    by_cases c86 : (((rd_T28 l1 x8_1).f0).length : Int) = 0
                    · rw [if_pos c86] at H
                      have c86b0 : ((((rd_T28 l1 x8_1).f0).length : Int) == 0) = true := beq_iff_eq.mpr c86
                      have c86b1 : ((((rd_T28 l1 x8_1).f0).length : Int) != 0) = false := bne_eq_false_iff_eq.mpr c86
                      clear c86
                      (first | rw [c86b0] | (simp only [i64_w, i32_w]; rw [c86b0]) | skip)
                      have H' := Aside0.mk H
                      clear H
                      have hnb87 := NB261_241.out
                      have hnc87 := NB241_261.out
                      have hnb88 := NB261_242.out
                      have hnc88 := NB242_261.out
                      have hnb89 := NB261_245.out
                      have hnc89 := NB245_261.out
                      obtain ⟨hcz90_0, hcz90_1, hfz90_0, hfz90_1⟩ := c2_ BK261
                      go_wp2
                      go_meet
                      case rel => exact ⟨_, (!((rd_T28 l1 x8_1).f1)), (by first | rfl | (simp; done) | (simp [*]; done)), H', ⟨by have := HK1.out; first | omega | exact Nat.le_refl _⟩, ⟨by (with_reducible repeat (first | apply Kd.R_alloc | apply Kd.R_drewN | apply Kd.R_drew)); exact Kd.R_mono (Kd.R_far (p := ⟨gb261, 1, none⟩) (Kd.R_far (p := ⟨gb261, 0, none⟩) (Kd.R_types HO_246000.out BK261.out (by decide)) (fun _ hk => hk.2) (.slice A260_0 ((rd_T28 l1 x8_1).f0).length c260_0)) (fun _ hk => hk.2) (.bool ((rd_T28 l1 x8_1).f1))) (fun _ hk => trivial)⟩, ⟨by (with_reducible repeat (first | refine blk_drewN ?_ _ | refine blk_drew ?_ | refine blk_alloc ?_ _)); refine blk_far ?_ NB241_261.out _; (with_reducible repeat (first | refine blk_drewN ?_ _ | refine blk_drew ?_ | refine blk_alloc ?_ _)); refine blk_far ?_ NB241_261.out _; (with_reducible repeat (first | refine blk_drewN ?_ _ | refine blk_drew ?_ | refine blk_alloc ?_ _)); exact BK241.out⟩, ⟨by (with_reducible repeat (first | refine blk_drewN ?_ _ | refine blk_drew ?_ | refine blk_alloc ?_ _)); refine blk_far ?_ NB242_261.out _; (with_reducible repeat (first | refine blk_drewN ?_ _ | refine blk_drew ?_ | refine blk_alloc ?_ _)); refine blk_far ?_ NB242_261.out _; (with_reducible repeat (first | refine blk_drewN ?_ _ | refine blk_drew ?_ | refine blk_alloc ?_ _)); exact BK242.out⟩, ⟨by (with_reducible repeat (first | refine blk_drewN ?_ _ | refine blk_drew ?_ | refine blk_alloc ?_ _)); refine blk_far ?_ NB245_261.out _; (with_reducible repeat (first | refine blk_drewN ?_ _ | refine blk_drew ?_ | refine blk_alloc ?_ _)); refine blk_far ?_ NB245_261.out _; (with_reducible repeat (first | refine blk_drewN ?_ _ | refine blk_drew ?_ | refine blk_alloc ?_ _)); exact BK245.out⟩, ⟨by (with_reducible repeat (first | refine blk_drewN ?_ _ | refine blk_drew ?_ | refine blk_alloc ?_ _)); refine blk_put (cs := #[.slice A260_0 ((rd_T28 l1 x8_1).f0).length c260_0, .bool false]) ?_ 1 _ rfl; (with_reducible repeat (first | refine blk_drewN ?_ _ | refine blk_drew ?_ | refine blk_alloc ?_ _)); refine blk_put (cs := #[.slice none 0 0, .bool false]) ?_ 0 _ rfl; (with_reducible repeat (first | refine blk_drewN ?_ _ | refine blk_drew ?_ | refine blk_alloc ?_ _)); exact BK261.out⟩, ⟨hb_⟩⟩
                    · rw [if_neg c86] at H
                      have c86b0 : ((((rd_T28 l1 x8_1).f0).length : Int) == 0) = false := beq_eq_false_iff_ne.mpr c86
                      have c86b1 : ((((rd_T28 l1 x8_1).f0).length : Int) != 0) = true := bne_iff_ne.mpr c86
                      have c86b2 : ¬ (((rd_T28 l1 x8_1).f0) = []) := fun h_ => c86 (by rw [h_]; rfl)
                      (first | rw [c86b0] | (simp only [i64_w, i32_w]; rw [c86b0]) | skip)
                      have H' := Aside0.mk H
                      clear H
                      have hnb91 := NB261_241.out
                      have hnc91 := NB241_261.out
                      have hnb92 := NB261_242.out
                      have hnc92 := NB242_261.out
                      have hnb93 := NB261_245.out
                      have hnc93 := NB245_261.out
                      obtain ⟨hcz94_0, hcz94_1, hfz94_0, hfz94_1⟩ := c2_ BK261
                      go_wp2
                      go_meet
                      case rel => exact ⟨_, (false), (by first | rfl | (simp; done) | (simp [*]; done)), H', ⟨by have := HK1.out; first | omega | exact Nat.le_refl _⟩, ⟨by (with_reducible repeat (first | apply Kd.R_alloc | apply Kd.R_drewN | apply Kd.R_drew)); exact Kd.R_mono (Kd.R_far (p := ⟨gb261, 1, none⟩) (Kd.R_far (p := ⟨gb261, 0, none⟩) (Kd.R_types HO_246000.out BK261.out (by decide)) (fun _ hk => hk.2) (.slice A260_0 ((rd_T28 l1 x8_1).f0).length c260_0)) (fun _ hk => hk.2) (.bool ((rd_T28 l1 x8_1).f1))) (fun _ hk => trivial)⟩, ⟨by (with_reducible repeat (first | refine blk_drewN ?_ _ | refine blk_drew ?_ | refine blk_alloc ?_ _)); refine blk_far ?_ NB241_261.out _; (with_reducible repeat (first | refine blk_drewN ?_ _ | refine blk_drew ?_ | refine blk_alloc ?_ _)); refine blk_far ?_ NB241_261.out _; (with_reducible repeat (first | refine blk_drewN ?_ _ | refine blk_drew ?_ | refine blk_alloc ?_ _)); exact BK241.out⟩, ⟨by (with_reducible repeat (first | refine blk_drewN ?_ _ | refine blk_drew ?_ | refine blk_alloc ?_ _)); refine blk_far ?_ NB242_261.out _; (with_reducible repeat (first | refine blk_drewN ?_ _ | refine blk_drew ?_ | refine blk_alloc ?_ _)); refine blk_far ?_ NB242_261.out _; (with_reducible repeat (first | refine blk_drewN ?_ _ | refine blk_drew ?_ | refine blk_alloc ?_ _)); exact BK242.out⟩, ⟨by (with_reducible repeat (first | refine blk_drewN ?_ _ | refine blk_drew ?_ | refine blk_alloc ?_ _)); refine blk_far ?_ NB245_261.out _; (with_reducible repeat (first | refine blk_drewN ?_ _ | refine blk_drew ?_ | refine blk_alloc ?_ _)); refine blk_far ?_ NB245_261.out _; (with_reducible repeat (first | refine blk_drewN ?_ _ | refine blk_drew ?_ | refine blk_alloc ?_ _)); exact BK245.out⟩, ⟨by (with_reducible repeat (first | refine blk_drewN ?_ _ | refine blk_drew ?_ | refine blk_alloc ?_ _)); refine blk_put (cs := #[.slice A260_0 ((rd_T28 l1 x8_1).f0).length c260_0, .bool false]) ?_ 1 _ rfl; (with_reducible repeat (first | refine blk_drewN ?_ _ | refine blk_drew ?_ | refine blk_alloc ?_ _)); refine blk_put (cs := #[.slice none 0 0, .bool false]) ?_ 0 _ rfl; (with_reducible repeat (first | refine blk_drewN ?_ _ | refine blk_drew ?_ | refine blk_alloc ?_ _)); exact BK261.out⟩, ⟨hb_⟩⟩
                  case rest =>
                    clear HC77; (try clear c1); (try clear c2); (try clear p2); (try clear q2); (try clear hx2); (try clear qi2); (try clear c3); (try clear c4); (try clear c4b0); (try clear c4b1); (try clear c5); (try clear c6); (try clear c6b0); (try clear c6b1); (try clear p6); (try clear c7); (try clear c8); (try clear c9); (try clear c15); (try clear c16); (try clear c17); (try clear c17b0); (try clear c18); (try clear c18b0); (try clear c19); (try clear c19b0); (try clear c21); (try clear c22); (try clear c22b0); (try clear c23); (try clear c23b0); (try clear c24); (try clear c24b0); (try clear c24b1); (try clear p24); (try clear q24); (try clear hx24); (try clear p25); (try clear q25); (try clear hx25); (try clear qi25); (try clear c26); (try clear p26); (try clear q26); (try clear hx26); (try clear c28); (try clear c29); (try clear c30); (try clear c32); (try clear c33); (try clear c35); (try clear c35b0); (try clear c35b1); (try clear c37); (try clear c38); (try clear c38b0); (try clear c38b1); (try clear c38b2); (try clear c39); (try clear c40); (try clear c41); (try clear c42); (try clear c43); (try clear c45); (try clear c46); (try clear c52); (try clear c53); (try clear c54); (try clear c56); (try clear c57); (try clear c60); (try clear c61); (try clear c62); (try clear c64); (try clear p64); (try clear c65); (try clear c67); (try clear c68); (try clear c69); (try clear c74); (try clear c75); (try clear c75b0); (try clear c76); (try clear c76b0); (try clear c78); (try clear c79); (try clear c82); (try clear c83); (try clear c84); (try clear c86); (try clear c86b0); (try clear c86b1); (try clear c86b2); (try clear c87); (try clear c88); (try clear c89); (try clear c91); (try clear c92); (try clear c93); (try clear hcz10_0); (try clear hcz10_1); (try clear hcz12_0); (try clear hcz12_1); (try clear hcz16_0); (try clear hcz16_1); (try clear hcz31_0); (try clear hcz31_1); (try clear hcz34_0); (try clear hcz34_1); (try clear hcz44_0); (try clear hcz44_1); (try clear hcz47_0); (try clear hcz47_1); (try clear hcz50_0); (try clear hcz50_1); (try clear hcz55_0); (try clear hcz55_1); (try clear hcz58_0); (try clear hcz58_1); (try clear hcz63_0); (try clear hcz63_1); (try clear hcz66_0); (try clear hcz66_1); (try clear hcz70_0); (try clear hcz70_1); (try clear hcz73_0); (try clear hcz73_1); (try clear hcz80_0); (try clear hcz80_1); (try clear hcz85_0); (try clear hcz85_1); (try clear hcz90_0); (try clear hcz90_1); (try clear hcz94_0); (try clear hcz94_1); (try clear hfz10_0); (try clear hfz10_1); (try clear hfz12_0); (try clear hfz12_1); (try clear hfz16_0); (try clear hfz16_1); (try clear hfz31_0); (try clear hfz31_1); (try clear hfz34_0); (try clear hfz34_1); (try clear hfz44_0); (try clear hfz44_1); (try clear hfz47_0); (try clear hfz47_1); (try clear hfz50_0); (try clear hfz50_1); (try clear hfz55_0); (try clear hfz55_1); (try clear hfz58_0); (try clear hfz58_1); (try clear hfz63_0); (try clear hfz63_1); (try clear hfz66_0); (try clear hfz66_1); (try clear hfz70_0); (try clear hfz70_1); (try clear hfz73_0); (try clear hfz73_1); (try clear hfz80_0); (try clear hfz80_1); (try clear hfz85_0); (try clear hfz85_1); (try clear hfz90_0); (try clear hfz90_1); (try clear hfz94_0); (try clear hfz94_1); (try clear hx246_0); (try clear hx249_0); (try clear hx249_1); (try clear hx251_0); (try clear hx253_0); (try clear hx260_0); (try clear hx260_1); (try clear p2); (try clear p246); (try clear p249); (try clear p251); (try clear p253); (try clear p260); (try clear q246); (try clear q249); (try clear q251); (try clear q253); (try clear q260)
                    obtain ⟨kq, x92_76, rfl, HA, HJ76, HO_246000, BK241, BK242, BK245, BK261, HB⟩ := hcut
                    cases kq with
                    | zero => exact absurd HA.out (by simp [stockyardref03_Substitute.j1])
                    | succ kj76 =>
                      have H := HA.out
                      clear HA
                      simp only [stockyardref03_Substitute.j1] at H
                      by_cases c95 : x92_76 = true
                      · subst c95
                        have H1 : (some (([] : List ByteArray), false, 33)) = some (r1, r2, r3) := by rw [if_pos rfl] at H; exact H
                        clear H
                        have H := H1
                        clear H1
                        simp only [Option.some.injEq, Prod.mk.injEq] at H
                        obtain ⟨rfl, rfl, rfl⟩ := H
                        have hnb96 := NB242_241.out
                        have hnc96 := NB241_242.out
                        have hnb97 := NB242_245.out
                        have hnc97 := NB245_242.out
                        have hnb98 := NB242_261.out
                        have hnc98 := NB261_242.out
                        obtain ⟨hcz99_0, hcz99_1, hfz99_0, hfz99_1⟩ := c2_ BK242
                        go_wp2
                        refine bodyPost_ret (results_ct rfl _ _ gb242 24 #[.slice none 0 0, .bool false] (0, 0) _ rfl bz_ Tryd.underlying24 rfl (by kernel_rfl)) rfl ?_
                        exact ⟨_, rt_, rn_, hb_⟩
                      · replace c95 := Bool.eq_false_iff.mpr c95
                        subst c95
                        have H1 : (stockyardref03_Substitute.l1 kj76 ((rd_T28 l1 x8_1).f0) (((rd_T28 l1 x8_1).f0).length : Int) 0 x246000_1 false ((rd_T28 l1 x8_1).f0) ((rd_T28 l1 x8_1).f1)) = some (r1, r2, r3) := by rw [if_neg (show ¬ (false = true) by decide)] at H; exact H
                        clear H
                        have H := H1
                        clear H1
                        have H' := Aside0.mk H
                        clear H
                        have hnb100 := NB261_241.out
                        have hnc100 := NB241_261.out
                        have hnb101 := NB261_242.out
                        have hnc101 := NB242_261.out
                        have hnb102 := NB261_245.out
                        have hnc102 := NB245_261.out
                        obtain ⟨hcz103_0, hcz103_1, hfz103_0, hfz103_1⟩ := c2_ BK261
                        go_wp2
                        go_loopg [97] kj76 (fun kq v97 w' => ∃ (x97_3 : Int) (x243001_3 : Bool), v97 = .int .i64 x97_3 ∧ Aside0 (stockyardref03_Substitute.l1 kq ((rd_T28 l1 x8_1).f0) (((rd_T28 l1 x8_1).f0).length : Int) x97_3 x246000_1 false ((rd_T28 l1 x8_1).f0) ((rd_T28 l1 x8_1).f1) = some (r1, r2, r3)) ∧ Aside0 (kq ≤ kj76) ∧ Aside0 (Kd.R Kd.string 9 w' w.heap.size (fun _ => True) u246000 x246000_1) ∧ Aside0 (w'.heap[gb241]? = some (.cells #[(.slice A0_0 l0_0.length c0_0), .bool true] 24 (0, 0))) ∧ Aside0 (w'.heap[gb242]? = some (.cells #[(.slice none 0 0), .bool x243001_3] 24 (0, 0))) ∧ Aside0 (w'.heap[gb245]? = some (.cells #[u246000, .bool false] 24 (0, 0))) ∧ Aside0 (w'.heap[gb261]? = some (.cells #[(.slice A260_0 ((rd_T28 l1 x8_1).f0).length c260_0), .bool ((rd_T28 l1 x8_1).f1)] 28 (0, 0))) ∧ Aside0 (Below w.heap.size w w'))
                        case atStart => exact ⟨(0), (x243001_1), (by first | rfl | (simp; done) | (simp [*]; done)), H', ⟨Nat.le_refl _⟩, ⟨by (with_reducible repeat (first | apply Kd.R_alloc | apply Kd.R_drewN | apply Kd.R_drew)); exact HO_246000.out⟩, ⟨bk_⟩, ⟨bk_⟩, ⟨bk_⟩, ⟨bk_⟩, ⟨hb_⟩⟩
                        case round =>
                          clear H'
                          (try clear c1); (try clear c2); (try clear p2); (try clear q2); (try clear hx2); (try clear qi2); (try clear c3); (try clear c4); (try clear c4b0); (try clear c4b1); (try clear c5); (try clear c6); (try clear c6b0); (try clear c6b1); (try clear p6); (try clear c7); (try clear c8); (try clear c9); (try clear c10); (try clear c15); (try clear c16); (try clear c17); (try clear c17b0); (try clear c18); (try clear c18b0); (try clear c19); (try clear c19b0); (try clear c21); (try clear c22); (try clear c22b0); (try clear c23); (try clear c23b0); (try clear c24); (try clear c24b0); (try clear c24b1); (try clear p24); (try clear q24); (try clear hx24); (try clear p25); (try clear q25); (try clear hx25); (try clear qi25); (try clear c26); (try clear p26); (try clear q26); (try clear hx26); (try clear c28); (try clear c29); (try clear c30); (try clear c32); (try clear c33); (try clear c35); (try clear c35b0); (try clear c35b1); (try clear c37); (try clear c38); (try clear c38b0); (try clear c38b1); (try clear c38b2); (try clear c39); (try clear c40); (try clear c41); (try clear c42); (try clear c43); (try clear c45); (try clear c46); (try clear c52); (try clear c53); (try clear c54); (try clear c56); (try clear c57); (try clear c60); (try clear c61); (try clear c62); (try clear c64); (try clear p64); (try clear c65); (try clear c67); (try clear c68); (try clear c69); (try clear c74); (try clear c75); (try clear c75b0); (try clear c76); (try clear c76b0); (try clear c78); (try clear c79); (try clear c82); (try clear c83); (try clear c84); (try clear c86); (try clear c86b0); (try clear c86b1); (try clear c86b2); (try clear c87); (try clear c88); (try clear c89); (try clear c91); (try clear c92); (try clear c93); (try clear c95); (try clear c96); (try clear c97); (try clear c98); (try clear c100); (try clear c101); (try clear c102); (try clear hcz103_0); (try clear hcz103_1); (try clear hcz10_0); (try clear hcz10_1); (try clear hcz12_0); (try clear hcz12_1); (try clear hcz16_0); (try clear hcz16_1); (try clear hcz31_0); (try clear hcz31_1); (try clear hcz34_0); (try clear hcz34_1); (try clear hcz44_0); (try clear hcz44_1); (try clear hcz47_0); (try clear hcz47_1); (try clear hcz50_0); (try clear hcz50_1); (try clear hcz55_0); (try clear hcz55_1); (try clear hcz58_0); (try clear hcz58_1); (try clear hcz63_0); (try clear hcz63_1); (try clear hcz66_0); (try clear hcz66_1); (try clear hcz70_0); (try clear hcz70_1); (try clear hcz73_0); (try clear hcz73_1); (try clear hcz80_0); (try clear hcz80_1); (try clear hcz85_0); (try clear hcz85_1); (try clear hcz90_0); (try clear hcz90_1); (try clear hcz94_0); (try clear hcz94_1); (try clear hcz99_0); (try clear hcz99_1); (try clear hfz103_0); (try clear hfz103_1); (try clear hfz10_0); (try clear hfz10_1); (try clear hfz12_0); (try clear hfz12_1); (try clear hfz16_0); (try clear hfz16_1); (try clear hfz31_0); (try clear hfz31_1); (try clear hfz34_0); (try clear hfz34_1); (try clear hfz44_0); (try clear hfz44_1); (try clear hfz47_0); (try clear hfz47_1); (try clear hfz50_0); (try clear hfz50_1); (try clear hfz55_0); (try clear hfz55_1); (try clear hfz58_0); (try clear hfz58_1); (try clear hfz63_0); (try clear hfz63_1); (try clear hfz66_0); (try clear hfz66_1); (try clear hfz70_0); (try clear hfz70_1); (try clear hfz73_0); (try clear hfz73_1); (try clear hfz80_0); (try clear hfz80_1); (try clear hfz85_0); (try clear hfz85_1); (try clear hfz90_0); (try clear hfz90_1); (try clear hfz94_0); (try clear hfz94_1); (try clear hfz99_0); (try clear hfz99_1); (try clear hx246_0); (try clear hx249_0); (try clear hx249_1); (try clear hx251_0); (try clear hx253_0); (try clear hx260_0); (try clear hx260_1); (try clear p2); (try clear p24); (try clear p246); (try clear p249); (try clear p25); (try clear p251); (try clear p253); (try clear p26); (try clear p260); (try clear p6); (try clear p64); (try clear q2); (try clear q24); (try clear q246); (try clear q249); (try clear q25); (try clear q251); (try clear q253); (try clear q26); (try clear q260)
                          obtain ⟨x97_3, x243001_3, rfl, HA, HK3, HO_246000, BK241, BK242, BK245, BK261, HB⟩ := hrel
                          cases gk with
                          | zero => exact absurd HA.out (by simp [stockyardref03_Substitute.l1])
                          | succ k3 =>
                            have H := HA.out
                            clear HA
                            simp only [stockyardref03_Substitute.l1] at H
                            by_cases c104 : x97_3 < (((rd_T28 l1 x8_1).f0).length : Int)
                            · rw [if_pos c104] at H
                              have c104b0 : decide (x97_3 < (((rd_T28 l1 x8_1).f0).length : Int)) = true := decide_eq_true c104
                              clear c104
                              by_cases c105 : 0 ≤ x97_3
                              · rw [if_pos c105] at H
                                have c105b0 : decide (0 ≤ x97_3) = true := decide_eq_true c105
                                clear c105
                                by_cases c106 : x97_3 < (((rd_T28 l1 x8_1).f0).length : Int)
                                · rw [if_pos c106] at H
                                  have c106b0 : decide (x97_3 < (((rd_T28 l1 x8_1).f0).length : Int)) = true := decide_eq_true c106
                                  clear c106
                                  replace H := Option.bind_eq_some_iff.mp H
                                  obtain ⟨t263, A1070, H⟩ := H
                                  replace H : (if t263 = true then (stockyardref03_Substitute.l1 k3 ((rd_T28 l1 x8_1).f0) (((rd_T28 l1 x8_1).f0).length : Int) (wrap64 (x97_3 + 1)) x246000_1 false ((rd_T28 l1 x8_1).f0) ((rd_T28 l1 x8_1).f1)) else (some (([] : List ByteArray), false, 33))) = some (r1, r2, r3) := H
                                  have A107 := Aside0.mk A1070
                                  clear A1070
                                  by_cases c108 : t263 = true
                                  · subst c108
                                    have H1 : (stockyardref03_Substitute.l1 k3 ((rd_T28 l1 x8_1).f0) (((rd_T28 l1 x8_1).f0).length : Int) (wrap64 (x97_3 + 1)) x246000_1 false ((rd_T28 l1 x8_1).f0) ((rd_T28 l1 x8_1).f1)) = some (r1, r2, r3) := by rw [if_pos rfl] at H; exact H
                                    clear H
                                    have H := H1
                                    clear H1
                                    have H' := Aside0.mk H
                                    clear H
                                    have p262 : 0 ≤ (x97_3 : Int) := of_decide_eq_true (by first | (with_reducible assumption) | assumption)
                                    have q262 : x97_3 < (((rd_T28 l1 x8_1).f0).length : Int) := of_decide_eq_true (by first | (with_reducible assumption) | assumption)
                                    obtain ⟨ad262, e262, hx262_0⟩ := Kd.at_string HR260_0.out x97_3 p262 q262
                                    cases e262
                                    replace hx262_0 := (HB.out.cell (World.block_lt_of_cell? w _ hx262_0)).trans hx262_0
                                    replace p262 := eq_true p262
                                    replace q262 := eq_true q262
                                    go_wp2_with (first | ((with_reducible refine gate_callee (f := 43) rfl ?_); refine goesL_ (some 102) rfl rfl Tryd.func43 (by kernel_rfl) rfl #[.string (rdOf ByteArray.empty ((rd_T28 l1 x8_1).f0) x97_3)] rfl gl_ ?_; (with_reducible refine (stockyardref03_Part.calls k3 (rdOf ByteArray.empty ((rd_T28 l1 x8_1).f0) x97_3) true _ A107.out).mono ?_); rintro e w' ⟨rfl, ⟨nd, rfl⟩⟩; refine ⟨_, rfl, ?_⟩))
                                    go_roundg k3
                                    case measure => have := HK1.out; have := HJ76.out; have := HK3.out; omega
                                    case rel => exact ⟨(wrap64 (x97_3 + 1)), (x243001_3), (by first | rfl | (simp; done) | (simp [*]; done)), H', ⟨by have := HK1.out; have := HJ76.out; have := HK3.out; omega⟩, ⟨by (with_reducible repeat (first | apply Kd.R_alloc | apply Kd.R_drewN | apply Kd.R_drew)); exact HO_246000.out⟩, ⟨bk_⟩, ⟨bk_⟩, ⟨bk_⟩, ⟨bk_⟩, ⟨hb_⟩⟩
                                  · replace c108 := Bool.eq_false_iff.mpr c108
                                    subst c108
                                    have H1 : (some (([] : List ByteArray), false, 33)) = some (r1, r2, r3) := by rw [if_neg (show ¬ (false = true) by decide)] at H; exact H
                                    clear H
                                    have H := H1
                                    clear H1
                                    simp only [Option.some.injEq, Prod.mk.injEq] at H
                                    obtain ⟨rfl, rfl, rfl⟩ := H
                                    have p262 : 0 ≤ (x97_3 : Int) := of_decide_eq_true (by first | (with_reducible assumption) | assumption)
                                    have q262 : x97_3 < (((rd_T28 l1 x8_1).f0).length : Int) := of_decide_eq_true (by first | (with_reducible assumption) | assumption)
                                    obtain ⟨ad262, e262, hx262_0⟩ := Kd.at_string HR260_0.out x97_3 p262 q262
                                    cases e262
                                    replace hx262_0 := (HB.out.cell (World.block_lt_of_cell? w _ hx262_0)).trans hx262_0
                                    replace p262 := eq_true p262
                                    replace q262 := eq_true q262
                                    go_wp2_with (first | ((with_reducible refine gate_callee (f := 43) rfl ?_); refine goesL_ (some 102) rfl rfl Tryd.func43 (by kernel_rfl) rfl #[.string (rdOf ByteArray.empty ((rd_T28 l1 x8_1).f0) x97_3)] rfl gl_ ?_; (with_reducible refine (stockyardref03_Part.calls k3 (rdOf ByteArray.empty ((rd_T28 l1 x8_1).f0) x97_3) false _ A107.out).mono ?_); rintro e w' ⟨rfl, ⟨nd, rfl⟩⟩; refine ⟨_, rfl, ?_⟩; (try (rw [drewN_self wr]; generalize hq_ : World.drewN wr _ = wr; have n0_ : Aside0 (Kd.R Kd.string 9 wr w.heap.size (fun _ => True) u246000 x246000_1) := ⟨by rw [← hq_]; exact (rp_ HO_246000)⟩; have n1_ : Aside0 (wr.heap[gb241]? = some (.cells #[.slice A0_0 l0_0.length c0_0, .bool true] 24 (0, 0))) := ⟨by rw [← hq_]; exact bk_⟩; have n2_ : Aside0 (wr.heap[gb242]? = some (.cells #[.slice none 0 0, .bool x243001_3] 24 (0, 0))) := ⟨by rw [← hq_]; exact bk_⟩; have n3_ : Aside0 (wr.heap[gb245]? = some (.cells #[u246000, .bool false] 24 (0, 0))) := ⟨by rw [← hq_]; exact bk_⟩; have n4_ : Aside0 (wr.heap[gb261]? = some (.cells #[.slice (some ad262) ((rd_T28 l1 x8_1).f0).length c260_0, .bool ((rd_T28 l1 x8_1).f1)] 28 (0, 0))) := ⟨by rw [← hq_]; exact bk_⟩; have n5_ : Aside0 (Below w.heap.size w wr) := ⟨by rw [← hq_]; exact hb_⟩; clear HO_246000 BK241 BK242 BK245 BK261 HB hq_; have HO_246000 := n0_; have BK241 := n1_; have BK242 := n2_; have BK245 := n3_; have BK261 := n4_; have HB := n5_; clear n0_ n1_ n2_ n3_ n4_ n5_)); have hnb109 := NB242_241.out; have hnc109 := NB241_242.out; have hnb110 := NB242_245.out; have hnc110 := NB245_242.out; have hnb111 := NB242_261.out; have hnc111 := NB261_242.out; obtain ⟨hcz112_0, hcz112_1, hfz112_0, hfz112_1⟩ := c2_ BK242))
                                    refine bodyPost_ret (results_ct rfl _ _ gb242 24 #[.slice none 0 0, .bool false] (0, 0) _ rfl bz_ Tryd.underlying24 rfl (by kernel_rfl)) rfl ?_
                                    exact ⟨_, rt_, rn_, hb_⟩
                                · rw [if_neg c106] at H
                                  exact absurd H (by simp)
                              · rw [if_neg c105] at H
                                exact absurd H (by simp)
                            · rw [if_neg c104] at H
                              have c104b0 : decide (x97_3 < (((rd_T28 l1 x8_1).f0).length : Int)) = false := decide_eq_false c104
                              clear c104
                              by_cases c113 : x246000_1.length + ((rd_T28 l1 x8_1).f0).length < 8796093022208
                              · rw [if_pos c113] at H
                                have LMc113 := Aside0.mk c113
                                clear c113
                                obtain ⟨y264, hy264⟩ : ∃ y_ : List ByteArray, y_ = (x246000_1 ++ ((rd_T28 l1 x8_1).f0)) := ⟨_, rfl⟩
                                replace H : (if (y264.length : Int) > 12 then (some (([] : List ByteArray), false, 31)) else (some (y264, ((rd_T28 l1 x8_1).f1), 0))) = some (r1, r2, r3) := by first | (rw [hy264]; with_reducible exact H) | (have H2_ := (Option.bind_some _ _).symm.trans H; rw [hy264]; with_reducible exact H2_) | (have H2_ := (Option.bind_some _ _).symm.trans H; with_reducible exact H2_) | with_reducible exact H | (rw [hy264]; exact H) | exact H
                                have Ny264 := Aside0.mk hy264
                                clear hy264
                                by_cases c114 : (y264.length : Int) > 12
                                · rw [if_pos c114] at H
                                  have c114b0 : decide (12 < (y264.length : Int)) = true := decide_eq_true c114
                                  have c114b1 : decide (12 < y264.length) = true := decide_eq_true (by omega)
                                  clear c114
                                  simp only [Option.some.injEq, Prod.mk.injEq] at H
                                  obtain ⟨rfl, rfl, rfl⟩ := H
                                  try go_wp2
                                  have n0_ := Aside0.mk (Kd.R_drew HO_246000.out)
                                  have n1_ := Aside0.mk (blk_drew BK241.out)
                                  have n2_ := Aside0.mk (blk_drew BK242.out)
                                  have n3_ := Aside0.mk (blk_drew BK245.out)
                                  have n4_ := Aside0.mk (blk_drew BK261.out)
                                  have n5_ := Aside0.mk (below_drew1 HB.out)
                                  clear HO_246000 BK241 BK242 BK245 BK261 HB
                                  have HO_246000 := n0_
                                  have BK241 := n1_
                                  have BK242 := n2_
                                  have BK245 := n3_
                                  have BK261 := n4_
                                  have HB := n5_
                                  clear n0_ n1_ n2_ n3_ n4_ n5_
                                  refine start_ (n := 11) (S := fun w' => w'.cell? ⟨gb261, 0, none⟩ = some (.slice A260_0 ((rd_T28 l1 x8_1).f0).length c260_0) ∧ w'.cell? ⟨gb261, 1, none⟩ = some (.bool ((rd_T28 l1 x8_1).f1))) (ds := []) #[false, false, false, false, false, false, false, false, false, false, false] (by kernel_rfl) rfl rfl ⟨(blk_cell BK261.out 0).trans rfl, (blk_cell BK261.out 1).trans rfl⟩ (fun hHeld => ?_); refine with_tabW stockyardref03_Substitute.tab29 stockyardref03_Substitute.bits29 (fun HT_ HW_ => ?_)
                                  generalize wr.drew = w115 at HO_246000 BK241 BK242 BK245 BK261 HB hHeld ⊢
                                  refine pure_ (i := 0) (N := some 106) (v := ?_) (a' := ?_) #[true, false, false, false, false, false, false, false, false, false, false] rfl rfl (any_of HT_.out (by kernel_rfl)) (fun _ _ _ h => h) (Or.inl ⟨by rfl, ?_⟩) ?_ ?_
                                  rotate_left
                                  · intro w'
                                    go_simp
                                    with_reducible rfl
                                  rotate_left
                                  · simp only [Act.put, List.setIfInBounds_toArray, List.set_cons_zero, List.set_cons_succ, i64_w, i32_w]
                                    rfl
                                  refine pure_ (i := 2) (N := some 108) (v := ?_) (a' := ?_) #[true, false, true, false, false, false, false, false, false, false, false] rfl rfl (any_of HT_.out (by kernel_rfl)) (fun _ _ _ h => h) (Or.inl ⟨by rfl, ?_⟩) ?_ ?_
                                  rotate_left
                                  · intro w'
                                    go_simp
                                    with_reducible rfl
                                  rotate_left
                                  · simp only [Act.put, List.setIfInBounds_toArray, List.set_cons_zero, List.set_cons_succ, i64_w, i32_w]
                                    rfl
                                  refine pure_ (i := 5) (N := some 111) (v := ?_) (a' := ?_) #[true, false, true, false, false, true, false, false, false, false, false] rfl rfl (any_of HT_.out (by kernel_rfl)) (fun _ _ _ h => h) (Or.inl ⟨by rfl, ?_⟩) ?_ ?_
                                  rotate_left
                                  · intro w'
                                    go_simp
                                    with_reducible rfl
                                  rotate_left
                                  · simp only [Act.put, List.setIfInBounds_toArray, List.set_cons_zero, List.set_cons_succ, i64_w, i32_w]
                                    rfl
                                  refine take_ (i := 3) (N := some 109) (v := ?_) (a' := ?_) #[true, false, true, true, false, true, false, false, false, false, false] rfl rfl (take_ofW HT_.out HW_.out (by kernel_rfl)) (fun _ _ _ h => h) (Or.inl ⟨by rfl, ?_⟩) hHeld ?_ ?_
                                  rotate_left
                                  · rintro w' ⟨s0, s1⟩
                                    go_simp
                                    with_reducible rfl
                                  rotate_left
                                  · simp only [Act.put, List.setIfInBounds_toArray, List.set_cons_zero, List.set_cons_succ, i64_w, i32_w]
                                    rfl
                                  refine take_ (i := 6) (N := some 112) (v := ?_) (a' := ?_) #[true, false, true, true, false, true, true, false, false, false, false] rfl rfl (take_ofW HT_.out HW_.out (by kernel_rfl)) (fun _ _ _ h => h) (Or.inl ⟨by rfl, ?_⟩) hHeld ?_ ?_
                                  rotate_left
                                  · rintro w' ⟨s0, s1⟩
                                    go_simp
                                    with_reducible rfl
                                  rotate_left
                                  · simp only [Act.put, List.setIfInBounds_toArray, List.set_cons_zero, List.set_cons_succ, i64_w, i32_w]
                                    rfl
                                  refine one_ (i := 1) (N := some 107) #[true, true, true, true, false, true, true, false, false, false, false] rfl rfl (one_of HT_.out (by kernel_rfl)) (by decide) (fun K hK => ?_)
                                  have hv0_0_ : (_ : World).cell? ⟨gb245, 0, none⟩ = some (u246000) := (blk_cell BK245.out 0).trans rfl
                                  have hv0_1_ : (_ : World).cell? ⟨gb245, 1, none⟩ = some (.bool false) := (blk_cell BK245.out 1).trans rfl
                                  refine value_ (w1 := ?_) (v := ?_) (by rfl) rfl ?_ ?_
                                  rotate_left 2
                                  · go_simp
                                    constructor
                                    · rfl
                                    · rfl
                                  refine hK.out _ _ ⟨hHeld.1, hHeld.2⟩ (fun hHeld => ?_)
                                  clear hK K
                                  refine norm_ (a' := ?_) ?_ ?_
                                  rotate_left
                                  · show Act.put _ (some 107) _ = _
                                    simp only [Act.put, List.setIfInBounds_toArray, List.set_cons_zero, List.set_cons_succ, i64_w, i32_w]
                                    rfl
                                  refine one_ (i := 4) (N := some 110) #[true, true, true, true, true, true, true, false, false, false, false] rfl rfl (one_of HT_.out (by kernel_rfl)) (by decide) (fun K hK => ?_)
                                  refine Kd.R_append_rows_step Kd.string (w0 := w) w.heap.size (by rfl) (.tmp 107) (.tmp 109) 22 9 (.string ⟨#[]⟩) 16 rfl Tryd.underlying22 info9 rfl (by decide) (by omega) u246000 x246000_1 ((rd_T28 l1 x8_1).f0) _ _ _ (fun _ => True) (fun _ => False) rfl rfl ?aO ?aR (fun _ _ h => h) (fun _ h => h.elim) ?aF ?aB ?aS ?aL ?_
                                  (case aR => repeat (first | exact (Kd.C_below HR260_0.out HB.out) | (with_reducible refine Kd.C_alloc ?_ _) | (with_reducible refine Kd.C_drewN ?_ _) | (with_reducible refine Kd.C_drew ?_)))
                                  (case aB => exact hb_)
                                  (case aF => exact (fun _ _ => trivial))
                                  (case aO => exact (rp_ HO_246000))
                                  (case aS => exact (below_size hb_))
                                  (case aL => have := LMc113.out; omega)
                                  intro v265 w116 ho hb hg hat
                                  rw [← Ny264.out] at ho
                                  have n0_ := Aside0.mk (blk_grown (g := gb241) (o := .cells #[.slice A0_0 l0_0.length c0_0, .bool true] 24 (0, 0)) bk_ hg (Kd.R_ne HO_246000.out BK241.out (by decide)))
                                  have n1_ := Aside0.mk (blk_grown (g := gb242) (o := .cells #[.slice none 0 0, .bool x243001_3] 24 (0, 0)) bk_ hg (Kd.R_ne HO_246000.out BK242.out (by decide)))
                                  have n2_ := Aside0.mk (blk_grown (g := gb245) (o := .cells #[u246000, .bool false] 24 (0, 0)) bk_ hg (Kd.R_ne HO_246000.out BK245.out (by decide)))
                                  have n3_ := Aside0.mk (blk_grown (g := gb261) (o := .cells #[.slice A260_0 ((rd_T28 l1 x8_1).f0).length c260_0, .bool ((rd_T28 l1 x8_1).f1)] 28 (0, 0)) bk_ hg (Kd.R_ne HO_246000.out BK261.out (by decide)))
                                  have n4_ := Aside0.mk (hb)
                                  have n5_ := Aside0.mk (ho)
                                  clear BK241 BK242 BK245 BK261 HB HO_246000
                                  have BK241 := n0_
                                  have BK242 := n1_
                                  have BK245 := n2_
                                  have BK261 := n3_
                                  have HB := n4_
                                  have HO266 := n5_
                                  clear n0_ n1_ n2_ n3_ n4_ n5_
                                  clear ho hb hg hat
                                  obtain ⟨Ao117, co117, eo117⟩ := Kd.R_slice HO266.out
                                  (first | subst eo117 | (injection eo117 with f1_ f2_ f3_; have f4_ := f1_.symm; have f5_ := f3_.symm; clear f1_ f2_ f3_; subst f4_; subst f5_))
                                  refine hK.out _ _ ⟨(blk_cell BK261.out 0).trans rfl, (blk_cell BK261.out 1).trans rfl⟩ (fun hHeld => ?_)
                                  clear hK K
                                  refine norm_ (a' := ?_) ?_ ?_
                                  rotate_left
                                  · show Act.put _ (some 110) _ = _
                                    simp only [Act.put, List.setIfInBounds_toArray, List.set_cons_zero, List.set_cons_succ, i64_w, i32_w]
                                    rfl
                                  refine pure_ (i := 7) (N := some 113) (v := ?_) (a' := ?_) #[true, true, true, true, true, true, true, true, false, false, false] rfl rfl (any_of HT_.out (by kernel_rfl)) (fun _ _ _ h => h) (Or.inl ⟨by rfl, ?_⟩) ?_ ?_
                                  rotate_left
                                  · intro w'
                                    go_simp
                                    with_reducible rfl
                                  rotate_left
                                  · simp only [Act.put, List.setIfInBounds_toArray, List.set_cons_zero, List.set_cons_succ, i64_w, i32_w]
                                    rfl
                                  refine one_ (i := 8) (N := none) #[true, true, true, true, true, true, true, true, true, false, false] rfl rfl (one_of HT_.out (by kernel_rfl)) (by decide) (fun K hK => ?_)
                                  have hs118 : w116.cell? ⟨gb245, 0, none⟩ = some (u246000) := (blk_cell BK245.out 0).trans rfl
                                  have hfs118 := blk_frozen BK245.out 0
                                  have hns118_0 := NB241_245.out
                                  have hns118_1 := NB242_245.out
                                  have hns118_3 := NB261_245.out
                                  have hms118_0 := NB245_241.out
                                  have hms118_1 := NB245_242.out
                                  have hms118_3 := NB245_261.out
                                  refine skip_ (w1 := ?_) (by rfl) rfl ?_ ?_
                                  rotate_left
                                  · go_simp
                                    rfl
                                  refine hK.out _ _ ⟨((cell_far (p := ⟨gb245, _, none⟩) NB261_245.out _).trans (hHeld.1)), ((cell_far (p := ⟨gb245, _, none⟩) NB261_245.out _).trans (hHeld.2))⟩ (fun hHeld => ?_)
                                  clear hK K
                                  refine pure_ (i := 9) (N := some 114) (v := ?_) (a' := ?_) #[true, true, true, true, true, true, true, true, true, true, false] rfl rfl (any_of HT_.out (by kernel_rfl)) (fun _ _ _ h => h) (Or.inl ⟨by rfl, ?_⟩) ?_ ?_
                                  rotate_left
                                  · intro w'
                                    go_simp
                                    with_reducible rfl
                                  rotate_left
                                  · simp only [Act.put, List.setIfInBounds_toArray, List.set_cons_zero, List.set_cons_succ, i64_w, i32_w]
                                    rfl
                                  refine one_ (i := 10) (N := none) #[true, true, true, true, true, true, true, true, true, true, true] rfl rfl (one_of HT_.out (by kernel_rfl)) (by decide) (fun K hK => ?_)
                                  have hs119 : w116.cell? ⟨gb245, 1, none⟩ = some (.bool false) := (blk_cell BK245.out 1).trans rfl
                                  have hfs119 := blk_frozen BK245.out 1
                                  have hns119_0 := NB241_245.out
                                  have hns119_1 := NB242_245.out
                                  have hns119_3 := NB261_245.out
                                  have hms119_0 := NB245_241.out
                                  have hms119_1 := NB245_242.out
                                  have hms119_3 := NB245_261.out
                                  refine skip_ (w1 := ?_) (by rfl) rfl ?_ ?_
                                  rotate_left
                                  · go_simp
                                    rfl
                                  refine hK.out _ _ ⟨((cell_far (p := ⟨gb245, _, none⟩) NB261_245.out _).trans (hHeld.1)), ((cell_far (p := ⟨gb245, _, none⟩) NB261_245.out _).trans (hHeld.2))⟩ (fun hHeld => ?_)
                                  clear hK K
                                  refine done_ (done_of HT_.out (by kernel_rfl)) ?_
                                  have hnb120 := NB245_241.out
                                  have hnc120 := NB241_245.out
                                  have hnb121 := NB245_242.out
                                  have hnc121 := NB242_245.out
                                  have hnb122 := NB245_261.out
                                  have hnc122 := NB261_245.out
                                  obtain ⟨hcz123_0, hcz123_1, hfz123_0, hfz123_1⟩ := c2_ BK245
                                  have hnb124 := NB242_241.out
                                  have hnc124 := NB241_242.out
                                  have hnb125 := NB242_261.out
                                  have hnc125 := NB261_242.out
                                  obtain ⟨hcz126_0, hcz126_1, hfz126_0, hfz126_1⟩ := c2_ BK242
                                  try go_wp2
                                  refine bodyPost_ret (results_ct rfl _ _ gb242 24 #[.slice none 0 0, .bool false] (0, 0) _ rfl bz_ Tryd.underlying24 rfl (by kernel_rfl)) rfl ?_
                                  exact ⟨_, rt_, rn_, hb_⟩
                                · rw [if_neg c114] at H
                                  have c114b0 : decide (12 < (y264.length : Int)) = false := decide_eq_false c114
                                  have c114b1 : decide (12 < y264.length) = false := decide_eq_false (by omega)
                                  clear c114
                                  simp only [Option.some.injEq, Prod.mk.injEq] at H
                                  obtain ⟨rfl, rfl, rfl⟩ := H
                                  try go_wp2
                                  have n0_ := Aside0.mk (Kd.R_drew HO_246000.out)
                                  have n1_ := Aside0.mk (blk_drew BK241.out)
                                  have n2_ := Aside0.mk (blk_drew BK242.out)
                                  have n3_ := Aside0.mk (blk_drew BK245.out)
                                  have n4_ := Aside0.mk (blk_drew BK261.out)
                                  have n5_ := Aside0.mk (below_drew1 HB.out)
                                  clear HO_246000 BK241 BK242 BK245 BK261 HB
                                  have HO_246000 := n0_
                                  have BK241 := n1_
                                  have BK242 := n2_
                                  have BK245 := n3_
                                  have BK261 := n4_
                                  have HB := n5_
                                  clear n0_ n1_ n2_ n3_ n4_ n5_
                                  refine start_ (n := 11) (S := fun w' => w'.cell? ⟨gb261, 0, none⟩ = some (.slice A260_0 ((rd_T28 l1 x8_1).f0).length c260_0) ∧ w'.cell? ⟨gb261, 1, none⟩ = some (.bool ((rd_T28 l1 x8_1).f1))) (ds := []) #[false, false, false, false, false, false, false, false, false, false, false] (by kernel_rfl) rfl rfl ⟨(blk_cell BK261.out 0).trans rfl, (blk_cell BK261.out 1).trans rfl⟩ (fun hHeld => ?_); refine with_tabW stockyardref03_Substitute.tab29 stockyardref03_Substitute.bits29 (fun HT_ HW_ => ?_)
                                  generalize wr.drew = w127 at HO_246000 BK241 BK242 BK245 BK261 HB hHeld ⊢
                                  refine pure_ (i := 0) (N := some 106) (v := ?_) (a' := ?_) #[true, false, false, false, false, false, false, false, false, false, false] rfl rfl (any_of HT_.out (by kernel_rfl)) (fun _ _ _ h => h) (Or.inl ⟨by rfl, ?_⟩) ?_ ?_
                                  rotate_left
                                  · intro w'
                                    go_simp
                                    with_reducible rfl
                                  rotate_left
                                  · simp only [Act.put, List.setIfInBounds_toArray, List.set_cons_zero, List.set_cons_succ, i64_w, i32_w]
                                    rfl
                                  refine pure_ (i := 2) (N := some 108) (v := ?_) (a' := ?_) #[true, false, true, false, false, false, false, false, false, false, false] rfl rfl (any_of HT_.out (by kernel_rfl)) (fun _ _ _ h => h) (Or.inl ⟨by rfl, ?_⟩) ?_ ?_
                                  rotate_left
                                  · intro w'
                                    go_simp
                                    with_reducible rfl
                                  rotate_left
                                  · simp only [Act.put, List.setIfInBounds_toArray, List.set_cons_zero, List.set_cons_succ, i64_w, i32_w]
                                    rfl
                                  refine pure_ (i := 5) (N := some 111) (v := ?_) (a' := ?_) #[true, false, true, false, false, true, false, false, false, false, false] rfl rfl (any_of HT_.out (by kernel_rfl)) (fun _ _ _ h => h) (Or.inl ⟨by rfl, ?_⟩) ?_ ?_
                                  rotate_left
                                  · intro w'
                                    go_simp
                                    with_reducible rfl
                                  rotate_left
                                  · simp only [Act.put, List.setIfInBounds_toArray, List.set_cons_zero, List.set_cons_succ, i64_w, i32_w]
                                    rfl
                                  refine take_ (i := 3) (N := some 109) (v := ?_) (a' := ?_) #[true, false, true, true, false, true, false, false, false, false, false] rfl rfl (take_ofW HT_.out HW_.out (by kernel_rfl)) (fun _ _ _ h => h) (Or.inl ⟨by rfl, ?_⟩) hHeld ?_ ?_
                                  rotate_left
                                  · rintro w' ⟨s0, s1⟩
                                    go_simp
                                    with_reducible rfl
                                  rotate_left
                                  · simp only [Act.put, List.setIfInBounds_toArray, List.set_cons_zero, List.set_cons_succ, i64_w, i32_w]
                                    rfl
                                  refine take_ (i := 6) (N := some 112) (v := ?_) (a' := ?_) #[true, false, true, true, false, true, true, false, false, false, false] rfl rfl (take_ofW HT_.out HW_.out (by kernel_rfl)) (fun _ _ _ h => h) (Or.inl ⟨by rfl, ?_⟩) hHeld ?_ ?_
                                  rotate_left
                                  · rintro w' ⟨s0, s1⟩
                                    go_simp
                                    with_reducible rfl
                                  rotate_left
                                  · simp only [Act.put, List.setIfInBounds_toArray, List.set_cons_zero, List.set_cons_succ, i64_w, i32_w]
                                    rfl
                                  refine one_ (i := 1) (N := some 107) #[true, true, true, true, false, true, true, false, false, false, false] rfl rfl (one_of HT_.out (by kernel_rfl)) (by decide) (fun K hK => ?_)
                                  have hv0_0_ : (_ : World).cell? ⟨gb245, 0, none⟩ = some (u246000) := (blk_cell BK245.out 0).trans rfl
                                  have hv0_1_ : (_ : World).cell? ⟨gb245, 1, none⟩ = some (.bool false) := (blk_cell BK245.out 1).trans rfl
                                  refine value_ (w1 := ?_) (v := ?_) (by rfl) rfl ?_ ?_
                                  rotate_left 2
                                  · go_simp
                                    constructor
                                    · rfl
                                    · rfl
                                  refine hK.out _ _ ⟨hHeld.1, hHeld.2⟩ (fun hHeld => ?_)
                                  clear hK K
                                  refine norm_ (a' := ?_) ?_ ?_
                                  rotate_left
                                  · show Act.put _ (some 107) _ = _
                                    simp only [Act.put, List.setIfInBounds_toArray, List.set_cons_zero, List.set_cons_succ, i64_w, i32_w]
                                    rfl
                                  refine one_ (i := 4) (N := some 110) #[true, true, true, true, true, true, true, false, false, false, false] rfl rfl (one_of HT_.out (by kernel_rfl)) (by decide) (fun K hK => ?_)
                                  refine Kd.R_append_rows_step Kd.string (w0 := w) w.heap.size (by rfl) (.tmp 107) (.tmp 109) 22 9 (.string ⟨#[]⟩) 16 rfl Tryd.underlying22 info9 rfl (by decide) (by omega) u246000 x246000_1 ((rd_T28 l1 x8_1).f0) _ _ _ (fun _ => True) (fun _ => False) rfl rfl ?aO ?aR (fun _ _ h => h) (fun _ h => h.elim) ?aF ?aB ?aS ?aL ?_
                                  (case aR => repeat (first | exact (Kd.C_below HR260_0.out HB.out) | (with_reducible refine Kd.C_alloc ?_ _) | (with_reducible refine Kd.C_drewN ?_ _) | (with_reducible refine Kd.C_drew ?_)))
                                  (case aB => exact hb_)
                                  (case aF => exact (fun _ _ => trivial))
                                  (case aO => exact (rp_ HO_246000))
                                  (case aS => exact (below_size hb_))
                                  (case aL => have := LMc113.out; omega)
                                  intro v265 w128 ho hb hg hat
                                  rw [← Ny264.out] at ho
                                  have n0_ := Aside0.mk (blk_grown (g := gb241) (o := .cells #[.slice A0_0 l0_0.length c0_0, .bool true] 24 (0, 0)) bk_ hg (Kd.R_ne HO_246000.out BK241.out (by decide)))
                                  have n1_ := Aside0.mk (blk_grown (g := gb242) (o := .cells #[.slice none 0 0, .bool x243001_3] 24 (0, 0)) bk_ hg (Kd.R_ne HO_246000.out BK242.out (by decide)))
                                  have n2_ := Aside0.mk (blk_grown (g := gb245) (o := .cells #[u246000, .bool false] 24 (0, 0)) bk_ hg (Kd.R_ne HO_246000.out BK245.out (by decide)))
                                  have n3_ := Aside0.mk (blk_grown (g := gb261) (o := .cells #[.slice A260_0 ((rd_T28 l1 x8_1).f0).length c260_0, .bool ((rd_T28 l1 x8_1).f1)] 28 (0, 0)) bk_ hg (Kd.R_ne HO_246000.out BK261.out (by decide)))
                                  have n4_ := Aside0.mk (hb)
                                  have n5_ := Aside0.mk (ho)
                                  clear BK241 BK242 BK245 BK261 HB HO_246000
                                  have BK241 := n0_
                                  have BK242 := n1_
                                  have BK245 := n2_
                                  have BK261 := n3_
                                  have HB := n4_
                                  have HO266 := n5_
                                  clear n0_ n1_ n2_ n3_ n4_ n5_
                                  clear ho hb hg hat
                                  obtain ⟨Ao129, co129, eo129⟩ := Kd.R_slice HO266.out
                                  (first | subst eo129 | (injection eo129 with f1_ f2_ f3_; have f4_ := f1_.symm; have f5_ := f3_.symm; clear f1_ f2_ f3_; subst f4_; subst f5_))
                                  refine hK.out _ _ ⟨(blk_cell BK261.out 0).trans rfl, (blk_cell BK261.out 1).trans rfl⟩ (fun hHeld => ?_)
                                  clear hK K
                                  refine norm_ (a' := ?_) ?_ ?_
                                  rotate_left
                                  · show Act.put _ (some 110) _ = _
                                    simp only [Act.put, List.setIfInBounds_toArray, List.set_cons_zero, List.set_cons_succ, i64_w, i32_w]
                                    rfl
                                  refine pure_ (i := 7) (N := some 113) (v := ?_) (a' := ?_) #[true, true, true, true, true, true, true, true, false, false, false] rfl rfl (any_of HT_.out (by kernel_rfl)) (fun _ _ _ h => h) (Or.inl ⟨by rfl, ?_⟩) ?_ ?_
                                  rotate_left
                                  · intro w'
                                    go_simp
                                    with_reducible rfl
                                  rotate_left
                                  · simp only [Act.put, List.setIfInBounds_toArray, List.set_cons_zero, List.set_cons_succ, i64_w, i32_w]
                                    rfl
                                  refine one_ (i := 8) (N := none) #[true, true, true, true, true, true, true, true, true, false, false] rfl rfl (one_of HT_.out (by kernel_rfl)) (by decide) (fun K hK => ?_)
                                  have hs130 : w128.cell? ⟨gb245, 0, none⟩ = some (u246000) := (blk_cell BK245.out 0).trans rfl
                                  have hfs130 := blk_frozen BK245.out 0
                                  have hns130_0 := NB241_245.out
                                  have hns130_1 := NB242_245.out
                                  have hns130_3 := NB261_245.out
                                  have hms130_0 := NB245_241.out
                                  have hms130_1 := NB245_242.out
                                  have hms130_3 := NB245_261.out
                                  refine skip_ (w1 := ?_) (by rfl) rfl ?_ ?_
                                  rotate_left
                                  · go_simp
                                    rfl
                                  refine hK.out _ _ ⟨((cell_far (p := ⟨gb245, _, none⟩) NB261_245.out _).trans (hHeld.1)), ((cell_far (p := ⟨gb245, _, none⟩) NB261_245.out _).trans (hHeld.2))⟩ (fun hHeld => ?_)
                                  clear hK K
                                  refine pure_ (i := 9) (N := some 114) (v := ?_) (a' := ?_) #[true, true, true, true, true, true, true, true, true, true, false] rfl rfl (any_of HT_.out (by kernel_rfl)) (fun _ _ _ h => h) (Or.inl ⟨by rfl, ?_⟩) ?_ ?_
                                  rotate_left
                                  · intro w'
                                    go_simp
                                    with_reducible rfl
                                  rotate_left
                                  · simp only [Act.put, List.setIfInBounds_toArray, List.set_cons_zero, List.set_cons_succ, i64_w, i32_w]
                                    rfl
                                  refine one_ (i := 10) (N := none) #[true, true, true, true, true, true, true, true, true, true, true] rfl rfl (one_of HT_.out (by kernel_rfl)) (by decide) (fun K hK => ?_)
                                  have hs131 : w128.cell? ⟨gb245, 1, none⟩ = some (.bool false) := (blk_cell BK245.out 1).trans rfl
                                  have hfs131 := blk_frozen BK245.out 1
                                  have hns131_0 := NB241_245.out
                                  have hns131_1 := NB242_245.out
                                  have hns131_3 := NB261_245.out
                                  have hms131_0 := NB245_241.out
                                  have hms131_1 := NB245_242.out
                                  have hms131_3 := NB245_261.out
                                  refine skip_ (w1 := ?_) (by rfl) rfl ?_ ?_
                                  rotate_left
                                  · go_simp
                                    rfl
                                  refine hK.out _ _ ⟨((cell_far (p := ⟨gb245, _, none⟩) NB261_245.out _).trans (hHeld.1)), ((cell_far (p := ⟨gb245, _, none⟩) NB261_245.out _).trans (hHeld.2))⟩ (fun hHeld => ?_)
                                  clear hK K
                                  refine done_ (done_of HT_.out (by kernel_rfl)) ?_
                                  have hnb132 := NB245_241.out
                                  have hnc132 := NB241_245.out
                                  have hnb133 := NB245_242.out
                                  have hnc133 := NB242_245.out
                                  have hnb134 := NB245_261.out
                                  have hnc134 := NB261_245.out
                                  obtain ⟨hcz135_0, hcz135_1, hfz135_0, hfz135_1⟩ := c2_ BK245
                                  have hnb136 := NB242_241.out
                                  have hnc136 := NB241_242.out
                                  have hnb137 := NB242_261.out
                                  have hnc137 := NB261_242.out
                                  obtain ⟨hcz138_0, hcz138_1, hfz138_0, hfz138_1⟩ := c2_ BK242
                                  try go_wp2
                                  refine bodyPost_ret (results_ct rfl _ _ gb242 24 #[.slice Ao129 y264.length co129, .bool ((rd_T28 l1 x8_1).f1)] (0, 0) _ rfl bz_ Tryd.underlying24 rfl (by kernel_rfl)) rfl ?_
                                  exact ⟨_, rt_, by (with_reducible repeat (first | apply Kd.R_alloc | apply Kd.R_drewN | apply Kd.R_drew)); exact Kd.R_mono (Kd.R_far (p := ⟨gb242, 1, none⟩) (Kd.R_far (p := ⟨gb242, 0, none⟩) (Kd.R_far (p := ⟨gb245, 1, none⟩) (Kd.R_far (p := ⟨gb245, 0, none⟩) (Kd.R_types (Kd.R_types HO266.out BK245.out (by decide)) BK242.out (by decide)) (fun _ hk => hk.1.2) (.slice Ao129 y264.length co129)) (fun _ hk => hk.1.2) (.bool ((rd_T28 l1 x8_1).f1))) (fun _ hk => hk.2) (.slice Ao129 y264.length co129)) (fun _ hk => hk.2) (.bool ((rd_T28 l1 x8_1).f1))) (fun _ hk => trivial), hb_⟩
                              · rw [if_neg c113] at H
                                exact absurd H (by simp)
                · rw [if_neg c76] at H
                  exact absurd H (by simp)
              · rw [if_neg c75] at H
                exact absurd H (by simp)
            · replace c74 := Bool.eq_false_iff.mpr c74
              subst c74
              have H1 : (if (x246000_1.length : Int) > 12 then (some (([] : List ByteArray), false, 31)) else (some (x246000_1, false, 0))) = some (r1, r2, r3) := by rw [if_neg (show ¬ (false = true) by decide)] at H; exact H
              clear H
              have H := H1
              clear H1
              by_cases c139 : (x246000_1.length : Int) > 12
              · rw [if_pos c139] at H
                have c139b0 : decide (12 < (x246000_1.length : Int)) = true := decide_eq_true c139
                have c139b1 : decide (12 < x246000_1.length) = true := decide_eq_true (by omega)
                clear c139
                simp only [Option.some.injEq, Prod.mk.injEq] at H
                obtain ⟨rfl, rfl, rfl⟩ := H
                have hnb140 := NB241_242.out
                have hnc140 := NB242_241.out
                have hnb141 := NB241_245.out
                have hnc141 := NB245_241.out
                obtain ⟨hcz142_0, hcz142_1, hfz142_0, hfz142_1⟩ := c2_ BK241
                have hnb143 := NB245_242.out
                have hnc143 := NB242_245.out
                obtain ⟨hcz144_0, hcz144_1, hfz144_0, hfz144_1⟩ := c2_ BK245
                obtain ⟨Ao145, co145, eo145⟩ := Kd.R_slice HO_246000.out
                subst eo145
                obtain ⟨hcz146_0, hcz146_1, hfz146_0, hfz146_1⟩ := c2_ BK242
                go_wp2
                refine bodyPost_ret (results_ct rfl _ _ gb242 24 #[.slice none 0 0, .bool false] (0, 0) _ rfl bz_ Tryd.underlying24 rfl (by kernel_rfl)) rfl ?_
                exact ⟨_, rt_, rn_, hb_⟩
              · rw [if_neg c139] at H
                have c139b0 : decide (12 < (x246000_1.length : Int)) = false := decide_eq_false c139
                have c139b1 : decide (12 < x246000_1.length) = false := decide_eq_false (by omega)
                clear c139
                simp only [Option.some.injEq, Prod.mk.injEq] at H
                obtain ⟨rfl, rfl, rfl⟩ := H
                have hnb147 := NB241_242.out
                have hnc147 := NB242_241.out
                have hnb148 := NB241_245.out
                have hnc148 := NB245_241.out
                obtain ⟨hcz149_0, hcz149_1, hfz149_0, hfz149_1⟩ := c2_ BK241
                have hnb150 := NB245_242.out
                have hnc150 := NB242_245.out
                obtain ⟨hcz151_0, hcz151_1, hfz151_0, hfz151_1⟩ := c2_ BK245
                obtain ⟨Ao152, co152, eo152⟩ := Kd.R_slice HO_246000.out
                subst eo152
                obtain ⟨hcz153_0, hcz153_1, hfz153_0, hfz153_1⟩ := c2_ BK242
                go_wp2
                refine bodyPost_ret (results_ct rfl _ _ gb242 24 #[.slice Ao152 x246000_1.length co152, .bool false] (0, 0) _ rfl bz_ Tryd.underlying24 rfl (by kernel_rfl)) rfl ?_
                exact ⟨_, rt_, by (with_reducible repeat (first | apply Kd.R_alloc | apply Kd.R_drewN | apply Kd.R_drew)); exact Kd.R_mono (Kd.R_far (p := ⟨gb242, 1, none⟩) (Kd.R_far (p := ⟨gb242, 0, none⟩) (Kd.R_types HO_246000.out BK242.out (by decide)) (fun _ hk => hk.2) (.slice Ao152 x246000_1.length co152)) (fun _ hk => hk.2) (.bool false)) (fun _ hk => trivial), hb_⟩
    · rw [if_neg c6] at H
      have c6b0 : ((l1.length : Int) == t244) = false := beq_eq_false_iff_ne.mpr c6
      have c6b1 : ((l1.length : Int) != t244) = true := bne_iff_ne.mpr c6
      simp only [Option.some.injEq, Prod.mk.injEq] at H
      obtain ⟨rfl, rfl, rfl⟩ := H
      go_enter Tryd.func16, Tryd.ntmps16
      go_wp2_with (first | ((with_reducible refine gate_dst (N := 2) rfl ?_); refine box_event ?hg (N := 2) ?hd (cs := #[.slice A0_0 l0_0.length c0_0, .bool a0_1]) (t := 24) ?hr ?_; (case hd => rfl); (case hg => rfl); (case hr => first | (go_simp; done) | (go_simp; rfl)); intro gb241 hg w154 hbox hb; have BK241 := Aside0.mk hbox; have GW241 := gw_ HB hg; have GE241 := gw_ HB hg; replace HB := hs_ HB hb; clear hb hbox hg) | ((with_reducible refine gate_dst (N := 4) rfl ?_); refine box_event ?hg (N := 4) ?hd (cs := #[.slice none 0 0, .bool false]) (t := 24) ?hr ?_; (case hd => rfl); (case hg => rfl); (case hr => first | (go_simp; done) | (go_simp; rfl)); intro gb242 hg w155 hbox hb; have BK242 := Aside0.mk hbox; have GW242 := gw_ HB hg; have GE242 := gw_ HB hg; have NB241_242 := nl_ BK241 hg; have NB242_241 := nr_ BK241 hg; replace BK241 := bb_ BK241 hb; replace HB := hs_ HB hb; clear hb hbox hg; have hnb156 := NB241_242.out; have hnc156 := NB242_241.out; obtain ⟨hcz157_0, hcz157_1, hfz157_0, hfz157_1⟩ := c2_ BK241) | ((with_reducible refine gate_callee (f := 40) rfl ?_); refine goesL_ (some 18) rfl rfl Tryd.func40 (by kernel_rfl) rfl #[.agg #[.slice A0_0 l0_0.length c0_0, .bool a0_1]] rfl gl_ ?_; (with_reducible refine (stockyardref03_Check.calls k _ _ l0_0 a0_1 t243 _ ?side1 ?side2 A3.out).mono ?_); (case side1 => exact sd_); (case side2 => exact HC0_0.out); rintro e w158 ⟨rfl, hb⟩; refine ⟨_, rfl, ?_⟩; replace BK241 := bb_ BK241 hb; replace BK242 := bb_ BK242 hb; replace HB := hs_ HB hb; (try clear hb); (try clear hb2); (try clear hk); (try clear hi); obtain ⟨hcz159_0, hcz159_1, hfz159_0, hfz159_1⟩ := c2_ BK241) | ((with_reducible refine gate_callee (f := 41) rfl ?_); refine goesL_ (some 26) rfl rfl Tryd.func41 (by kernel_rfl) rfl #[.agg #[.slice A0_0 l0_0.length c0_0, .bool a0_1]] rfl gl_ ?_; (with_reducible refine (stockyardref03_wildcards.calls k _ _ l0_0 a0_1 t244 _ ?side1 ?side2 A5.out).mono ?_); (case side1 => exact sd_); (case side2 => exact HC0_0.out); rintro e w160 ⟨rfl, hb⟩; refine ⟨_, rfl, ?_⟩; replace BK241 := bb_ BK241 hb; replace BK242 := bb_ BK242 hb; replace HB := hs_ HB hb; (try clear hb); (try clear hb2); (try clear hk); (try clear hi); obtain ⟨hcz161_0, hcz161_1, hfz161_0, hfz161_1⟩ := c2_ BK242))
      refine bodyPost_ret (results_ct rfl _ _ gb242 24 #[.slice none 0 0, .bool false] (0, 0) _ rfl bz_ Tryd.underlying24 rfl (by kernel_rfl)) rfl ?_
      exact ⟨_, rt_, rn_, hb_⟩
  · rw [if_neg c4] at H
    have c4b0 : (t243 == 0) = false := beq_eq_false_iff_ne.mpr c4
    have c4b1 : (t243 != 0) = true := bne_iff_ne.mpr c4
    simp only [Option.some.injEq, Prod.mk.injEq] at H
    obtain ⟨rfl, rfl, rfl⟩ := H
    go_enter Tryd.func16, Tryd.ntmps16
    go_wp2_with (first | ((with_reducible refine gate_dst (N := 2) rfl ?_); refine box_event ?hg (N := 2) ?hd (cs := #[.slice A0_0 l0_0.length c0_0, .bool a0_1]) (t := 24) ?hr ?_; (case hd => rfl); (case hg => rfl); (case hr => first | (go_simp; done) | (go_simp; rfl)); intro gb241 hg w162 hbox hb; have BK241 := Aside0.mk hbox; have GW241 := gw_ HB hg; have GE241 := gw_ HB hg; replace HB := hs_ HB hb; clear hb hbox hg) | ((with_reducible refine gate_dst (N := 4) rfl ?_); refine box_event ?hg (N := 4) ?hd (cs := #[.slice none 0 0, .bool false]) (t := 24) ?hr ?_; (case hd => rfl); (case hg => rfl); (case hr => first | (go_simp; done) | (go_simp; rfl)); intro gb242 hg w163 hbox hb; have BK242 := Aside0.mk hbox; have GW242 := gw_ HB hg; have GE242 := gw_ HB hg; have NB241_242 := nl_ BK241 hg; have NB242_241 := nr_ BK241 hg; replace BK241 := bb_ BK241 hb; replace HB := hs_ HB hb; clear hb hbox hg; have hnb164 := NB241_242.out; have hnc164 := NB242_241.out; obtain ⟨hcz165_0, hcz165_1, hfz165_0, hfz165_1⟩ := c2_ BK241) | ((with_reducible refine gate_callee (f := 40) rfl ?_); refine goesL_ (some 18) rfl rfl Tryd.func40 (by kernel_rfl) rfl #[.agg #[.slice A0_0 l0_0.length c0_0, .bool a0_1]] rfl gl_ ?_; (with_reducible refine (stockyardref03_Check.calls k _ _ l0_0 a0_1 t243 _ ?side1 ?side2 A3.out).mono ?_); (case side1 => exact sd_); (case side2 => exact HC0_0.out); rintro e w166 ⟨rfl, hb⟩; refine ⟨_, rfl, ?_⟩; replace BK241 := bb_ BK241 hb; replace BK242 := bb_ BK242 hb; replace HB := hs_ HB hb; (try clear hb); (try clear hb2); (try clear hk); (try clear hi); obtain ⟨hcz167_0, hcz167_1, hfz167_0, hfz167_1⟩ := c2_ BK242))
    refine bodyPost_ret (results_ct rfl _ _ gb242 24 #[.slice none 0 0, .bool false] (0, 0) _ rfl bz_ Tryd.underlying24 rfl (by kernel_rfl)) rfl ?_
    exact ⟨_, rt_, rn_, hb_⟩

end Go.Proofs.YthclkdplihchjaaDoor.P
